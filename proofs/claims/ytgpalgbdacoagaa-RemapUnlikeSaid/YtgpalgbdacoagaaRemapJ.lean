/- The law RemapUnlike, walked. -/
import Derived.Test.YtgpalgbdacoagaaRemapI
import Derived.Test.YtgpalgbdacoagaaOpenMix
namespace Go.Proofs.Ytgpalgbdacoagaa
open Go Go.RowKit
set_option linter.unusedVariables false
set_option linter.unusedSimpArgs false

theorem has_any (v : Value) (n : Nat) (l : List Int) (x : Int) (hn : n ≤ 4096) (hx : ∀ k, k < n → ¬ x = l.getD k 0) (w0 : World) (hR : Ro w0 [.row v 3 1 n (List.map (Value.int .i64) l)]) :
    Calls Try.prog 59 #[v, .int .i64 x] w0 fun e w' => e = .returned (.bool false) ∧ Below w0.heap.size w0 w' := by
  have ho : w0.ownsRow 0 3 1 v n (List.map (Value.int .i64) l) := hR 0 _ rfl
  have hl : l.length = n := by have := ho.1; simpa using this
  rcases ho.2 with ⟨rfl, rfl⟩ | ⟨g, cap, cur, rfl, _⟩
  · exact has_nil x w0
  · exact has_row g n cap l x hl hn hx w0 hR
section
variable {r s b o c y z : Int} {pg sn ns : Nat} (hL : Lay r s b o c y z pg sn ns) {C N : Nat} (hC : c = (C : Int)) (hN : (sn : Int) * c = (N : Int)) {L : List Int} {D : List Bool} {S : List Int} {pu ru : Nat} (U : Unl r z s sn pg ns L D S pu ru)
include hL hC hN U
theorem unl_new {n : Nat} (hn : n < N) : ∀ k, k < n → ¬ (idxP y r b o S (L.getD (n / C) 0) * 64 + ((n % C : Nat) : Int)) = (idxs y r b o S L C n).getD k 0 := by
  intro k hk e
  rw [idxs_get _ _ _ _ _ _ _ _ _ hk] at e
  obtain ⟨n1, n2⟩ := line_of hL hC hN hn
  obtain ⟨k1, k2⟩ := line_of hL hC hN (show k < N by omega)
  have vn := U.st.lv _ n1
  have vk := U.st.lv _ k1
  have hp := U.st.hp
  have hsn := hL.hsn
  have e1 : idxP y r b o S (L.getD (n / C) 0) = idxP y r b o S (L.getD (k / C) 0) := by omega
  have e2 : n % C = k % C := by omega
  have e3 := idxP_inj hL U (by omega) (by omega) (by omega) (by omega) e1
  have e4 := U.inj _ _ n1 k1 e3
  have a1 := Nat.div_add_mod n C
  have a2 := Nat.div_add_mod k C
  rw [e4, e2] at a1
  omega
theorem live_no {n : Nat} (hn : n < N) : deadB pg D (L.getD (n / C) 0) = false := by
  unfold deadB
  rw [U.live _ (line_of hL hC hN hn).1]
  simp
theorem rank_off {n : Nat} (hn : n < N) (hs : spB ns S (pgAt y r b o (L.getD (n / C) 0) / 16384) = true) : ¬ (idxP y r b o S (L.getD (n / C) 0) * 64 + ((n % C : Nat) : Int)) / 1048576 = pgAt y r b o (L.getD (n / C) 0) / 16384 := by
  obtain ⟨n1, n2⟩ := line_of hL hC hN hn
  have vn := U.st.lv _ n1
  have hp := U.st.hp
  have hsn := hL.hsn
  have hns := hL.hns
  obtain ⟨q, hq, p1, p2, p3, p4⟩ := idxP_parts hL U (h := L.getD (n / C) 0) (by omega) (by omega)
  obtain ⟨q', e1, e2, e3⟩ := spB_yes hs
  have : q' = q := by omega
  subst this
  rcases p4 with ⟨a, _⟩ | ⟨_, a, d, _⟩
  · exact absurd a e3
  · omega
end

set_option maxRecDepth 100000 in
set_option maxHeartbeats 4000000 in
theorem unlike_no (r s b o c y z : Int) (ad : Option Addr) (nA cA : Nat) (hbd : r ≤ 9223372036854775807 ∧ b ≤ 9223372036854775807 ∧ o ≤ 9223372036854775807 ∧ c ≤ 9223372036854775807) (hok : layoutOk r s b o c y z = false) (w0 : World) :
    Calls Try.prog 9 #[.agg #[.int .i64 r, .int .i64 s, .int .i64 b, .int .i64 o, .int .i64 c, .int .i64 y, .int .i64 z], .slice ad nA cA] w0 fun e w' => e = .returned (.bool true) ∧ Below w0.heap.size w0 w' := by
  refine x_enter Try.func9 rfl #[.agg #[.int .i64 r, .int .i64 s, .int .i64 b, .int .i64 o, .int .i64 c, .int .i64 y, .int .i64 z], .slice ad nA cA, undef, undef, undef, undef, undef, undef, undef, undef, undef, undef, undef, undef, undef, undef, undef, undef, undef, undef, undef, undef, undef, undef, undef, undef, undef, undef, undef, undef, undef, undef, undef, undef, undef, undef, undef, undef, undef, undef, undef, undef, undef, undef, undef, undef, undef, undef, undef, undef, undef, undef, undef, undef, undef, undef, undef, undef, undef, undef, undef, undef, undef, undef, undef, undef, undef, undef, undef, undef, undef, undef, undef, undef, undef, undef, undef, undef, undef, undef, undef, undef, undef, undef, undef, undef, undef, undef, undef, undef, undef, undef, undef, undef, undef, undef, undef, undef, undef, undef, undef, undef, undef, undef, undef, undef, undef, undef, undef, undef, undef, undef, undef, undef, undef, undef, undef, undef, undef, undef, undef, undef, undef, undef, undef, undef, undef, undef, undef, undef, undef, undef, undef, undef, undef, undef, undef, undef, undef, undef, undef, undef, undef, undef, undef, undef, undef, undef, undef, undef, undef, undef, undef, undef, undef, undef, undef, undef, undef, undef, undef, undef, undef, undef, undef, undef, undef, undef, undef, undef, undef, undef, undef, undef, undef, undef, undef, undef, undef, undef, undef, undef, undef, undef, undef, undef, undef, undef, undef, undef, undef, undef, undef, undef, undef, undef, undef, undef] (by kernel_rfl) ?_
  have H := Hs.nil w0
  obtain ⟨hb1, hb2, hb3, hb4⟩ := id hbd
  refine x_seq ?_
  refine x_region ?_
  refine x_box H #[.int .i64 r, .int .i64 s, .int .i64 b, .int .i64 o, .int .i64 c, .int .i64 y, .int .i64 z] 69 (by kernel_rfl) rfl (by kernel_rfl) ?_
  clear H
  intro v1 g1 H
  refine x_val (.bool false) (by kernel_rfl) rfl (by kernel_rfl) ?_
  refine x_nil ?_
  refine x_then ?_
  refine x_seq ?_
  refine x_seq ?_
  refine x_region ?_
  refine x_callB (.bool true) H (by kernel_rfl) rfl (by kernel_rfl) (anchor19 _) ?_
  clear H
  intro v2 H
  refine x_val (.bool false) (by kernel_rfl) rfl (by kernel_rfl) ?_
  refine x_nil ?_
  refine x_then ?_
  refine x_f (by kernel_rfl) ?_
  refine x_skipc ?_
  refine x_then ?_
  refine x_seq ?_
  refine x_seq ?_
  refine x_region ?_
  refine x_loadn (t := 69) H 0 g1 0 #[.int .i64 r, .int .i64 s, .int .i64 b, .int .i64 o, .int .i64 c, .int .i64 y, .int .i64 z] 69 [.int .i64 r, .int .i64 s, .int .i64 b, .int .i64 o, .int .i64 c, .int .i64 y, .int .i64 z] (by kernel_rfl) (by kernel_rfl) (by kernel_rfl) rfl (by kernel_rfl) (by kernel_rfl) ?_
  refine x_call (by kernel_rfl) rfl (by kernel_rfl) (small_any r s b o c y z (by omega) (by omega) (by omega) (by omega) _) ?_
  rintro _ v3 ⟨tS, rfl, hB⟩
  refine ⟨_, rfl, ?_⟩
  replace H := H.via hB
  clear hB
  refine x_val (.bool (!tS)) (by kernel_rfl) rfl (by kernel_rfl) ?_
  refine x_val (.bool (!tS)) (by kernel_rfl) rfl (by kernel_rfl) ?_
  cases h1 : tS
  · skip
    refine x_skip (by kernel_rfl) ?_
    refine x_skip (by kernel_rfl) ?_
    refine x_skip (by kernel_rfl) ?_
    refine x_val (.bool true) (by kernel_rfl) rfl (by kernel_rfl) ?_
    refine x_nil ?_
    refine x_then ?_
    refine x_t (by kernel_rfl) ?_
    refine x_seq ?_
    refine x_region ?_
    refine x_val (.bool true) (by kernel_rfl) rfl (by kernel_rfl) ?_
    refine x_nil ?_
    refine x_then ?_
    refine x_retc ?_
    refine x_then_ret ?_
    refine x_ret (.bool true) (by kernel_rfl) (by kernel_rfl) ?_
    exact ⟨rfl, H.below⟩
  · skip
    refine x_val (.slice ad nA cA) (by kernel_rfl) rfl (by kernel_rfl) ?_
    refine x_val (.int .i64 ((nA : Nat) : Int)) (by kernel_rfl) rfl (by kernel_rfl) ?_
    refine x_val (.bool (decide (30 < ((nA : Nat) : Int)))) (by kernel_rfl) rfl (by kernel_rfl) ?_
    refine x_val (.bool (decide (30 < ((nA : Nat) : Int)))) (by kernel_rfl) rfl (by kernel_rfl) ?_
    refine x_nil ?_
    refine x_then ?_
    cases h2 : decide (30 < ((nA : Nat) : Int))
    · skip
      have h2p := of_decide_eq_false h2
      refine x_f (by kernel_rfl) ?_
      refine x_skipc ?_
      refine x_then ?_
      refine x_seq ?_
      refine x_region ?_
      refine x_loadn (t := 69) H 0 g1 0 #[.int .i64 r, .int .i64 s, .int .i64 b, .int .i64 o, .int .i64 c, .int .i64 y, .int .i64 z] 69 [.int .i64 r, .int .i64 s, .int .i64 b, .int .i64 o, .int .i64 c, .int .i64 y, .int .i64 z] (by kernel_rfl) (by kernel_rfl) (by kernel_rfl) rfl (by kernel_rfl) (by kernel_rfl) ?_
      refine x_callB (.tuple #[.pointer none, .int .i64 22]) H (by kernel_rfl) rfl (by kernel_rfl) (New_no r s b o c y z hbd hok _) ?_
      clear H
      intro v4 H
      refine x_val (.tuple #[.pointer none, .int .i64 22]) (by kernel_rfl) rfl (by kernel_rfl) ?_
      refine x_val (.pointer none) (by kernel_rfl) rfl (by kernel_rfl) ?_
      refine x_val (.int .i64 22) (by kernel_rfl) rfl (by kernel_rfl) ?_
      refine x_val (.pointer none) (by kernel_rfl) rfl (by kernel_rfl) ?_
      refine x_val (.int .i64 22) (by kernel_rfl) rfl (by kernel_rfl) ?_
      refine x_nil ?_
      refine x_then ?_
      refine x_seq ?_
      refine x_seq ?_
      refine x_region ?_
      refine x_val (.int .i64 22) (by kernel_rfl) rfl (by kernel_rfl) ?_
      refine x_val (.bool true) (by kernel_rfl) rfl (by kernel_rfl) ?_
      refine x_val (.bool true) (by kernel_rfl) rfl (by kernel_rfl) ?_
      refine x_skip (by kernel_rfl) ?_
      refine x_skip (by kernel_rfl) ?_
      refine x_val (.bool true) (by kernel_rfl) rfl (by kernel_rfl) ?_
      refine x_nil ?_
      refine x_then ?_
      refine x_t (by kernel_rfl) ?_
      refine x_seq ?_
      refine x_region ?_
      refine x_val (.pointer none) (by kernel_rfl) rfl (by kernel_rfl) ?_
      refine x_val (.bool true) (by kernel_rfl) rfl (by kernel_rfl) ?_
      refine x_val (.bool true) (by kernel_rfl) rfl (by kernel_rfl) ?_
      refine x_nil ?_
      refine x_then ?_
      refine x_retc ?_
      refine x_then_ret ?_
      refine x_ret (.bool true) (by kernel_rfl) (by kernel_rfl) ?_
      exact ⟨rfl, H.below⟩
    · skip
      have h2p := of_decide_eq_true h2
      refine x_t (by kernel_rfl) ?_
      refine x_seq ?_
      refine x_region ?_
      refine x_val (.bool true) (by kernel_rfl) rfl (by kernel_rfl) ?_
      refine x_nil ?_
      refine x_then ?_
      refine x_retc ?_
      refine x_then_ret ?_
      refine x_ret (.bool true) (by kernel_rfl) (by kernel_rfl) ?_
      exact ⟨rfl, H.below⟩

set_option maxRecDepth 100000 in
set_option maxHeartbeats 4000000 in
theorem unlike_yes {r s b o c y z : Int} {pg sn ns : Nat} (hL : Lay r s b o c y z pg sn ns) {C N : Nat} (hC : c = (C : Int)) (hN : (sn : Int) * c = (N : Int)) (ad : Option Addr) (nA cA : Nat) (O : List (Int × Int × Int)) (w0 : World) (hO : OpsAt w0 ad nA O) :
    Calls Try.prog 9 #[.agg #[.int .i64 r, .int .i64 s, .int .i64 b, .int .i64 o, .int .i64 c, .int .i64 y, .int .i64 z], .slice ad nA cA] w0 fun e w' => e = .returned (.bool true) ∧ Below w0.heap.size w0 w' := by
  refine x_enter Try.func9 rfl #[.agg #[.int .i64 r, .int .i64 s, .int .i64 b, .int .i64 o, .int .i64 c, .int .i64 y, .int .i64 z], .slice ad nA cA, undef, undef, undef, undef, undef, undef, undef, undef, undef, undef, undef, undef, undef, undef, undef, undef, undef, undef, undef, undef, undef, undef, undef, undef, undef, undef, undef, undef, undef, undef, undef, undef, undef, undef, undef, undef, undef, undef, undef, undef, undef, undef, undef, undef, undef, undef, undef, undef, undef, undef, undef, undef, undef, undef, undef, undef, undef, undef, undef, undef, undef, undef, undef, undef, undef, undef, undef, undef, undef, undef, undef, undef, undef, undef, undef, undef, undef, undef, undef, undef, undef, undef, undef, undef, undef, undef, undef, undef, undef, undef, undef, undef, undef, undef, undef, undef, undef, undef, undef, undef, undef, undef, undef, undef, undef, undef, undef, undef, undef, undef, undef, undef, undef, undef, undef, undef, undef, undef, undef, undef, undef, undef, undef, undef, undef, undef, undef, undef, undef, undef, undef, undef, undef, undef, undef, undef, undef, undef, undef, undef, undef, undef, undef, undef, undef, undef, undef, undef, undef, undef, undef, undef, undef, undef, undef, undef, undef, undef, undef, undef, undef, undef, undef, undef, undef, undef, undef, undef, undef, undef, undef, undef, undef, undef, undef, undef, undef, undef, undef, undef, undef, undef, undef, undef, undef, undef, undef, undef, undef, undef, undef, undef, undef, undef, undef, undef] (by kernel_rfl) ?_
  have H := Hs.nil w0
  have hok := hL.ok
  obtain ⟨-, r1, r8, s0, s8, b1, b2, o1, o2, c1, c2, y0, y4, z0, z2, hpg, hsn, hns, sn1, pg2, ln0, ln2⟩ := id hL
  have r1' := r1
  have hLi : ∀ w, Calls Try.prog 57 #[.agg #[.int .i64 r, .int .i64 s, .int .i64 b, .int .i64 o, .int .i64 c, .int .i64 y, .int .i64 z]] w fun e w' => e = .returned (.int .i64 ((N : Nat) : Int)) ∧ Below w.heap.size w w' := fun w => by have := lines_of hL w; rwa [hN] at this
  refine x_seq ?_
  refine x_region ?_
  refine x_box H #[.int .i64 r, .int .i64 s, .int .i64 b, .int .i64 o, .int .i64 c, .int .i64 y, .int .i64 z] 69 (by kernel_rfl) rfl (by kernel_rfl) ?_
  clear H
  intro v1 g1 H
  refine x_val (.bool false) (by kernel_rfl) rfl (by kernel_rfl) ?_
  refine x_nil ?_
  refine x_then ?_
  refine x_seq ?_
  refine x_seq ?_
  refine x_region ?_
  refine x_callB (.bool true) H (by kernel_rfl) rfl (by kernel_rfl) (anchor19 _) ?_
  clear H
  intro v2 H
  refine x_val (.bool false) (by kernel_rfl) rfl (by kernel_rfl) ?_
  refine x_nil ?_
  refine x_then ?_
  refine x_f (by kernel_rfl) ?_
  refine x_skipc ?_
  refine x_then ?_
  refine x_seq ?_
  refine x_seq ?_
  refine x_region ?_
  refine x_loadn (t := 69) H 0 g1 0 #[.int .i64 r, .int .i64 s, .int .i64 b, .int .i64 o, .int .i64 c, .int .i64 y, .int .i64 z] 69 [.int .i64 r, .int .i64 s, .int .i64 b, .int .i64 o, .int .i64 c, .int .i64 y, .int .i64 z] (by kernel_rfl) (by kernel_rfl) (by kernel_rfl) rfl (by kernel_rfl) (by kernel_rfl) ?_
  refine x_call (by kernel_rfl) rfl (by kernel_rfl) (small_any r s b o c y z (by omega) (by omega) (by omega) (by omega) _) ?_
  rintro _ v3 ⟨tS, rfl, hB⟩
  refine ⟨_, rfl, ?_⟩
  replace H := H.via hB
  clear hB
  refine x_val (.bool (!tS)) (by kernel_rfl) rfl (by kernel_rfl) ?_
  refine x_val (.bool (!tS)) (by kernel_rfl) rfl (by kernel_rfl) ?_
  cases h1 : tS
  · skip
    refine x_skip (by kernel_rfl) ?_
    refine x_skip (by kernel_rfl) ?_
    refine x_skip (by kernel_rfl) ?_
    refine x_val (.bool true) (by kernel_rfl) rfl (by kernel_rfl) ?_
    refine x_nil ?_
    refine x_then ?_
    refine x_t (by kernel_rfl) ?_
    refine x_seq ?_
    refine x_region ?_
    refine x_val (.bool true) (by kernel_rfl) rfl (by kernel_rfl) ?_
    refine x_nil ?_
    refine x_then ?_
    refine x_retc ?_
    refine x_then_ret ?_
    refine x_ret (.bool true) (by kernel_rfl) (by kernel_rfl) ?_
    exact ⟨rfl, H.below⟩
  · skip
    refine x_val (.slice ad nA cA) (by kernel_rfl) rfl (by kernel_rfl) ?_
    refine x_val (.int .i64 ((nA : Nat) : Int)) (by kernel_rfl) rfl (by kernel_rfl) ?_
    refine x_val (.bool (decide (30 < ((nA : Nat) : Int)))) (by kernel_rfl) rfl (by kernel_rfl) ?_
    refine x_val (.bool (decide (30 < ((nA : Nat) : Int)))) (by kernel_rfl) rfl (by kernel_rfl) ?_
    refine x_nil ?_
    refine x_then ?_
    cases h2 : decide (30 < ((nA : Nat) : Int))
    · skip
      have h2p := of_decide_eq_false h2
      refine x_f (by kernel_rfl) ?_
      refine x_skipc ?_
      refine x_then ?_
      refine x_seq ?_
      refine x_region ?_
      refine x_loadn (t := 69) H 0 g1 0 #[.int .i64 r, .int .i64 s, .int .i64 b, .int .i64 o, .int .i64 c, .int .i64 y, .int .i64 z] 69 [.int .i64 r, .int .i64 s, .int .i64 b, .int .i64 o, .int .i64 c, .int .i64 y, .int .i64 z] (by kernel_rfl) (by kernel_rfl) (by kernel_rfl) rfl (by kernel_rfl) (by kernel_rfl) ?_
      refine x_call (by kernel_rfl) rfl (by kernel_rfl) (New_yes hL _) ?_
      rintro _ v4 ⟨p, gl, cl, gd, cd, gs, cs, rfl, hN'⟩
      refine ⟨_, rfl, ?_⟩
      replace H := H.more hN'
      clear hN'
      replace H : Hs [] w0 _ [.blk p #[.int .i64 r, .int .i64 s, .int .i64 b, .int .i64 o, .int .i64 c, .int .i64 y, .int .i64 z, .slice (some ⟨gl, 0, none⟩) sn cl, .slice (some ⟨gd, 0, none⟩) pg cd, .slice (some ⟨gs, 0, none⟩) ns cs, .int .i64 ((0 : Nat) : Int), .int .i64 ((0 : Nat) : Int)] 181, .row (.slice (some ⟨gl, 0, none⟩) sn cl) 3 1 sn (List.map (Value.int .i64) (iota sn)), .row (.slice (some ⟨gd, 0, none⟩) pg cd) 4 1 pg (List.map Value.bool (List.replicate pg false)), .row (.slice (some ⟨gs, 0, none⟩) ns cs) 3 1 ns (List.map (Value.int .i64) (List.replicate ns (-1))), .blk g1 #[.int .i64 r, .int .i64 s, .int .i64 b, .int .i64 o, .int .i64 c, .int .i64 y, .int .i64 z] 69] := H
      refine x_val (.tuple #[.pointer (some ⟨p, 0, none⟩), .int .i64 0]) (by kernel_rfl) rfl (by kernel_rfl) ?_
      refine x_val (.pointer (some ⟨p, 0, none⟩)) (by kernel_rfl) rfl (by kernel_rfl) ?_
      refine x_val (.int .i64 0) (by kernel_rfl) rfl (by kernel_rfl) ?_
      refine x_val (.pointer (some ⟨p, 0, none⟩)) (by kernel_rfl) rfl (by kernel_rfl) ?_
      refine x_val (.int .i64 0) (by kernel_rfl) rfl (by kernel_rfl) ?_
      refine x_nil ?_
      refine x_then ?_
      refine x_seq ?_
      refine x_seq ?_
      refine x_region ?_
      refine x_val (.int .i64 0) (by kernel_rfl) rfl (by kernel_rfl) ?_
      refine x_val (.bool false) (by kernel_rfl) rfl (by kernel_rfl) ?_
      refine x_val (.bool false) (by kernel_rfl) rfl (by kernel_rfl) ?_
      refine x_val (.pointer (some ⟨p, 0, none⟩)) (by kernel_rfl) rfl (by kernel_rfl) ?_
      refine x_val (.bool false) (by kernel_rfl) rfl (by kernel_rfl) ?_
      refine x_val (.bool false) (by kernel_rfl) rfl (by kernel_rfl) ?_
      refine x_nil ?_
      refine x_then ?_
      refine x_f (by kernel_rfl) ?_
      refine x_skipc ?_
      refine x_then ?_
      refine x_seq ?_
      refine x_seq ?_
      refine x_region ?_
      refine x_val (.slice ad nA cA) (by kernel_rfl) rfl (by kernel_rfl) ?_
      refine x_val (.int .i64 ((nA : Nat) : Int)) (by kernel_rfl) rfl (by kernel_rfl) ?_
      refine x_val (.int .i64 0) (by kernel_rfl) rfl (by kernel_rfl) ?_
      refine x_nil ?_
      refine x_then ?_
      refine x_block ?_
      refine x_loop (G := Nat × List Int × List Bool × List Int × Nat × Nat) (fun gh a w' => match gh with | (k, L, D, S, pu, ru) => ∃ uf1 : Nat → Value, a = { tmps := #[.agg #[.int .i64 r, .int .i64 s, .int .i64 b, .int .i64 o, .int .i64 c, .int .i64 y, .int .i64 z], .slice ad nA cA, .pointer (some ⟨g1, 0, none⟩), undef, .bool false, .pointer (some ⟨p, 0, none⟩), .int .i64 0, undef, (uf1 0), (uf1 1), (uf1 2), (uf1 3), (uf1 4), (uf1 5), (uf1 6), undef, undef, undef, undef, undef, undef, undef, undef, undef, undef, .bool true, .bool false, .agg #[.int .i64 r, .int .i64 s, .int .i64 b, .int .i64 o, .int .i64 c, .int .i64 y, .int .i64 z], .bool true, .bool false, .bool false, .slice ad nA cA, .int .i64 ((nA : Nat) : Int), .bool false, .bool false, .tuple #[.pointer (some ⟨p, 0, none⟩), .int .i64 0], .agg #[.int .i64 r, .int .i64 s, .int .i64 b, .int .i64 o, .int .i64 c, .int .i64 y, .int .i64 z], .tuple #[.pointer (some ⟨p, 0, none⟩), .int .i64 0], .pointer (some ⟨p, 0, none⟩), .int .i64 0, .int .i64 0, .bool false, .bool false, .pointer (some ⟨p, 0, none⟩), .bool false, .bool false, undef, undef, .slice ad nA cA, .int .i64 ((nA : Nat) : Int), .int .i64 ((k : Nat) : Int), (uf1 7), (uf1 8), (uf1 9), (uf1 10), (uf1 11), (uf1 12), (uf1 13), (uf1 14), (uf1 15), (uf1 16), (uf1 17), (uf1 18), (uf1 19), (uf1 20), (uf1 21), (uf1 22), (uf1 23), (uf1 24), (uf1 25), (uf1 26), (uf1 27), (uf1 28), (uf1 29), (uf1 30), (uf1 31), (uf1 32), (uf1 33), (uf1 34), (uf1 35), (uf1 36), (uf1 37), (uf1 38), (uf1 39), (uf1 40), (uf1 41), (uf1 42), (uf1 43), (uf1 44), (uf1 45), (uf1 46), (uf1 47), (uf1 48), (uf1 49), (uf1 50), (uf1 51), (uf1 52), (uf1 53), (uf1 54), (uf1 55), (uf1 56), (uf1 57), (uf1 58), (uf1 59), (uf1 60), (uf1 61), (uf1 62), (uf1 63), (uf1 64), (uf1 65), (uf1 66), (uf1 67), (uf1 68), (uf1 69), (uf1 70), (uf1 71), (uf1 72), (uf1 73), (uf1 74), (uf1 75), (uf1 76), (uf1 77), (uf1 78), (uf1 79), (uf1 80), (uf1 81), (uf1 82), (uf1 83), (uf1 84), (uf1 85), (uf1 86), (uf1 87), (uf1 88), (uf1 89), (uf1 90), (uf1 91), (uf1 92), (uf1 93), (uf1 94), (uf1 95), (uf1 96), (uf1 97), undef, undef, undef, undef, undef, undef, undef, undef, undef, undef, undef, undef, undef, undef, undef, undef, undef, undef, undef, undef, undef, undef, undef, undef, undef, undef, undef, undef, undef, undef, undef, undef, undef, undef, undef, undef, undef, undef, undef, undef, undef, undef, undef, undef, undef, undef, undef, undef, undef, undef, undef, undef, undef, undef, undef, undef], defers := [] } ∧ Hs [] w0 w' [.blk p #[.int .i64 r, .int .i64 s, .int .i64 b, .int .i64 o, .int .i64 c, .int .i64 y, .int .i64 z, .slice (some ⟨gl, 0, none⟩) sn cl, .slice (some ⟨gd, 0, none⟩) pg cd, .slice (some ⟨gs, 0, none⟩) ns cs, .int .i64 ((pu : Nat) : Int), .int .i64 ((ru : Nat) : Int)] 181, .row (.slice (some ⟨gl, 0, none⟩) sn cl) 3 1 sn (List.map (Value.int .i64) L), .row (.slice (some ⟨gd, 0, none⟩) pg cd) 4 1 pg (List.map Value.bool D), .row (.slice (some ⟨gs, 0, none⟩) ns cs) 3 1 ns (List.map (Value.int .i64) S), .blk g1 #[.int .i64 r, .int .i64 s, .int .i64 b, .int .i64 o, .int .i64 c, .int .i64 y, .int .i64 z] 69] ∧ (k ≤ nA) ∧ (Unl r z s sn pg ns L D S pu ru)) (fun gh => match gh with | (k, L, D, S, pu, ru) => nA - k) (0, (iota sn), (List.replicate pg false), (List.replicate ns (-1)), 0, 0) ⟨(nthV [undef, undef, undef, undef, undef, undef, undef, undef, undef, undef, undef, undef, undef, undef, undef, undef, undef, undef, undef, undef, undef, undef, undef, undef, undef, undef, undef, undef, undef, undef, undef, undef, undef, undef, undef, undef, undef, undef, undef, undef, undef, undef, undef, undef, undef, undef, undef, undef, undef, undef, undef, undef, undef, undef, undef, undef, undef, undef, undef, undef, undef, undef, undef, undef, undef, undef, undef, undef, undef, undef, undef, undef, undef, undef, undef, undef, undef, undef, undef, undef, undef, undef, undef, undef, undef, undef, undef, undef, undef, undef, undef, undef, undef, undef, undef, undef, undef, undef]), (by kernel_rfl), H, (Nat.zero_le _), (Unl.init sn pg ns z0 s0)⟩ ?_
      clear H
      rintro ⟨k, L, D, S, pu, ru⟩ _ v5 ⟨uf1, rfl, H, r1, r2⟩
      have U := r2
      have eP := U.st.hp
      have eR := U.hr
      refine x_seq ?_
      refine x_region ?_
      refine x_val (.bool (decide (((k : Nat) : Int) < ((nA : Nat) : Int)))) (by kernel_rfl) rfl (by kernel_rfl) ?_
      refine x_nil ?_
      refine x_then ?_
      refine x_seq ?_
      cases h3 : decide (((k : Nat) : Int) < ((nA : Nat) : Int))
      · skip
        have h3p := of_decide_eq_false h3
        refine x_f (by kernel_rfl) ?_
        refine x_exit ?_
        refine x_then_exit ?_
        refine x_then_exit ?_
        refine x_blk_exit ?_
        refine x_then ?_
        refine x_seq ?_
        refine x_region ?_
        refine x_val (.slice none 0 0) (by kernel_rfl) rfl (by kernel_rfl) ?_
        refine x_nil ?_
        refine x_then ?_
        refine x_seq ?_
        refine x_seq ?_
        refine x_region ?_
        refine x_loadn (t := 69) H 4 g1 0 #[.int .i64 r, .int .i64 s, .int .i64 b, .int .i64 o, .int .i64 c, .int .i64 y, .int .i64 z] 69 [.int .i64 r, .int .i64 s, .int .i64 b, .int .i64 o, .int .i64 c, .int .i64 y, .int .i64 z] (by kernel_rfl) (by kernel_rfl) (by kernel_rfl) rfl (by kernel_rfl) (by kernel_rfl) ?_
        refine x_callB (.int .i64 ((N : Nat) : Int)) H (by kernel_rfl) rfl (by kernel_rfl) (hLi _) ?_
        clear H
        intro v6 H
        refine x_val (.int .i64 0) (by kernel_rfl) rfl (by kernel_rfl) ?_
        refine x_nil ?_
        refine x_then ?_
        refine x_block ?_
        replace H := H.nilRow 3 1
        refine x_loop (G := Nat × Value) (fun gh a w' => match gh with | (n, vl) => ∃ uf2 : Nat → Value, a = { tmps := #[.agg #[.int .i64 r, .int .i64 s, .int .i64 b, .int .i64 o, .int .i64 c, .int .i64 y, .int .i64 z], .slice ad nA cA, .pointer (some ⟨g1, 0, none⟩), undef, (uf2 0), .pointer (some ⟨p, 0, none⟩), .int .i64 0, undef, (uf1 0), (uf1 1), (uf1 2), (uf1 3), (uf1 4), (uf1 5), (uf1 6), vl, (uf2 1), (uf2 2), (uf2 3), (uf2 4), (uf2 5), (uf2 6), (uf2 7), (uf2 8), (uf2 9), .bool true, .bool false, .agg #[.int .i64 r, .int .i64 s, .int .i64 b, .int .i64 o, .int .i64 c, .int .i64 y, .int .i64 z], .bool true, .bool false, .bool false, .slice ad nA cA, .int .i64 ((nA : Nat) : Int), .bool false, .bool false, .tuple #[.pointer (some ⟨p, 0, none⟩), .int .i64 0], .agg #[.int .i64 r, .int .i64 s, .int .i64 b, .int .i64 o, .int .i64 c, .int .i64 y, .int .i64 z], .tuple #[.pointer (some ⟨p, 0, none⟩), .int .i64 0], .pointer (some ⟨p, 0, none⟩), .int .i64 0, .int .i64 0, .bool false, .bool false, .pointer (some ⟨p, 0, none⟩), .bool false, .bool false, undef, undef, .slice ad nA cA, .int .i64 ((nA : Nat) : Int), .int .i64 ((k : Nat) : Int), .bool false, (uf1 8), (uf1 9), (uf1 10), (uf1 11), (uf1 12), (uf1 13), (uf1 14), (uf1 15), (uf1 16), (uf1 17), (uf1 18), (uf1 19), (uf1 20), (uf1 21), (uf1 22), (uf1 23), (uf1 24), (uf1 25), (uf1 26), (uf1 27), (uf1 28), (uf1 29), (uf1 30), (uf1 31), (uf1 32), (uf1 33), (uf1 34), (uf1 35), (uf1 36), (uf1 37), (uf1 38), (uf1 39), (uf1 40), (uf1 41), (uf1 42), (uf1 43), (uf1 44), (uf1 45), (uf1 46), (uf1 47), (uf1 48), (uf1 49), (uf1 50), (uf1 51), (uf1 52), (uf1 53), (uf1 54), (uf1 55), (uf1 56), (uf1 57), (uf1 58), (uf1 59), (uf1 60), (uf1 61), (uf1 62), (uf1 63), (uf1 64), (uf1 65), (uf1 66), (uf1 67), (uf1 68), (uf1 69), (uf1 70), (uf1 71), (uf1 72), (uf1 73), (uf1 74), (uf1 75), (uf1 76), (uf1 77), (uf1 78), (uf1 79), (uf1 80), (uf1 81), (uf1 82), (uf1 83), (uf1 84), (uf1 85), (uf1 86), (uf1 87), (uf1 88), (uf1 89), (uf1 90), (uf1 91), (uf1 92), (uf1 93), (uf1 94), (uf1 95), (uf1 96), (uf1 97), .agg #[.int .i64 r, .int .i64 s, .int .i64 b, .int .i64 o, .int .i64 c, .int .i64 y, .int .i64 z], .int .i64 ((N : Nat) : Int), .int .i64 ((n : Nat) : Int), (uf2 10), (uf2 11), (uf2 12), (uf2 13), (uf2 14), (uf2 15), (uf2 16), (uf2 17), (uf2 18), (uf2 19), (uf2 20), (uf2 21), (uf2 22), (uf2 23), (uf2 24), (uf2 25), (uf2 26), (uf2 27), (uf2 28), (uf2 29), (uf2 30), (uf2 31), (uf2 32), (uf2 33), (uf2 34), (uf2 35), (uf2 36), (uf2 37), (uf2 38), (uf2 39), (uf2 40), (uf2 41), (uf2 42), (uf2 43), (uf2 44), (uf2 45), (uf2 46), (uf2 47), (uf2 48), (uf2 49), (uf2 50), (uf2 51), (uf2 52), (uf2 53), (uf2 54), (uf2 55), (uf2 56), (uf2 57), (uf2 58), (uf2 59), (uf2 60), (uf2 61), (uf2 62)], defers := [] } ∧ Hs [] w0 w' [.row (vl) 3 1 n (List.map (Value.int .i64) (idxs y r b o S L C n)), .blk p #[.int .i64 r, .int .i64 s, .int .i64 b, .int .i64 o, .int .i64 c, .int .i64 y, .int .i64 z, .slice (some ⟨gl, 0, none⟩) sn cl, .slice (some ⟨gd, 0, none⟩) pg cd, .slice (some ⟨gs, 0, none⟩) ns cs, .int .i64 ((pu : Nat) : Int), .int .i64 ((ru : Nat) : Int)] 181, .row (.slice (some ⟨gl, 0, none⟩) sn cl) 3 1 sn (List.map (Value.int .i64) L), .row (.slice (some ⟨gd, 0, none⟩) pg cd) 4 1 pg (List.map Value.bool D), .row (.slice (some ⟨gs, 0, none⟩) ns cs) 3 1 ns (List.map (Value.int .i64) S), .blk g1 #[.int .i64 r, .int .i64 s, .int .i64 b, .int .i64 o, .int .i64 c, .int .i64 y, .int .i64 z] 69] ∧ (n ≤ N)) (fun gh => match gh with | (n, vl) => N - n) (0, .slice none 0 0) ⟨(nthV [.bool false, undef, undef, undef, undef, undef, undef, undef, undef, undef, undef, undef, undef, undef, undef, undef, undef, undef, undef, undef, undef, undef, undef, undef, undef, undef, undef, undef, undef, undef, undef, undef, undef, undef, undef, undef, undef, undef, undef, undef, undef, undef, undef, undef, undef, undef, undef, undef, undef, undef, undef, undef, undef, undef, undef, undef, undef, undef, undef, undef, undef, undef, undef]), (by kernel_rfl), H, (Nat.zero_le _)⟩ ?_
        clear H
        rintro ⟨n, vl⟩ _ v7 ⟨uf2, rfl, H, r1⟩
        refine x_seq ?_
        refine x_region ?_
        refine x_val (.bool (decide (((n : Nat) : Int) < ((N : Nat) : Int)))) (by kernel_rfl) rfl (by kernel_rfl) ?_
        refine x_nil ?_
        refine x_then ?_
        refine x_seq ?_
        cases h4 : decide (((n : Nat) : Int) < ((N : Nat) : Int))
        · skip
          have h4p := of_decide_eq_false h4
          refine x_f (by kernel_rfl) ?_
          refine x_exit ?_
          refine x_then_exit ?_
          refine x_then_exit ?_
          refine x_blk_exit ?_
          refine x_then ?_
          refine x_seq ?_
          refine x_region ?_
          refine x_val (.bool true) (by kernel_rfl) rfl (by kernel_rfl) ?_
          refine x_nil ?_
          refine x_then ?_
          refine x_retc ?_
          refine x_ret (.bool true) (by kernel_rfl) (by kernel_rfl) ?_
          exact ⟨rfl, H.below⟩
        · skip
          have h4p := of_decide_eq_true h4
          refine x_t (by kernel_rfl) ?_
          refine x_skipc ?_
          refine x_then ?_
          refine x_seq ?_
          refine x_block ?_
          refine x_seq ?_
          refine x_region ?_
          obtain ⟨hln, hln2⟩ := line_of hL hC hN (n := n) (by omega)
          have hlv := U.st.lv _ hln
          have hv0 : 0 ≤ L.getD (n / C) 0 := hlv.1
          have hv1 : L.getD (n / C) 0 < (pg : Int) := by omega
          have hjc : ((n % C : Nat) : Int) < c := by rw [hC]; have := Nat.mod_lt n (show 0 < C by omega); omega
          refine x_val (.int .i64 ((n : Nat) : Int)) (by kernel_rfl) rfl (by kernel_rfl) ?_
          refine x_val (.int .i64 ((n : Nat) : Int)) (by kernel_rfl) rfl (by kernel_rfl) ?_
          refine x_nil ?_
          refine x_then ?_
          refine x_seq ?_
          refine x_region ?_
          refine x_val (.pointer (some ⟨p, 0, none⟩)) (by kernel_rfl) rfl (by kernel_rfl) ?_
          refine x_val (.int .i64 ((n : Nat) : Int)) (by kernel_rfl) rfl (by kernel_rfl) ?_
          refine x_callB (.tuple #[.int .i64 (idxP y r b o S (L.getD (n / C) 0) * 64 + ((n % C : Nat) : Int)), .int .i64 (L.getD (n / C) 0), .int .i64 (pgAt y r b o (L.getD (n / C) 0) / 16384), .int .i64 0]) H (by kernel_rfl) rfl (by kernel_rfl) (Index_at hL U.mok hC (fun k hk => by have := U.st.lv k hk; have := U.st.hp; omega) (fun q hq => by have := U.sv q hq; have := U.hr; omega) n (by omega) _ (H.roOf [1, 2, 3, 4] [.blk p #[.int .i64 r, .int .i64 s, .int .i64 b, .int .i64 o, .int .i64 c, .int .i64 y, .int .i64 z, .slice (some ⟨gl, 0, none⟩) sn cl, .slice (some ⟨gd, 0, none⟩) pg cd, .slice (some ⟨gs, 0, none⟩) ns cs, .int .i64 ((pu : Nat) : Int), .int .i64 ((ru : Nat) : Int)] 181, .row (.slice (some ⟨gl, 0, none⟩) sn cl) 3 1 sn (List.map (Value.int .i64) L), .row (.slice (some ⟨gd, 0, none⟩) pg cd) 4 1 pg (List.map Value.bool D), .row (.slice (some ⟨gs, 0, none⟩) ns cs) 3 1 ns (List.map (Value.int .i64) S)] (by kernel_rfl))) ?_
          clear H
          intro v8 H
          refine x_val (.tuple #[.int .i64 (idxP y r b o S (L.getD (n / C) 0) * 64 + ((n % C : Nat) : Int)), .int .i64 (L.getD (n / C) 0), .int .i64 (pgAt y r b o (L.getD (n / C) 0) / 16384), .int .i64 0]) (by kernel_rfl) rfl (by kernel_rfl) ?_
          refine x_val (.int .i64 (idxP y r b o S (L.getD (n / C) 0) * 64 + ((n % C : Nat) : Int))) (by kernel_rfl) rfl (by kernel_rfl) ?_
          refine x_val (.int .i64 (L.getD (n / C) 0)) (by kernel_rfl) rfl (by kernel_rfl) ?_
          refine x_val (.int .i64 (pgAt y r b o (L.getD (n / C) 0) / 16384)) (by kernel_rfl) rfl (by kernel_rfl) ?_
          refine x_val (.int .i64 0) (by kernel_rfl) rfl (by kernel_rfl) ?_
          refine x_val (.int .i64 (idxP y r b o S (L.getD (n / C) 0) * 64 + ((n % C : Nat) : Int))) (by kernel_rfl) rfl (by kernel_rfl) ?_
          refine x_val (.int .i64 (L.getD (n / C) 0)) (by kernel_rfl) rfl (by kernel_rfl) ?_
          refine x_val (.int .i64 (pgAt y r b o (L.getD (n / C) 0) / 16384)) (by kernel_rfl) rfl (by kernel_rfl) ?_
          refine x_val (.int .i64 0) (by kernel_rfl) rfl (by kernel_rfl) ?_
          refine x_nil ?_
          refine x_then ?_
          refine x_seq ?_
          refine x_region ?_
          refine x_val (.pointer (some ⟨p, 0, none⟩)) (by kernel_rfl) rfl (by kernel_rfl) ?_
          refine x_val (.int .i64 (pgAt y r b o (L.getD (n / C) 0) / 16384)) (by kernel_rfl) rfl (by kernel_rfl) ?_
          cases h5 : spB ns S (pgAt y r b o (L.getD (n / C) 0) / 16384)
          · skip
            refine x_callB (.tuple #[.int .i64 0, .bool false]) H (by kernel_rfl) rfl (by kernel_rfl) (Spare_atNo hL U (pgAt y r b o (L.getD (n / C) 0) / 16384) h5 _ (H.roOf [1, 2, 3, 4] [.blk p #[.int .i64 r, .int .i64 s, .int .i64 b, .int .i64 o, .int .i64 c, .int .i64 y, .int .i64 z, .slice (some ⟨gl, 0, none⟩) sn cl, .slice (some ⟨gd, 0, none⟩) pg cd, .slice (some ⟨gs, 0, none⟩) ns cs, .int .i64 ((pu : Nat) : Int), .int .i64 ((ru : Nat) : Int)] 181, .row (.slice (some ⟨gl, 0, none⟩) sn cl) 3 1 sn (List.map (Value.int .i64) L), .row (.slice (some ⟨gd, 0, none⟩) pg cd) 4 1 pg (List.map Value.bool D), .row (.slice (some ⟨gs, 0, none⟩) ns cs) 3 1 ns (List.map (Value.int .i64) S)] (by kernel_rfl))) ?_
            clear H
            intro v9 H
            refine x_val (.tuple #[.int .i64 0, .bool false]) (by kernel_rfl) rfl (by kernel_rfl) ?_
            refine x_val (.int .i64 0) (by kernel_rfl) rfl (by kernel_rfl) ?_
            refine x_val (.bool false) (by kernel_rfl) rfl (by kernel_rfl) ?_
            refine x_val (.int .i64 0) (by kernel_rfl) rfl (by kernel_rfl) ?_
            refine x_val (.bool false) (by kernel_rfl) rfl (by kernel_rfl) ?_
            refine x_nil ?_
            refine x_then ?_
            refine x_seq ?_
            refine x_region ?_
            refine x_val (.pointer (some ⟨g1, 0, none⟩)) (by kernel_rfl) rfl (by kernel_rfl) ?_
            refine x_loadn (t := 67) H 5 g1 0 #[.int .i64 r, .int .i64 s, .int .i64 b, .int .i64 o, .int .i64 c, .int .i64 y, .int .i64 z] 69 [.int .i64 r, .int .i64 s, .int .i64 b, .int .i64 o, .int .i64 c] (by kernel_rfl) (by kernel_rfl) (by kernel_rfl) rfl (by kernel_rfl) (by kernel_rfl) ?_
            refine x_val (.int .i64 (idxP y r b o S (L.getD (n / C) 0) * 64 + ((n % C : Nat) : Int))) (by kernel_rfl) rfl (by kernel_rfl) ?_
            refine x_callB (.tuple #[.agg #[.int .i64 ((idxP y r b o S (L.getD (n / C) 0) * 64 + ((n % C : Nat) : Int)) / 1048576), .int .i64 ((idxP y r b o S (L.getD (n / C) 0) * 64 + ((n % C : Nat) : Int)) / 65536 % 16), .int .i64 ((idxP y r b o S (L.getD (n / C) 0) * 64 + ((n % C : Nat) : Int)) / 64 % 1024), .int .i64 ((idxP y r b o S (L.getD (n / C) 0) * 64 + ((n % C : Nat) : Int)) % 64)], .int .i64 0]) H (by kernel_rfl) rfl (by kernel_rfl) (At_line hL U (h := L.getD (n / C) 0) (j := ((n % C : Nat) : Int)) hv0 hv1 (Int.natCast_nonneg _) hjc rfl _) ?_
            clear H
            intro v10 H
            refine x_val (.tuple #[.agg #[.int .i64 ((idxP y r b o S (L.getD (n / C) 0) * 64 + ((n % C : Nat) : Int)) / 1048576), .int .i64 ((idxP y r b o S (L.getD (n / C) 0) * 64 + ((n % C : Nat) : Int)) / 65536 % 16), .int .i64 ((idxP y r b o S (L.getD (n / C) 0) * 64 + ((n % C : Nat) : Int)) / 64 % 1024), .int .i64 ((idxP y r b o S (L.getD (n / C) 0) * 64 + ((n % C : Nat) : Int)) % 64)], .int .i64 0]) (by kernel_rfl) rfl (by kernel_rfl) ?_
            refine x_val (.agg #[.int .i64 ((idxP y r b o S (L.getD (n / C) 0) * 64 + ((n % C : Nat) : Int)) / 1048576), .int .i64 ((idxP y r b o S (L.getD (n / C) 0) * 64 + ((n % C : Nat) : Int)) / 65536 % 16), .int .i64 ((idxP y r b o S (L.getD (n / C) 0) * 64 + ((n % C : Nat) : Int)) / 64 % 1024), .int .i64 ((idxP y r b o S (L.getD (n / C) 0) * 64 + ((n % C : Nat) : Int)) % 64)]) (by kernel_rfl) rfl (by kernel_rfl) ?_
            refine x_val (.int .i64 0) (by kernel_rfl) rfl (by kernel_rfl) ?_
            refine x_box H #[.int .i64 0, .int .i64 0, .int .i64 0, .int .i64 0] 113 (by kernel_rfl) rfl (by kernel_rfl) ?_
            clear H
            intro v11 g2 H
            refine x_store (t := 113) (v := .agg #[.int .i64 ((idxP y r b o S (L.getD (n / C) 0) * 64 + ((n % C : Nat) : Int)) / 1048576), .int .i64 ((idxP y r b o S (L.getD (n / C) 0) * 64 + ((n % C : Nat) : Int)) / 65536 % 16), .int .i64 ((idxP y r b o S (L.getD (n / C) 0) * 64 + ((n % C : Nat) : Int)) / 64 % 1024), .int .i64 ((idxP y r b o S (L.getD (n / C) 0) * 64 + ((n % C : Nat) : Int)) % 64)]) H 0 g2 0 #[.int .i64 0, .int .i64 0, .int .i64 0, .int .i64 0] #[.int .i64 ((idxP y r b o S (L.getD (n / C) 0) * 64 + ((n % C : Nat) : Int)) / 1048576), .int .i64 ((idxP y r b o S (L.getD (n / C) 0) * 64 + ((n % C : Nat) : Int)) / 65536 % 16), .int .i64 ((idxP y r b o S (L.getD (n / C) 0) * 64 + ((n % C : Nat) : Int)) / 64 % 1024), .int .i64 ((idxP y r b o S (L.getD (n / C) 0) * 64 + ((n % C : Nat) : Int)) % 64)] 113 [.int .i64 ((idxP y r b o S (L.getD (n / C) 0) * 64 + ((n % C : Nat) : Int)) / 1048576), .int .i64 ((idxP y r b o S (L.getD (n / C) 0) * 64 + ((n % C : Nat) : Int)) / 65536 % 16), .int .i64 ((idxP y r b o S (L.getD (n / C) 0) * 64 + ((n % C : Nat) : Int)) / 64 % 1024), .int .i64 ((idxP y r b o S (L.getD (n / C) 0) * 64 + ((n % C : Nat) : Int)) % 64)] [.blk g2 #[.int .i64 ((idxP y r b o S (L.getD (n / C) 0) * 64 + ((n % C : Nat) : Int)) / 1048576), .int .i64 ((idxP y r b o S (L.getD (n / C) 0) * 64 + ((n % C : Nat) : Int)) / 65536 % 16), .int .i64 ((idxP y r b o S (L.getD (n / C) 0) * 64 + ((n % C : Nat) : Int)) / 64 % 1024), .int .i64 ((idxP y r b o S (L.getD (n / C) 0) * 64 + ((n % C : Nat) : Int)) % 64)] 113, .row (vl) 3 1 n (List.map (Value.int .i64) (idxs y r b o S L C n)), .blk p #[.int .i64 r, .int .i64 s, .int .i64 b, .int .i64 o, .int .i64 c, .int .i64 y, .int .i64 z, .slice (some ⟨gl, 0, none⟩) sn cl, .slice (some ⟨gd, 0, none⟩) pg cd, .slice (some ⟨gs, 0, none⟩) ns cs, .int .i64 ((pu : Nat) : Int), .int .i64 ((ru : Nat) : Int)] 181, .row (.slice (some ⟨gl, 0, none⟩) sn cl) 3 1 sn (List.map (Value.int .i64) L), .row (.slice (some ⟨gd, 0, none⟩) pg cd) 4 1 pg (List.map Value.bool D), .row (.slice (some ⟨gs, 0, none⟩) ns cs) 3 1 ns (List.map (Value.int .i64) S), .blk g1 #[.int .i64 r, .int .i64 s, .int .i64 b, .int .i64 o, .int .i64 c, .int .i64 y, .int .i64 z] 69] (by kernel_rfl) rfl (by kernel_rfl) (by kernel_rfl) (by kernel_rfl) (by kernel_rfl) (by kernel_rfl) (by kernel_rfl) (by kernel_rfl) (by kernel_rfl) ?_
            clear H
            intro v12 H
            refine x_val (.int .i64 0) (by kernel_rfl) rfl (by kernel_rfl) ?_
            refine x_nil ?_
            refine x_frame' { tmps := #[.agg #[.int .i64 r, .int .i64 s, .int .i64 b, .int .i64 o, .int .i64 c, .int .i64 y, .int .i64 z], .slice ad nA cA, .pointer (some ⟨g1, 0, none⟩), undef, (uf2 0), .pointer (some ⟨p, 0, none⟩), .int .i64 0, undef, (uf1 0), (uf1 1), (uf1 2), (uf1 3), (uf1 4), (uf1 5), (uf1 6), vl, .int .i64 ((n : Nat) : Int), .int .i64 (idxP y r b o S (L.getD (n / C) 0) * 64 + ((n % C : Nat) : Int)), .int .i64 (L.getD (n / C) 0), .int .i64 (pgAt y r b o (L.getD (n / C) 0) / 16384), .int .i64 0, .int .i64 0, .bool false, .pointer (some ⟨g2, 0, none⟩), .int .i64 0, .bool true, .bool false, .agg #[.int .i64 r, .int .i64 s, .int .i64 b, .int .i64 o, .int .i64 c, .int .i64 y, .int .i64 z], .bool true, .bool false, .bool false, .slice ad nA cA, .int .i64 ((nA : Nat) : Int), .bool false, .bool false, .tuple #[.pointer (some ⟨p, 0, none⟩), .int .i64 0], .agg #[.int .i64 r, .int .i64 s, .int .i64 b, .int .i64 o, .int .i64 c, .int .i64 y, .int .i64 z], .tuple #[.pointer (some ⟨p, 0, none⟩), .int .i64 0], .pointer (some ⟨p, 0, none⟩), .int .i64 0, .int .i64 0, .bool false, .bool false, .pointer (some ⟨p, 0, none⟩), .bool false, .bool false, undef, undef, .slice ad nA cA, .int .i64 ((nA : Nat) : Int), .int .i64 ((k : Nat) : Int), .bool false, (uf1 8), (uf1 9), (uf1 10), (uf1 11), (uf1 12), (uf1 13), (uf1 14), (uf1 15), (uf1 16), (uf1 17), (uf1 18), (uf1 19), (uf1 20), (uf1 21), (uf1 22), (uf1 23), (uf1 24), (uf1 25), (uf1 26), (uf1 27), (uf1 28), (uf1 29), (uf1 30), (uf1 31), (uf1 32), (uf1 33), (uf1 34), (uf1 35), (uf1 36), (uf1 37), (uf1 38), (uf1 39), (uf1 40), (uf1 41), (uf1 42), (uf1 43), (uf1 44), (uf1 45), (uf1 46), (uf1 47), (uf1 48), (uf1 49), (uf1 50), (uf1 51), (uf1 52), (uf1 53), (uf1 54), (uf1 55), (uf1 56), (uf1 57), (uf1 58), (uf1 59), (uf1 60), (uf1 61), (uf1 62), (uf1 63), (uf1 64), (uf1 65), (uf1 66), (uf1 67), (uf1 68), (uf1 69), (uf1 70), (uf1 71), (uf1 72), (uf1 73), (uf1 74), (uf1 75), (uf1 76), (uf1 77), (uf1 78), (uf1 79), (uf1 80), (uf1 81), (uf1 82), (uf1 83), (uf1 84), (uf1 85), (uf1 86), (uf1 87), (uf1 88), (uf1 89), (uf1 90), (uf1 91), (uf1 92), (uf1 93), (uf1 94), (uf1 95), (uf1 96), (uf1 97), .agg #[.int .i64 r, .int .i64 s, .int .i64 b, .int .i64 o, .int .i64 c, .int .i64 y, .int .i64 z], .int .i64 ((N : Nat) : Int), .int .i64 ((n : Nat) : Int), .bool true, .int .i64 ((n : Nat) : Int), .tuple #[.int .i64 (idxP y r b o S (L.getD (n / C) 0) * 64 + ((n % C : Nat) : Int)), .int .i64 (L.getD (n / C) 0), .int .i64 (pgAt y r b o (L.getD (n / C) 0) / 16384), .int .i64 0], .pointer (some ⟨p, 0, none⟩), .int .i64 ((n : Nat) : Int), .tuple #[.int .i64 (idxP y r b o S (L.getD (n / C) 0) * 64 + ((n % C : Nat) : Int)), .int .i64 (L.getD (n / C) 0), .int .i64 (pgAt y r b o (L.getD (n / C) 0) / 16384), .int .i64 0], .int .i64 (idxP y r b o S (L.getD (n / C) 0) * 64 + ((n % C : Nat) : Int)), .int .i64 (L.getD (n / C) 0), .int .i64 (pgAt y r b o (L.getD (n / C) 0) / 16384), .int .i64 0, .tuple #[.int .i64 0, .bool false], .pointer (some ⟨p, 0, none⟩), .int .i64 (pgAt y r b o (L.getD (n / C) 0) / 16384), .tuple #[.int .i64 0, .bool false], .int .i64 0, .bool false, .tuple #[.agg #[.int .i64 ((idxP y r b o S (L.getD (n / C) 0) * 64 + ((n % C : Nat) : Int)) / 1048576), .int .i64 ((idxP y r b o S (L.getD (n / C) 0) * 64 + ((n % C : Nat) : Int)) / 65536 % 16), .int .i64 ((idxP y r b o S (L.getD (n / C) 0) * 64 + ((n % C : Nat) : Int)) / 64 % 1024), .int .i64 ((idxP y r b o S (L.getD (n / C) 0) * 64 + ((n % C : Nat) : Int)) % 64)], .int .i64 0], .pointer (some ⟨g1, 0, none⟩), .agg #[.int .i64 r, .int .i64 s, .int .i64 b, .int .i64 o, .int .i64 c], .int .i64 (idxP y r b o S (L.getD (n / C) 0) * 64 + ((n % C : Nat) : Int)), .tuple #[.agg #[.int .i64 ((idxP y r b o S (L.getD (n / C) 0) * 64 + ((n % C : Nat) : Int)) / 1048576), .int .i64 ((idxP y r b o S (L.getD (n / C) 0) * 64 + ((n % C : Nat) : Int)) / 65536 % 16), .int .i64 ((idxP y r b o S (L.getD (n / C) 0) * 64 + ((n % C : Nat) : Int)) / 64 % 1024), .int .i64 ((idxP y r b o S (L.getD (n / C) 0) * 64 + ((n % C : Nat) : Int)) % 64)], .int .i64 0], .agg #[.int .i64 ((idxP y r b o S (L.getD (n / C) 0) * 64 + ((n % C : Nat) : Int)) / 1048576), .int .i64 ((idxP y r b o S (L.getD (n / C) 0) * 64 + ((n % C : Nat) : Int)) / 65536 % 16), .int .i64 ((idxP y r b o S (L.getD (n / C) 0) * 64 + ((n % C : Nat) : Int)) / 64 % 1024), .int .i64 ((idxP y r b o S (L.getD (n / C) 0) * 64 + ((n % C : Nat) : Int)) % 64)], .int .i64 0, (uf2 33), (uf2 34), (uf2 35), (uf2 36), (uf2 37), (uf2 38), (uf2 39), (uf2 40), (uf2 41), (uf2 42), (uf2 43), (uf2 44), (uf2 45), (uf2 46), (uf2 47), (uf2 48), (uf2 49), (uf2 50), (uf2 51), (uf2 52), (uf2 53), (uf2 54), (uf2 55), (uf2 56), (uf2 57), (uf2 58), (uf2 59), (uf2 60), (uf2 61), (uf2 62)], defers := [] } (by kernel_rfl) ?_
            refine x_then ?_
            refine x_seq ?_
            refine x_seq ?_
            refine x_region ?_
            refine x_val (.int .i64 0) (by kernel_rfl) rfl (by kernel_rfl) ?_
            refine x_val (.bool false) (by kernel_rfl) rfl (by kernel_rfl) ?_
            refine x_val (.bool false) (by kernel_rfl) rfl (by kernel_rfl) ?_
            refine x_val (.int .i64 0) (by kernel_rfl) rfl (by kernel_rfl) ?_
            refine x_val (.bool false) (by kernel_rfl) rfl (by kernel_rfl) ?_
            refine x_val (.bool false) (by kernel_rfl) rfl (by kernel_rfl) ?_
            refine x_val (.bool false) (by kernel_rfl) rfl (by kernel_rfl) ?_
            refine x_val (vl) (by kernel_rfl) rfl (by kernel_rfl) ?_
            refine x_val (.int .i64 (idxP y r b o S (L.getD (n / C) 0) * 64 + ((n % C : Nat) : Int))) (by kernel_rfl) rfl (by kernel_rfl) ?_
            refine x_callB (.bool false) H (by kernel_rfl) rfl (by kernel_rfl) (has_any vl n _ _ (by omega) (unl_new hL hC hN U (by omega)) _ (H.roOf [1] [.row (vl) 3 1 n (List.map (Value.int .i64) (idxs y r b o S L C n))] (by kernel_rfl))) ?_
            clear H
            intro v13 H
            refine x_val (.bool false) (by kernel_rfl) rfl (by kernel_rfl) ?_
            refine x_val (.bool false) (by kernel_rfl) rfl (by kernel_rfl) ?_
            refine x_val (.pointer (some ⟨p, 0, none⟩)) (by kernel_rfl) rfl (by kernel_rfl) ?_
            refine x_val (.int .i64 (L.getD (n / C) 0)) (by kernel_rfl) rfl (by kernel_rfl) ?_
            refine x_callB (.bool false) H (by kernel_rfl) rfl (by kernel_rfl) (by have := Dead_at hL U (L.getD (n / C) 0) _ (H.roOf [2, 3, 4, 5] [.blk p #[.int .i64 r, .int .i64 s, .int .i64 b, .int .i64 o, .int .i64 c, .int .i64 y, .int .i64 z, .slice (some ⟨gl, 0, none⟩) sn cl, .slice (some ⟨gd, 0, none⟩) pg cd, .slice (some ⟨gs, 0, none⟩) ns cs, .int .i64 ((pu : Nat) : Int), .int .i64 ((ru : Nat) : Int)] 181, .row (.slice (some ⟨gl, 0, none⟩) sn cl) 3 1 sn (List.map (Value.int .i64) L), .row (.slice (some ⟨gd, 0, none⟩) pg cd) 4 1 pg (List.map Value.bool D), .row (.slice (some ⟨gs, 0, none⟩) ns cs) 3 1 ns (List.map (Value.int .i64) S)] (by kernel_rfl)); rwa [live_no hL hC hN U (n := n) (by omega)] at this) ?_
            clear H
            intro v14 H
            refine x_val (.bool false) (by kernel_rfl) rfl (by kernel_rfl) ?_
            refine x_val (.bool false) (by kernel_rfl) rfl (by kernel_rfl) ?_
            refine x_val (.bool false) (by kernel_rfl) rfl (by kernel_rfl) ?_
            refine x_val (.bool false) (by kernel_rfl) rfl (by kernel_rfl) ?_
            refine x_skip (by kernel_rfl) ?_
            refine x_skip (by kernel_rfl) ?_
            refine x_skip (by kernel_rfl) ?_
            refine x_skip (by kernel_rfl) ?_
            refine x_val (.bool false) (by kernel_rfl) rfl (by kernel_rfl) ?_
            refine x_val (.bool false) (by kernel_rfl) rfl (by kernel_rfl) ?_
            refine x_nil ?_
            refine x_then ?_
            refine x_f (by kernel_rfl) ?_
            refine x_skipc ?_
            refine x_then ?_
            refine x_region ?_
            refine x_val (vl) (by kernel_rfl) rfl (by kernel_rfl) ?_
            refine x_val (.int .i64 (idxP y r b o S (L.getD (n / C) 0) * 64 + ((n % C : Nat) : Int))) (by kernel_rfl) rfl (by kernel_rfl) ?_
            refine x_box' H #[.int .i64 (idxP y r b o S (L.getD (n / C) 0) * 64 + ((n % C : Nat) : Int))] 3 1 (by kernel_rfl) rfl (by kernel_rfl) ?_
            clear H
            intro v15 g3 H
            refine x_append H 2 (vl) 106 3 1 8 n (.int .i64 0) (List.map (Value.int .i64) (idxs y r b o S L C n)) ⟨g3, 0, none⟩ 1 1 [.int .i64 (idxP y r b o S (L.getD (n / C) 0) * 64 + ((n % C : Nat) : Int))] rfl (by kernel_rfl) (by kernel_rfl) rfl (by decide) (by decide) rfl (fun j u hj => by rw [add_none]; exact cellOf (H.blk 0 rfl) (by simpa using hj)) (List.all_eq_true.1 (by kernel_rfl)) (by unfold maxLen; omega) (by omega) (by kernel_rfl) rfl (by kernel_rfl) ?_
            clear H
            intro v16 g4 c4 hc4 H
            rw [show (List.map (Value.int .i64) (idxs y r b o S L C n)) ++ [.int .i64 (idxP y r b o S (L.getD (n / C) 0) * 64 + ((n % C : Nat) : Int))] = (List.map (Value.int .i64) (idxs y r b o S L C (n + 1))) from (by rw [idxs_succ, List.map_append]; rfl)] at H
            replace H : Hs [] w0 v16 [.blk g3 #[.int .i64 (idxP y r b o S (L.getD (n / C) 0) * 64 + ((n % C : Nat) : Int))] 3, .blk g2 #[.int .i64 ((idxP y r b o S (L.getD (n / C) 0) * 64 + ((n % C : Nat) : Int)) / 1048576), .int .i64 ((idxP y r b o S (L.getD (n / C) 0) * 64 + ((n % C : Nat) : Int)) / 65536 % 16), .int .i64 ((idxP y r b o S (L.getD (n / C) 0) * 64 + ((n % C : Nat) : Int)) / 64 % 1024), .int .i64 ((idxP y r b o S (L.getD (n / C) 0) * 64 + ((n % C : Nat) : Int)) % 64)] 113, .row (.slice (some ⟨g4, 0, none⟩) (n + 1) c4) 3 1 (n + 1) (List.map (Value.int .i64) (idxs y r b o S L C (n + 1))), .blk p #[.int .i64 r, .int .i64 s, .int .i64 b, .int .i64 o, .int .i64 c, .int .i64 y, .int .i64 z, .slice (some ⟨gl, 0, none⟩) sn cl, .slice (some ⟨gd, 0, none⟩) pg cd, .slice (some ⟨gs, 0, none⟩) ns cs, .int .i64 ((pu : Nat) : Int), .int .i64 ((ru : Nat) : Int)] 181, .row (.slice (some ⟨gl, 0, none⟩) sn cl) 3 1 sn (List.map (Value.int .i64) L), .row (.slice (some ⟨gd, 0, none⟩) pg cd) 4 1 pg (List.map Value.bool D), .row (.slice (some ⟨gs, 0, none⟩) ns cs) 3 1 ns (List.map (Value.int .i64) S), .blk g1 #[.int .i64 r, .int .i64 s, .int .i64 b, .int .i64 o, .int .i64 c, .int .i64 y, .int .i64 z] 69] := H
            replace H := H.pick [1, 2, 3, 4, 5, 6, 7] [.blk g2 #[.int .i64 ((idxP y r b o S (L.getD (n / C) 0) * 64 + ((n % C : Nat) : Int)) / 1048576), .int .i64 ((idxP y r b o S (L.getD (n / C) 0) * 64 + ((n % C : Nat) : Int)) / 65536 % 16), .int .i64 ((idxP y r b o S (L.getD (n / C) 0) * 64 + ((n % C : Nat) : Int)) / 64 % 1024), .int .i64 ((idxP y r b o S (L.getD (n / C) 0) * 64 + ((n % C : Nat) : Int)) % 64)] 113, .row (.slice (some ⟨g4, 0, none⟩) (n + 1) c4) 3 1 (n + 1) (List.map (Value.int .i64) (idxs y r b o S L C (n + 1))), .blk p #[.int .i64 r, .int .i64 s, .int .i64 b, .int .i64 o, .int .i64 c, .int .i64 y, .int .i64 z, .slice (some ⟨gl, 0, none⟩) sn cl, .slice (some ⟨gd, 0, none⟩) pg cd, .slice (some ⟨gs, 0, none⟩) ns cs, .int .i64 ((pu : Nat) : Int), .int .i64 ((ru : Nat) : Int)] 181, .row (.slice (some ⟨gl, 0, none⟩) sn cl) 3 1 sn (List.map (Value.int .i64) L), .row (.slice (some ⟨gd, 0, none⟩) pg cd) 4 1 pg (List.map Value.bool D), .row (.slice (some ⟨gs, 0, none⟩) ns cs) 3 1 ns (List.map (Value.int .i64) S), .blk g1 #[.int .i64 r, .int .i64 s, .int .i64 b, .int .i64 o, .int .i64 c, .int .i64 y, .int .i64 z] 69] (by decide) (by kernel_rfl)
            refine x_val (.slice (some ⟨g4, 0, none⟩) (n + 1) c4) (by kernel_rfl) rfl (by kernel_rfl) ?_
            refine x_nil ?_
            refine x_frame' { tmps := #[.agg #[.int .i64 r, .int .i64 s, .int .i64 b, .int .i64 o, .int .i64 c, .int .i64 y, .int .i64 z], .slice ad nA cA, .pointer (some ⟨g1, 0, none⟩), undef, (uf2 0), .pointer (some ⟨p, 0, none⟩), .int .i64 0, undef, (uf1 0), (uf1 1), (uf1 2), (uf1 3), (uf1 4), (uf1 5), (uf1 6), .slice (some ⟨g4, 0, none⟩) (n + 1) c4, .int .i64 ((n : Nat) : Int), .int .i64 (idxP y r b o S (L.getD (n / C) 0) * 64 + ((n % C : Nat) : Int)), .int .i64 (L.getD (n / C) 0), .int .i64 (pgAt y r b o (L.getD (n / C) 0) / 16384), .int .i64 0, .int .i64 0, .bool false, .pointer (some ⟨g2, 0, none⟩), .int .i64 0, .bool true, .bool false, .agg #[.int .i64 r, .int .i64 s, .int .i64 b, .int .i64 o, .int .i64 c, .int .i64 y, .int .i64 z], .bool true, .bool false, .bool false, .slice ad nA cA, .int .i64 ((nA : Nat) : Int), .bool false, .bool false, .tuple #[.pointer (some ⟨p, 0, none⟩), .int .i64 0], .agg #[.int .i64 r, .int .i64 s, .int .i64 b, .int .i64 o, .int .i64 c, .int .i64 y, .int .i64 z], .tuple #[.pointer (some ⟨p, 0, none⟩), .int .i64 0], .pointer (some ⟨p, 0, none⟩), .int .i64 0, .int .i64 0, .bool false, .bool false, .pointer (some ⟨p, 0, none⟩), .bool false, .bool false, undef, undef, .slice ad nA cA, .int .i64 ((nA : Nat) : Int), .int .i64 ((k : Nat) : Int), .bool false, (uf1 8), (uf1 9), (uf1 10), (uf1 11), (uf1 12), (uf1 13), (uf1 14), (uf1 15), (uf1 16), (uf1 17), (uf1 18), (uf1 19), (uf1 20), (uf1 21), (uf1 22), (uf1 23), (uf1 24), (uf1 25), (uf1 26), (uf1 27), (uf1 28), (uf1 29), (uf1 30), (uf1 31), (uf1 32), (uf1 33), (uf1 34), (uf1 35), (uf1 36), (uf1 37), (uf1 38), (uf1 39), (uf1 40), (uf1 41), (uf1 42), (uf1 43), (uf1 44), (uf1 45), (uf1 46), (uf1 47), (uf1 48), (uf1 49), (uf1 50), (uf1 51), (uf1 52), (uf1 53), (uf1 54), (uf1 55), (uf1 56), (uf1 57), (uf1 58), (uf1 59), (uf1 60), (uf1 61), (uf1 62), (uf1 63), (uf1 64), (uf1 65), (uf1 66), (uf1 67), (uf1 68), (uf1 69), (uf1 70), (uf1 71), (uf1 72), (uf1 73), (uf1 74), (uf1 75), (uf1 76), (uf1 77), (uf1 78), (uf1 79), (uf1 80), (uf1 81), (uf1 82), (uf1 83), (uf1 84), (uf1 85), (uf1 86), (uf1 87), (uf1 88), (uf1 89), (uf1 90), (uf1 91), (uf1 92), (uf1 93), (uf1 94), (uf1 95), (uf1 96), (uf1 97), .agg #[.int .i64 r, .int .i64 s, .int .i64 b, .int .i64 o, .int .i64 c, .int .i64 y, .int .i64 z], .int .i64 ((N : Nat) : Int), .int .i64 ((n : Nat) : Int), .bool true, .int .i64 ((n : Nat) : Int), .tuple #[.int .i64 (idxP y r b o S (L.getD (n / C) 0) * 64 + ((n % C : Nat) : Int)), .int .i64 (L.getD (n / C) 0), .int .i64 (pgAt y r b o (L.getD (n / C) 0) / 16384), .int .i64 0], .pointer (some ⟨p, 0, none⟩), .int .i64 ((n : Nat) : Int), .tuple #[.int .i64 (idxP y r b o S (L.getD (n / C) 0) * 64 + ((n % C : Nat) : Int)), .int .i64 (L.getD (n / C) 0), .int .i64 (pgAt y r b o (L.getD (n / C) 0) / 16384), .int .i64 0], .int .i64 (idxP y r b o S (L.getD (n / C) 0) * 64 + ((n % C : Nat) : Int)), .int .i64 (L.getD (n / C) 0), .int .i64 (pgAt y r b o (L.getD (n / C) 0) / 16384), .int .i64 0, .tuple #[.int .i64 0, .bool false], .pointer (some ⟨p, 0, none⟩), .int .i64 (pgAt y r b o (L.getD (n / C) 0) / 16384), .tuple #[.int .i64 0, .bool false], .int .i64 0, .bool false, .tuple #[.agg #[.int .i64 ((idxP y r b o S (L.getD (n / C) 0) * 64 + ((n % C : Nat) : Int)) / 1048576), .int .i64 ((idxP y r b o S (L.getD (n / C) 0) * 64 + ((n % C : Nat) : Int)) / 65536 % 16), .int .i64 ((idxP y r b o S (L.getD (n / C) 0) * 64 + ((n % C : Nat) : Int)) / 64 % 1024), .int .i64 ((idxP y r b o S (L.getD (n / C) 0) * 64 + ((n % C : Nat) : Int)) % 64)], .int .i64 0], .pointer (some ⟨g1, 0, none⟩), .agg #[.int .i64 r, .int .i64 s, .int .i64 b, .int .i64 o, .int .i64 c], .int .i64 (idxP y r b o S (L.getD (n / C) 0) * 64 + ((n % C : Nat) : Int)), .tuple #[.agg #[.int .i64 ((idxP y r b o S (L.getD (n / C) 0) * 64 + ((n % C : Nat) : Int)) / 1048576), .int .i64 ((idxP y r b o S (L.getD (n / C) 0) * 64 + ((n % C : Nat) : Int)) / 65536 % 16), .int .i64 ((idxP y r b o S (L.getD (n / C) 0) * 64 + ((n % C : Nat) : Int)) / 64 % 1024), .int .i64 ((idxP y r b o S (L.getD (n / C) 0) * 64 + ((n % C : Nat) : Int)) % 64)], .int .i64 0], .agg #[.int .i64 ((idxP y r b o S (L.getD (n / C) 0) * 64 + ((n % C : Nat) : Int)) / 1048576), .int .i64 ((idxP y r b o S (L.getD (n / C) 0) * 64 + ((n % C : Nat) : Int)) / 65536 % 16), .int .i64 ((idxP y r b o S (L.getD (n / C) 0) * 64 + ((n % C : Nat) : Int)) / 64 % 1024), .int .i64 ((idxP y r b o S (L.getD (n / C) 0) * 64 + ((n % C : Nat) : Int)) % 64)], .int .i64 0, .int .i64 0, .bool false, .bool false, .int .i64 0, .bool false, .bool false, .bool false, vl, .int .i64 (idxP y r b o S (L.getD (n / C) 0) * 64 + ((n % C : Nat) : Int)), .bool false, .bool false, .bool false, .pointer (some ⟨p, 0, none⟩), .int .i64 (L.getD (n / C) 0), .bool false, .bool false, .bool false, .bool false, .bool false, undef, undef, undef, undef, .bool false, .bool false, vl, .int .i64 (idxP y r b o S (L.getD (n / C) 0) * 64 + ((n % C : Nat) : Int)), .slice (some ⟨g3, 0, none⟩) 1 1, .slice (some ⟨g4, 0, none⟩) (n + 1) c4, (uf2 62)], defers := [] } (by kernel_rfl) ?_
            refine x_blk ?_
            refine x_then ?_
            refine x_region ?_
            refine x_ar (((n : Nat) : Int) + 1) ⟨by omega, by omega⟩ (by kernel_rfl) rfl (by kernel_rfl) ?_
            refine x_val (.int .i64 (((n : Nat) : Int) + 1)) (by kernel_rfl) rfl (by kernel_rfl) ?_
            refine x_nil ?_
            refine x_then ?_
            replace H := H.pick [1, 2, 3, 4, 5, 6] [.row (.slice (some ⟨g4, 0, none⟩) (n + 1) c4) 3 1 (n + 1) (List.map (Value.int .i64) (idxs y r b o S L C (n + 1))), .blk p #[.int .i64 r, .int .i64 s, .int .i64 b, .int .i64 o, .int .i64 c, .int .i64 y, .int .i64 z, .slice (some ⟨gl, 0, none⟩) sn cl, .slice (some ⟨gd, 0, none⟩) pg cd, .slice (some ⟨gs, 0, none⟩) ns cs, .int .i64 ((pu : Nat) : Int), .int .i64 ((ru : Nat) : Int)] 181, .row (.slice (some ⟨gl, 0, none⟩) sn cl) 3 1 sn (List.map (Value.int .i64) L), .row (.slice (some ⟨gd, 0, none⟩) pg cd) 4 1 pg (List.map Value.bool D), .row (.slice (some ⟨gs, 0, none⟩) ns cs) 3 1 ns (List.map (Value.int .i64) S), .blk g1 #[.int .i64 r, .int .i64 s, .int .i64 b, .int .i64 o, .int .i64 c, .int .i64 y, .int .i64 z] 69] (by decide) (by kernel_rfl)
            exact ⟨(n + 1, .slice (some ⟨g4, 0, none⟩) (n + 1) c4), (by dsimp only; omega), (nthV [(uf2 0), .int .i64 ((n : Nat) : Int), .int .i64 (idxP y r b o S (L.getD (n / C) 0) * 64 + ((n % C : Nat) : Int)), .int .i64 (L.getD (n / C) 0), .int .i64 (pgAt y r b o (L.getD (n / C) 0) / 16384), .int .i64 0, .int .i64 0, .bool false, .pointer (some ⟨g2, 0, none⟩), .int .i64 0, .bool true, .int .i64 ((n : Nat) : Int), .tuple #[.int .i64 (idxP y r b o S (L.getD (n / C) 0) * 64 + ((n % C : Nat) : Int)), .int .i64 (L.getD (n / C) 0), .int .i64 (pgAt y r b o (L.getD (n / C) 0) / 16384), .int .i64 0], .pointer (some ⟨p, 0, none⟩), .int .i64 ((n : Nat) : Int), .tuple #[.int .i64 (idxP y r b o S (L.getD (n / C) 0) * 64 + ((n % C : Nat) : Int)), .int .i64 (L.getD (n / C) 0), .int .i64 (pgAt y r b o (L.getD (n / C) 0) / 16384), .int .i64 0], .int .i64 (idxP y r b o S (L.getD (n / C) 0) * 64 + ((n % C : Nat) : Int)), .int .i64 (L.getD (n / C) 0), .int .i64 (pgAt y r b o (L.getD (n / C) 0) / 16384), .int .i64 0, .tuple #[.int .i64 0, .bool false], .pointer (some ⟨p, 0, none⟩), .int .i64 (pgAt y r b o (L.getD (n / C) 0) / 16384), .tuple #[.int .i64 0, .bool false], .int .i64 0, .bool false, .tuple #[.agg #[.int .i64 ((idxP y r b o S (L.getD (n / C) 0) * 64 + ((n % C : Nat) : Int)) / 1048576), .int .i64 ((idxP y r b o S (L.getD (n / C) 0) * 64 + ((n % C : Nat) : Int)) / 65536 % 16), .int .i64 ((idxP y r b o S (L.getD (n / C) 0) * 64 + ((n % C : Nat) : Int)) / 64 % 1024), .int .i64 ((idxP y r b o S (L.getD (n / C) 0) * 64 + ((n % C : Nat) : Int)) % 64)], .int .i64 0], .pointer (some ⟨g1, 0, none⟩), .agg #[.int .i64 r, .int .i64 s, .int .i64 b, .int .i64 o, .int .i64 c], .int .i64 (idxP y r b o S (L.getD (n / C) 0) * 64 + ((n % C : Nat) : Int)), .tuple #[.agg #[.int .i64 ((idxP y r b o S (L.getD (n / C) 0) * 64 + ((n % C : Nat) : Int)) / 1048576), .int .i64 ((idxP y r b o S (L.getD (n / C) 0) * 64 + ((n % C : Nat) : Int)) / 65536 % 16), .int .i64 ((idxP y r b o S (L.getD (n / C) 0) * 64 + ((n % C : Nat) : Int)) / 64 % 1024), .int .i64 ((idxP y r b o S (L.getD (n / C) 0) * 64 + ((n % C : Nat) : Int)) % 64)], .int .i64 0], .agg #[.int .i64 ((idxP y r b o S (L.getD (n / C) 0) * 64 + ((n % C : Nat) : Int)) / 1048576), .int .i64 ((idxP y r b o S (L.getD (n / C) 0) * 64 + ((n % C : Nat) : Int)) / 65536 % 16), .int .i64 ((idxP y r b o S (L.getD (n / C) 0) * 64 + ((n % C : Nat) : Int)) / 64 % 1024), .int .i64 ((idxP y r b o S (L.getD (n / C) 0) * 64 + ((n % C : Nat) : Int)) % 64)], .int .i64 0, .int .i64 0, .bool false, .bool false, .int .i64 0, .bool false, .bool false, .bool false, vl, .int .i64 (idxP y r b o S (L.getD (n / C) 0) * 64 + ((n % C : Nat) : Int)), .bool false, .bool false, .bool false, .pointer (some ⟨p, 0, none⟩), .int .i64 (L.getD (n / C) 0), .bool false, .bool false, .bool false, .bool false, .bool false, undef, undef, undef, undef, .bool false, .bool false, vl, .int .i64 (idxP y r b o S (L.getD (n / C) 0) * 64 + ((n % C : Nat) : Int)), .slice (some ⟨g3, 0, none⟩) 1 1, .slice (some ⟨g4, 0, none⟩) (n + 1) c4, .int .i64 (((n : Nat) : Int) + 1)]), (by kernel_rfl), H, (by omega)⟩
          · skip
            refine x_callB (.tuple #[.int .i64 (S.getD (pgAt y r b o (L.getD (n / C) 0) / 16384).toNat 0), .bool true]) H (by kernel_rfl) rfl (by kernel_rfl) (Spare_atYes hL U (pgAt y r b o (L.getD (n / C) 0) / 16384) h5 _ (H.roOf [1, 2, 3, 4] [.blk p #[.int .i64 r, .int .i64 s, .int .i64 b, .int .i64 o, .int .i64 c, .int .i64 y, .int .i64 z, .slice (some ⟨gl, 0, none⟩) sn cl, .slice (some ⟨gd, 0, none⟩) pg cd, .slice (some ⟨gs, 0, none⟩) ns cs, .int .i64 ((pu : Nat) : Int), .int .i64 ((ru : Nat) : Int)] 181, .row (.slice (some ⟨gl, 0, none⟩) sn cl) 3 1 sn (List.map (Value.int .i64) L), .row (.slice (some ⟨gd, 0, none⟩) pg cd) 4 1 pg (List.map Value.bool D), .row (.slice (some ⟨gs, 0, none⟩) ns cs) 3 1 ns (List.map (Value.int .i64) S)] (by kernel_rfl))) ?_
            clear H
            intro v17 H
            refine x_val (.tuple #[.int .i64 (S.getD (pgAt y r b o (L.getD (n / C) 0) / 16384).toNat 0), .bool true]) (by kernel_rfl) rfl (by kernel_rfl) ?_
            refine x_val (.int .i64 (S.getD (pgAt y r b o (L.getD (n / C) 0) / 16384).toNat 0)) (by kernel_rfl) rfl (by kernel_rfl) ?_
            refine x_val (.bool true) (by kernel_rfl) rfl (by kernel_rfl) ?_
            refine x_val (.int .i64 (S.getD (pgAt y r b o (L.getD (n / C) 0) / 16384).toNat 0)) (by kernel_rfl) rfl (by kernel_rfl) ?_
            refine x_val (.bool true) (by kernel_rfl) rfl (by kernel_rfl) ?_
            refine x_nil ?_
            refine x_then ?_
            refine x_seq ?_
            refine x_region ?_
            refine x_val (.pointer (some ⟨g1, 0, none⟩)) (by kernel_rfl) rfl (by kernel_rfl) ?_
            refine x_loadn (t := 67) H 5 g1 0 #[.int .i64 r, .int .i64 s, .int .i64 b, .int .i64 o, .int .i64 c, .int .i64 y, .int .i64 z] 69 [.int .i64 r, .int .i64 s, .int .i64 b, .int .i64 o, .int .i64 c] (by kernel_rfl) (by kernel_rfl) (by kernel_rfl) rfl (by kernel_rfl) (by kernel_rfl) ?_
            refine x_val (.int .i64 (idxP y r b o S (L.getD (n / C) 0) * 64 + ((n % C : Nat) : Int))) (by kernel_rfl) rfl (by kernel_rfl) ?_
            refine x_callB (.tuple #[.agg #[.int .i64 ((idxP y r b o S (L.getD (n / C) 0) * 64 + ((n % C : Nat) : Int)) / 1048576), .int .i64 ((idxP y r b o S (L.getD (n / C) 0) * 64 + ((n % C : Nat) : Int)) / 65536 % 16), .int .i64 ((idxP y r b o S (L.getD (n / C) 0) * 64 + ((n % C : Nat) : Int)) / 64 % 1024), .int .i64 ((idxP y r b o S (L.getD (n / C) 0) * 64 + ((n % C : Nat) : Int)) % 64)], .int .i64 0]) H (by kernel_rfl) rfl (by kernel_rfl) (At_line hL U (h := L.getD (n / C) 0) (j := ((n % C : Nat) : Int)) hv0 hv1 (Int.natCast_nonneg _) hjc rfl _) ?_
            clear H
            intro v18 H
            refine x_val (.tuple #[.agg #[.int .i64 ((idxP y r b o S (L.getD (n / C) 0) * 64 + ((n % C : Nat) : Int)) / 1048576), .int .i64 ((idxP y r b o S (L.getD (n / C) 0) * 64 + ((n % C : Nat) : Int)) / 65536 % 16), .int .i64 ((idxP y r b o S (L.getD (n / C) 0) * 64 + ((n % C : Nat) : Int)) / 64 % 1024), .int .i64 ((idxP y r b o S (L.getD (n / C) 0) * 64 + ((n % C : Nat) : Int)) % 64)], .int .i64 0]) (by kernel_rfl) rfl (by kernel_rfl) ?_
            refine x_val (.agg #[.int .i64 ((idxP y r b o S (L.getD (n / C) 0) * 64 + ((n % C : Nat) : Int)) / 1048576), .int .i64 ((idxP y r b o S (L.getD (n / C) 0) * 64 + ((n % C : Nat) : Int)) / 65536 % 16), .int .i64 ((idxP y r b o S (L.getD (n / C) 0) * 64 + ((n % C : Nat) : Int)) / 64 % 1024), .int .i64 ((idxP y r b o S (L.getD (n / C) 0) * 64 + ((n % C : Nat) : Int)) % 64)]) (by kernel_rfl) rfl (by kernel_rfl) ?_
            refine x_val (.int .i64 0) (by kernel_rfl) rfl (by kernel_rfl) ?_
            refine x_box H #[.int .i64 0, .int .i64 0, .int .i64 0, .int .i64 0] 113 (by kernel_rfl) rfl (by kernel_rfl) ?_
            clear H
            intro v19 g5 H
            refine x_store (t := 113) (v := .agg #[.int .i64 ((idxP y r b o S (L.getD (n / C) 0) * 64 + ((n % C : Nat) : Int)) / 1048576), .int .i64 ((idxP y r b o S (L.getD (n / C) 0) * 64 + ((n % C : Nat) : Int)) / 65536 % 16), .int .i64 ((idxP y r b o S (L.getD (n / C) 0) * 64 + ((n % C : Nat) : Int)) / 64 % 1024), .int .i64 ((idxP y r b o S (L.getD (n / C) 0) * 64 + ((n % C : Nat) : Int)) % 64)]) H 0 g5 0 #[.int .i64 0, .int .i64 0, .int .i64 0, .int .i64 0] #[.int .i64 ((idxP y r b o S (L.getD (n / C) 0) * 64 + ((n % C : Nat) : Int)) / 1048576), .int .i64 ((idxP y r b o S (L.getD (n / C) 0) * 64 + ((n % C : Nat) : Int)) / 65536 % 16), .int .i64 ((idxP y r b o S (L.getD (n / C) 0) * 64 + ((n % C : Nat) : Int)) / 64 % 1024), .int .i64 ((idxP y r b o S (L.getD (n / C) 0) * 64 + ((n % C : Nat) : Int)) % 64)] 113 [.int .i64 ((idxP y r b o S (L.getD (n / C) 0) * 64 + ((n % C : Nat) : Int)) / 1048576), .int .i64 ((idxP y r b o S (L.getD (n / C) 0) * 64 + ((n % C : Nat) : Int)) / 65536 % 16), .int .i64 ((idxP y r b o S (L.getD (n / C) 0) * 64 + ((n % C : Nat) : Int)) / 64 % 1024), .int .i64 ((idxP y r b o S (L.getD (n / C) 0) * 64 + ((n % C : Nat) : Int)) % 64)] [.blk g5 #[.int .i64 ((idxP y r b o S (L.getD (n / C) 0) * 64 + ((n % C : Nat) : Int)) / 1048576), .int .i64 ((idxP y r b o S (L.getD (n / C) 0) * 64 + ((n % C : Nat) : Int)) / 65536 % 16), .int .i64 ((idxP y r b o S (L.getD (n / C) 0) * 64 + ((n % C : Nat) : Int)) / 64 % 1024), .int .i64 ((idxP y r b o S (L.getD (n / C) 0) * 64 + ((n % C : Nat) : Int)) % 64)] 113, .row (vl) 3 1 n (List.map (Value.int .i64) (idxs y r b o S L C n)), .blk p #[.int .i64 r, .int .i64 s, .int .i64 b, .int .i64 o, .int .i64 c, .int .i64 y, .int .i64 z, .slice (some ⟨gl, 0, none⟩) sn cl, .slice (some ⟨gd, 0, none⟩) pg cd, .slice (some ⟨gs, 0, none⟩) ns cs, .int .i64 ((pu : Nat) : Int), .int .i64 ((ru : Nat) : Int)] 181, .row (.slice (some ⟨gl, 0, none⟩) sn cl) 3 1 sn (List.map (Value.int .i64) L), .row (.slice (some ⟨gd, 0, none⟩) pg cd) 4 1 pg (List.map Value.bool D), .row (.slice (some ⟨gs, 0, none⟩) ns cs) 3 1 ns (List.map (Value.int .i64) S), .blk g1 #[.int .i64 r, .int .i64 s, .int .i64 b, .int .i64 o, .int .i64 c, .int .i64 y, .int .i64 z] 69] (by kernel_rfl) rfl (by kernel_rfl) (by kernel_rfl) (by kernel_rfl) (by kernel_rfl) (by kernel_rfl) (by kernel_rfl) (by kernel_rfl) (by kernel_rfl) ?_
            clear H
            intro v20 H
            refine x_val (.int .i64 0) (by kernel_rfl) rfl (by kernel_rfl) ?_
            refine x_nil ?_
            refine x_frame' { tmps := #[.agg #[.int .i64 r, .int .i64 s, .int .i64 b, .int .i64 o, .int .i64 c, .int .i64 y, .int .i64 z], .slice ad nA cA, .pointer (some ⟨g1, 0, none⟩), undef, (uf2 0), .pointer (some ⟨p, 0, none⟩), .int .i64 0, undef, (uf1 0), (uf1 1), (uf1 2), (uf1 3), (uf1 4), (uf1 5), (uf1 6), vl, .int .i64 ((n : Nat) : Int), .int .i64 (idxP y r b o S (L.getD (n / C) 0) * 64 + ((n % C : Nat) : Int)), .int .i64 (L.getD (n / C) 0), .int .i64 (pgAt y r b o (L.getD (n / C) 0) / 16384), .int .i64 0, .int .i64 (S.getD (pgAt y r b o (L.getD (n / C) 0) / 16384).toNat 0), .bool true, .pointer (some ⟨g5, 0, none⟩), .int .i64 0, .bool true, .bool false, .agg #[.int .i64 r, .int .i64 s, .int .i64 b, .int .i64 o, .int .i64 c, .int .i64 y, .int .i64 z], .bool true, .bool false, .bool false, .slice ad nA cA, .int .i64 ((nA : Nat) : Int), .bool false, .bool false, .tuple #[.pointer (some ⟨p, 0, none⟩), .int .i64 0], .agg #[.int .i64 r, .int .i64 s, .int .i64 b, .int .i64 o, .int .i64 c, .int .i64 y, .int .i64 z], .tuple #[.pointer (some ⟨p, 0, none⟩), .int .i64 0], .pointer (some ⟨p, 0, none⟩), .int .i64 0, .int .i64 0, .bool false, .bool false, .pointer (some ⟨p, 0, none⟩), .bool false, .bool false, undef, undef, .slice ad nA cA, .int .i64 ((nA : Nat) : Int), .int .i64 ((k : Nat) : Int), .bool false, (uf1 8), (uf1 9), (uf1 10), (uf1 11), (uf1 12), (uf1 13), (uf1 14), (uf1 15), (uf1 16), (uf1 17), (uf1 18), (uf1 19), (uf1 20), (uf1 21), (uf1 22), (uf1 23), (uf1 24), (uf1 25), (uf1 26), (uf1 27), (uf1 28), (uf1 29), (uf1 30), (uf1 31), (uf1 32), (uf1 33), (uf1 34), (uf1 35), (uf1 36), (uf1 37), (uf1 38), (uf1 39), (uf1 40), (uf1 41), (uf1 42), (uf1 43), (uf1 44), (uf1 45), (uf1 46), (uf1 47), (uf1 48), (uf1 49), (uf1 50), (uf1 51), (uf1 52), (uf1 53), (uf1 54), (uf1 55), (uf1 56), (uf1 57), (uf1 58), (uf1 59), (uf1 60), (uf1 61), (uf1 62), (uf1 63), (uf1 64), (uf1 65), (uf1 66), (uf1 67), (uf1 68), (uf1 69), (uf1 70), (uf1 71), (uf1 72), (uf1 73), (uf1 74), (uf1 75), (uf1 76), (uf1 77), (uf1 78), (uf1 79), (uf1 80), (uf1 81), (uf1 82), (uf1 83), (uf1 84), (uf1 85), (uf1 86), (uf1 87), (uf1 88), (uf1 89), (uf1 90), (uf1 91), (uf1 92), (uf1 93), (uf1 94), (uf1 95), (uf1 96), (uf1 97), .agg #[.int .i64 r, .int .i64 s, .int .i64 b, .int .i64 o, .int .i64 c, .int .i64 y, .int .i64 z], .int .i64 ((N : Nat) : Int), .int .i64 ((n : Nat) : Int), .bool true, .int .i64 ((n : Nat) : Int), .tuple #[.int .i64 (idxP y r b o S (L.getD (n / C) 0) * 64 + ((n % C : Nat) : Int)), .int .i64 (L.getD (n / C) 0), .int .i64 (pgAt y r b o (L.getD (n / C) 0) / 16384), .int .i64 0], .pointer (some ⟨p, 0, none⟩), .int .i64 ((n : Nat) : Int), .tuple #[.int .i64 (idxP y r b o S (L.getD (n / C) 0) * 64 + ((n % C : Nat) : Int)), .int .i64 (L.getD (n / C) 0), .int .i64 (pgAt y r b o (L.getD (n / C) 0) / 16384), .int .i64 0], .int .i64 (idxP y r b o S (L.getD (n / C) 0) * 64 + ((n % C : Nat) : Int)), .int .i64 (L.getD (n / C) 0), .int .i64 (pgAt y r b o (L.getD (n / C) 0) / 16384), .int .i64 0, .tuple #[.int .i64 (S.getD (pgAt y r b o (L.getD (n / C) 0) / 16384).toNat 0), .bool true], .pointer (some ⟨p, 0, none⟩), .int .i64 (pgAt y r b o (L.getD (n / C) 0) / 16384), .tuple #[.int .i64 (S.getD (pgAt y r b o (L.getD (n / C) 0) / 16384).toNat 0), .bool true], .int .i64 (S.getD (pgAt y r b o (L.getD (n / C) 0) / 16384).toNat 0), .bool true, .tuple #[.agg #[.int .i64 ((idxP y r b o S (L.getD (n / C) 0) * 64 + ((n % C : Nat) : Int)) / 1048576), .int .i64 ((idxP y r b o S (L.getD (n / C) 0) * 64 + ((n % C : Nat) : Int)) / 65536 % 16), .int .i64 ((idxP y r b o S (L.getD (n / C) 0) * 64 + ((n % C : Nat) : Int)) / 64 % 1024), .int .i64 ((idxP y r b o S (L.getD (n / C) 0) * 64 + ((n % C : Nat) : Int)) % 64)], .int .i64 0], .pointer (some ⟨g1, 0, none⟩), .agg #[.int .i64 r, .int .i64 s, .int .i64 b, .int .i64 o, .int .i64 c], .int .i64 (idxP y r b o S (L.getD (n / C) 0) * 64 + ((n % C : Nat) : Int)), .tuple #[.agg #[.int .i64 ((idxP y r b o S (L.getD (n / C) 0) * 64 + ((n % C : Nat) : Int)) / 1048576), .int .i64 ((idxP y r b o S (L.getD (n / C) 0) * 64 + ((n % C : Nat) : Int)) / 65536 % 16), .int .i64 ((idxP y r b o S (L.getD (n / C) 0) * 64 + ((n % C : Nat) : Int)) / 64 % 1024), .int .i64 ((idxP y r b o S (L.getD (n / C) 0) * 64 + ((n % C : Nat) : Int)) % 64)], .int .i64 0], .agg #[.int .i64 ((idxP y r b o S (L.getD (n / C) 0) * 64 + ((n % C : Nat) : Int)) / 1048576), .int .i64 ((idxP y r b o S (L.getD (n / C) 0) * 64 + ((n % C : Nat) : Int)) / 65536 % 16), .int .i64 ((idxP y r b o S (L.getD (n / C) 0) * 64 + ((n % C : Nat) : Int)) / 64 % 1024), .int .i64 ((idxP y r b o S (L.getD (n / C) 0) * 64 + ((n % C : Nat) : Int)) % 64)], .int .i64 0, (uf2 33), (uf2 34), (uf2 35), (uf2 36), (uf2 37), (uf2 38), (uf2 39), (uf2 40), (uf2 41), (uf2 42), (uf2 43), (uf2 44), (uf2 45), (uf2 46), (uf2 47), (uf2 48), (uf2 49), (uf2 50), (uf2 51), (uf2 52), (uf2 53), (uf2 54), (uf2 55), (uf2 56), (uf2 57), (uf2 58), (uf2 59), (uf2 60), (uf2 61), (uf2 62)], defers := [] } (by kernel_rfl) ?_
            refine x_then ?_
            refine x_seq ?_
            refine x_seq ?_
            refine x_region ?_
            refine x_val (.int .i64 0) (by kernel_rfl) rfl (by kernel_rfl) ?_
            refine x_val (.bool false) (by kernel_rfl) rfl (by kernel_rfl) ?_
            refine x_val (.bool false) (by kernel_rfl) rfl (by kernel_rfl) ?_
            refine x_val (.int .i64 0) (by kernel_rfl) rfl (by kernel_rfl) ?_
            refine x_val (.bool false) (by kernel_rfl) rfl (by kernel_rfl) ?_
            refine x_val (.bool false) (by kernel_rfl) rfl (by kernel_rfl) ?_
            refine x_val (.bool false) (by kernel_rfl) rfl (by kernel_rfl) ?_
            refine x_val (vl) (by kernel_rfl) rfl (by kernel_rfl) ?_
            refine x_val (.int .i64 (idxP y r b o S (L.getD (n / C) 0) * 64 + ((n % C : Nat) : Int))) (by kernel_rfl) rfl (by kernel_rfl) ?_
            refine x_callB (.bool false) H (by kernel_rfl) rfl (by kernel_rfl) (has_any vl n _ _ (by omega) (unl_new hL hC hN U (by omega)) _ (H.roOf [1] [.row (vl) 3 1 n (List.map (Value.int .i64) (idxs y r b o S L C n))] (by kernel_rfl))) ?_
            clear H
            intro v21 H
            refine x_val (.bool false) (by kernel_rfl) rfl (by kernel_rfl) ?_
            refine x_val (.bool false) (by kernel_rfl) rfl (by kernel_rfl) ?_
            refine x_val (.pointer (some ⟨p, 0, none⟩)) (by kernel_rfl) rfl (by kernel_rfl) ?_
            refine x_val (.int .i64 (L.getD (n / C) 0)) (by kernel_rfl) rfl (by kernel_rfl) ?_
            refine x_callB (.bool false) H (by kernel_rfl) rfl (by kernel_rfl) (by have := Dead_at hL U (L.getD (n / C) 0) _ (H.roOf [2, 3, 4, 5] [.blk p #[.int .i64 r, .int .i64 s, .int .i64 b, .int .i64 o, .int .i64 c, .int .i64 y, .int .i64 z, .slice (some ⟨gl, 0, none⟩) sn cl, .slice (some ⟨gd, 0, none⟩) pg cd, .slice (some ⟨gs, 0, none⟩) ns cs, .int .i64 ((pu : Nat) : Int), .int .i64 ((ru : Nat) : Int)] 181, .row (.slice (some ⟨gl, 0, none⟩) sn cl) 3 1 sn (List.map (Value.int .i64) L), .row (.slice (some ⟨gd, 0, none⟩) pg cd) 4 1 pg (List.map Value.bool D), .row (.slice (some ⟨gs, 0, none⟩) ns cs) 3 1 ns (List.map (Value.int .i64) S)] (by kernel_rfl)); rwa [live_no hL hC hN U (n := n) (by omega)] at this) ?_
            clear H
            intro v22 H
            refine x_val (.bool false) (by kernel_rfl) rfl (by kernel_rfl) ?_
            refine x_val (.bool false) (by kernel_rfl) rfl (by kernel_rfl) ?_
            refine x_val (.bool true) (by kernel_rfl) rfl (by kernel_rfl) ?_
            refine x_val (.bool true) (by kernel_rfl) rfl (by kernel_rfl) ?_
            refine x_val (.pointer (some ⟨g5, 0, none⟩)) (by kernel_rfl) rfl (by kernel_rfl) ?_
            refine x_load1 H 0 g5 0 #[.int .i64 ((idxP y r b o S (L.getD (n / C) 0) * 64 + ((n % C : Nat) : Int)) / 1048576), .int .i64 ((idxP y r b o S (L.getD (n / C) 0) * 64 + ((n % C : Nat) : Int)) / 65536 % 16), .int .i64 ((idxP y r b o S (L.getD (n / C) 0) * 64 + ((n % C : Nat) : Int)) / 64 % 1024), .int .i64 ((idxP y r b o S (L.getD (n / C) 0) * 64 + ((n % C : Nat) : Int)) % 64)] 113 (.int .i64 ((idxP y r b o S (L.getD (n / C) 0) * 64 + ((n % C : Nat) : Int)) / 1048576)) (by kernel_rfl) (by kernel_rfl) (by kernel_rfl) rfl (by kernel_rfl) ?_
            refine x_val (.int .i64 (pgAt y r b o (L.getD (n / C) 0) / 16384)) (by kernel_rfl) rfl (by kernel_rfl) ?_
            refine x_val (.bool (decide (((idxP y r b o S (L.getD (n / C) 0) * 64 + ((n % C : Nat) : Int)) / 1048576) = (pgAt y r b o (L.getD (n / C) 0) / 16384)))) (by kernel_rfl) rfl (by kernel_rfl) ?_
            refine x_val (.bool (decide (((idxP y r b o S (L.getD (n / C) 0) * 64 + ((n % C : Nat) : Int)) / 1048576) = (pgAt y r b o (L.getD (n / C) 0) / 16384)))) (by kernel_rfl) rfl (by kernel_rfl) ?_
            refine x_val (.bool (decide (((idxP y r b o S (L.getD (n / C) 0) * 64 + ((n % C : Nat) : Int)) / 1048576) = (pgAt y r b o (L.getD (n / C) 0) / 16384)))) (by kernel_rfl) rfl (by kernel_rfl) ?_
            refine x_nil ?_
            refine x_then ?_
            cases h6 : decide (((idxP y r b o S (L.getD (n / C) 0) * 64 + ((n % C : Nat) : Int)) / 1048576) = (pgAt y r b o (L.getD (n / C) 0) / 16384))
            · skip
              have h6p := of_decide_eq_false h6
              refine x_f (by kernel_rfl) ?_
              refine x_skipc ?_
              refine x_then ?_
              refine x_region ?_
              refine x_val (vl) (by kernel_rfl) rfl (by kernel_rfl) ?_
              refine x_val (.int .i64 (idxP y r b o S (L.getD (n / C) 0) * 64 + ((n % C : Nat) : Int))) (by kernel_rfl) rfl (by kernel_rfl) ?_
              refine x_box' H #[.int .i64 (idxP y r b o S (L.getD (n / C) 0) * 64 + ((n % C : Nat) : Int))] 3 1 (by kernel_rfl) rfl (by kernel_rfl) ?_
              clear H
              intro v23 g6 H
              refine x_append H 2 (vl) 106 3 1 8 n (.int .i64 0) (List.map (Value.int .i64) (idxs y r b o S L C n)) ⟨g6, 0, none⟩ 1 1 [.int .i64 (idxP y r b o S (L.getD (n / C) 0) * 64 + ((n % C : Nat) : Int))] rfl (by kernel_rfl) (by kernel_rfl) rfl (by decide) (by decide) rfl (fun j u hj => by rw [add_none]; exact cellOf (H.blk 0 rfl) (by simpa using hj)) (List.all_eq_true.1 (by kernel_rfl)) (by unfold maxLen; omega) (by omega) (by kernel_rfl) rfl (by kernel_rfl) ?_
              clear H
              intro v24 g7 c7 hc7 H
              rw [show (List.map (Value.int .i64) (idxs y r b o S L C n)) ++ [.int .i64 (idxP y r b o S (L.getD (n / C) 0) * 64 + ((n % C : Nat) : Int))] = (List.map (Value.int .i64) (idxs y r b o S L C (n + 1))) from (by rw [idxs_succ, List.map_append]; rfl)] at H
              replace H : Hs [] w0 v24 [.blk g6 #[.int .i64 (idxP y r b o S (L.getD (n / C) 0) * 64 + ((n % C : Nat) : Int))] 3, .blk g5 #[.int .i64 ((idxP y r b o S (L.getD (n / C) 0) * 64 + ((n % C : Nat) : Int)) / 1048576), .int .i64 ((idxP y r b o S (L.getD (n / C) 0) * 64 + ((n % C : Nat) : Int)) / 65536 % 16), .int .i64 ((idxP y r b o S (L.getD (n / C) 0) * 64 + ((n % C : Nat) : Int)) / 64 % 1024), .int .i64 ((idxP y r b o S (L.getD (n / C) 0) * 64 + ((n % C : Nat) : Int)) % 64)] 113, .row (.slice (some ⟨g7, 0, none⟩) (n + 1) c7) 3 1 (n + 1) (List.map (Value.int .i64) (idxs y r b o S L C (n + 1))), .blk p #[.int .i64 r, .int .i64 s, .int .i64 b, .int .i64 o, .int .i64 c, .int .i64 y, .int .i64 z, .slice (some ⟨gl, 0, none⟩) sn cl, .slice (some ⟨gd, 0, none⟩) pg cd, .slice (some ⟨gs, 0, none⟩) ns cs, .int .i64 ((pu : Nat) : Int), .int .i64 ((ru : Nat) : Int)] 181, .row (.slice (some ⟨gl, 0, none⟩) sn cl) 3 1 sn (List.map (Value.int .i64) L), .row (.slice (some ⟨gd, 0, none⟩) pg cd) 4 1 pg (List.map Value.bool D), .row (.slice (some ⟨gs, 0, none⟩) ns cs) 3 1 ns (List.map (Value.int .i64) S), .blk g1 #[.int .i64 r, .int .i64 s, .int .i64 b, .int .i64 o, .int .i64 c, .int .i64 y, .int .i64 z] 69] := H
              replace H := H.pick [1, 2, 3, 4, 5, 6, 7] [.blk g5 #[.int .i64 ((idxP y r b o S (L.getD (n / C) 0) * 64 + ((n % C : Nat) : Int)) / 1048576), .int .i64 ((idxP y r b o S (L.getD (n / C) 0) * 64 + ((n % C : Nat) : Int)) / 65536 % 16), .int .i64 ((idxP y r b o S (L.getD (n / C) 0) * 64 + ((n % C : Nat) : Int)) / 64 % 1024), .int .i64 ((idxP y r b o S (L.getD (n / C) 0) * 64 + ((n % C : Nat) : Int)) % 64)] 113, .row (.slice (some ⟨g7, 0, none⟩) (n + 1) c7) 3 1 (n + 1) (List.map (Value.int .i64) (idxs y r b o S L C (n + 1))), .blk p #[.int .i64 r, .int .i64 s, .int .i64 b, .int .i64 o, .int .i64 c, .int .i64 y, .int .i64 z, .slice (some ⟨gl, 0, none⟩) sn cl, .slice (some ⟨gd, 0, none⟩) pg cd, .slice (some ⟨gs, 0, none⟩) ns cs, .int .i64 ((pu : Nat) : Int), .int .i64 ((ru : Nat) : Int)] 181, .row (.slice (some ⟨gl, 0, none⟩) sn cl) 3 1 sn (List.map (Value.int .i64) L), .row (.slice (some ⟨gd, 0, none⟩) pg cd) 4 1 pg (List.map Value.bool D), .row (.slice (some ⟨gs, 0, none⟩) ns cs) 3 1 ns (List.map (Value.int .i64) S), .blk g1 #[.int .i64 r, .int .i64 s, .int .i64 b, .int .i64 o, .int .i64 c, .int .i64 y, .int .i64 z] 69] (by decide) (by kernel_rfl)
              refine x_val (.slice (some ⟨g7, 0, none⟩) (n + 1) c7) (by kernel_rfl) rfl (by kernel_rfl) ?_
              refine x_nil ?_
              refine x_frame' { tmps := #[.agg #[.int .i64 r, .int .i64 s, .int .i64 b, .int .i64 o, .int .i64 c, .int .i64 y, .int .i64 z], .slice ad nA cA, .pointer (some ⟨g1, 0, none⟩), undef, (uf2 0), .pointer (some ⟨p, 0, none⟩), .int .i64 0, undef, (uf1 0), (uf1 1), (uf1 2), (uf1 3), (uf1 4), (uf1 5), (uf1 6), .slice (some ⟨g7, 0, none⟩) (n + 1) c7, .int .i64 ((n : Nat) : Int), .int .i64 (idxP y r b o S (L.getD (n / C) 0) * 64 + ((n % C : Nat) : Int)), .int .i64 (L.getD (n / C) 0), .int .i64 (pgAt y r b o (L.getD (n / C) 0) / 16384), .int .i64 0, .int .i64 (S.getD (pgAt y r b o (L.getD (n / C) 0) / 16384).toNat 0), .bool true, .pointer (some ⟨g5, 0, none⟩), .int .i64 0, .bool true, .bool false, .agg #[.int .i64 r, .int .i64 s, .int .i64 b, .int .i64 o, .int .i64 c, .int .i64 y, .int .i64 z], .bool true, .bool false, .bool false, .slice ad nA cA, .int .i64 ((nA : Nat) : Int), .bool false, .bool false, .tuple #[.pointer (some ⟨p, 0, none⟩), .int .i64 0], .agg #[.int .i64 r, .int .i64 s, .int .i64 b, .int .i64 o, .int .i64 c, .int .i64 y, .int .i64 z], .tuple #[.pointer (some ⟨p, 0, none⟩), .int .i64 0], .pointer (some ⟨p, 0, none⟩), .int .i64 0, .int .i64 0, .bool false, .bool false, .pointer (some ⟨p, 0, none⟩), .bool false, .bool false, undef, undef, .slice ad nA cA, .int .i64 ((nA : Nat) : Int), .int .i64 ((k : Nat) : Int), .bool false, (uf1 8), (uf1 9), (uf1 10), (uf1 11), (uf1 12), (uf1 13), (uf1 14), (uf1 15), (uf1 16), (uf1 17), (uf1 18), (uf1 19), (uf1 20), (uf1 21), (uf1 22), (uf1 23), (uf1 24), (uf1 25), (uf1 26), (uf1 27), (uf1 28), (uf1 29), (uf1 30), (uf1 31), (uf1 32), (uf1 33), (uf1 34), (uf1 35), (uf1 36), (uf1 37), (uf1 38), (uf1 39), (uf1 40), (uf1 41), (uf1 42), (uf1 43), (uf1 44), (uf1 45), (uf1 46), (uf1 47), (uf1 48), (uf1 49), (uf1 50), (uf1 51), (uf1 52), (uf1 53), (uf1 54), (uf1 55), (uf1 56), (uf1 57), (uf1 58), (uf1 59), (uf1 60), (uf1 61), (uf1 62), (uf1 63), (uf1 64), (uf1 65), (uf1 66), (uf1 67), (uf1 68), (uf1 69), (uf1 70), (uf1 71), (uf1 72), (uf1 73), (uf1 74), (uf1 75), (uf1 76), (uf1 77), (uf1 78), (uf1 79), (uf1 80), (uf1 81), (uf1 82), (uf1 83), (uf1 84), (uf1 85), (uf1 86), (uf1 87), (uf1 88), (uf1 89), (uf1 90), (uf1 91), (uf1 92), (uf1 93), (uf1 94), (uf1 95), (uf1 96), (uf1 97), .agg #[.int .i64 r, .int .i64 s, .int .i64 b, .int .i64 o, .int .i64 c, .int .i64 y, .int .i64 z], .int .i64 ((N : Nat) : Int), .int .i64 ((n : Nat) : Int), .bool true, .int .i64 ((n : Nat) : Int), .tuple #[.int .i64 (idxP y r b o S (L.getD (n / C) 0) * 64 + ((n % C : Nat) : Int)), .int .i64 (L.getD (n / C) 0), .int .i64 (pgAt y r b o (L.getD (n / C) 0) / 16384), .int .i64 0], .pointer (some ⟨p, 0, none⟩), .int .i64 ((n : Nat) : Int), .tuple #[.int .i64 (idxP y r b o S (L.getD (n / C) 0) * 64 + ((n % C : Nat) : Int)), .int .i64 (L.getD (n / C) 0), .int .i64 (pgAt y r b o (L.getD (n / C) 0) / 16384), .int .i64 0], .int .i64 (idxP y r b o S (L.getD (n / C) 0) * 64 + ((n % C : Nat) : Int)), .int .i64 (L.getD (n / C) 0), .int .i64 (pgAt y r b o (L.getD (n / C) 0) / 16384), .int .i64 0, .tuple #[.int .i64 (S.getD (pgAt y r b o (L.getD (n / C) 0) / 16384).toNat 0), .bool true], .pointer (some ⟨p, 0, none⟩), .int .i64 (pgAt y r b o (L.getD (n / C) 0) / 16384), .tuple #[.int .i64 (S.getD (pgAt y r b o (L.getD (n / C) 0) / 16384).toNat 0), .bool true], .int .i64 (S.getD (pgAt y r b o (L.getD (n / C) 0) / 16384).toNat 0), .bool true, .tuple #[.agg #[.int .i64 ((idxP y r b o S (L.getD (n / C) 0) * 64 + ((n % C : Nat) : Int)) / 1048576), .int .i64 ((idxP y r b o S (L.getD (n / C) 0) * 64 + ((n % C : Nat) : Int)) / 65536 % 16), .int .i64 ((idxP y r b o S (L.getD (n / C) 0) * 64 + ((n % C : Nat) : Int)) / 64 % 1024), .int .i64 ((idxP y r b o S (L.getD (n / C) 0) * 64 + ((n % C : Nat) : Int)) % 64)], .int .i64 0], .pointer (some ⟨g1, 0, none⟩), .agg #[.int .i64 r, .int .i64 s, .int .i64 b, .int .i64 o, .int .i64 c], .int .i64 (idxP y r b o S (L.getD (n / C) 0) * 64 + ((n % C : Nat) : Int)), .tuple #[.agg #[.int .i64 ((idxP y r b o S (L.getD (n / C) 0) * 64 + ((n % C : Nat) : Int)) / 1048576), .int .i64 ((idxP y r b o S (L.getD (n / C) 0) * 64 + ((n % C : Nat) : Int)) / 65536 % 16), .int .i64 ((idxP y r b o S (L.getD (n / C) 0) * 64 + ((n % C : Nat) : Int)) / 64 % 1024), .int .i64 ((idxP y r b o S (L.getD (n / C) 0) * 64 + ((n % C : Nat) : Int)) % 64)], .int .i64 0], .agg #[.int .i64 ((idxP y r b o S (L.getD (n / C) 0) * 64 + ((n % C : Nat) : Int)) / 1048576), .int .i64 ((idxP y r b o S (L.getD (n / C) 0) * 64 + ((n % C : Nat) : Int)) / 65536 % 16), .int .i64 ((idxP y r b o S (L.getD (n / C) 0) * 64 + ((n % C : Nat) : Int)) / 64 % 1024), .int .i64 ((idxP y r b o S (L.getD (n / C) 0) * 64 + ((n % C : Nat) : Int)) % 64)], .int .i64 0, .int .i64 0, .bool false, .bool false, .int .i64 0, .bool false, .bool false, .bool false, vl, .int .i64 (idxP y r b o S (L.getD (n / C) 0) * 64 + ((n % C : Nat) : Int)), .bool false, .bool false, .bool false, .pointer (some ⟨p, 0, none⟩), .int .i64 (L.getD (n / C) 0), .bool false, .bool false, .bool false, .bool true, .bool true, .pointer (some ⟨g5, 0, none⟩), .int .i64 ((idxP y r b o S (L.getD (n / C) 0) * 64 + ((n % C : Nat) : Int)) / 1048576), .int .i64 (pgAt y r b o (L.getD (n / C) 0) / 16384), .bool false, .bool false, .bool false, vl, .int .i64 (idxP y r b o S (L.getD (n / C) 0) * 64 + ((n % C : Nat) : Int)), .slice (some ⟨g6, 0, none⟩) 1 1, .slice (some ⟨g7, 0, none⟩) (n + 1) c7, (uf2 62)], defers := [] } (by kernel_rfl) ?_
              refine x_blk ?_
              refine x_then ?_
              refine x_region ?_
              refine x_ar (((n : Nat) : Int) + 1) ⟨by omega, by omega⟩ (by kernel_rfl) rfl (by kernel_rfl) ?_
              refine x_val (.int .i64 (((n : Nat) : Int) + 1)) (by kernel_rfl) rfl (by kernel_rfl) ?_
              refine x_nil ?_
              refine x_then ?_
              replace H := H.pick [1, 2, 3, 4, 5, 6] [.row (.slice (some ⟨g7, 0, none⟩) (n + 1) c7) 3 1 (n + 1) (List.map (Value.int .i64) (idxs y r b o S L C (n + 1))), .blk p #[.int .i64 r, .int .i64 s, .int .i64 b, .int .i64 o, .int .i64 c, .int .i64 y, .int .i64 z, .slice (some ⟨gl, 0, none⟩) sn cl, .slice (some ⟨gd, 0, none⟩) pg cd, .slice (some ⟨gs, 0, none⟩) ns cs, .int .i64 ((pu : Nat) : Int), .int .i64 ((ru : Nat) : Int)] 181, .row (.slice (some ⟨gl, 0, none⟩) sn cl) 3 1 sn (List.map (Value.int .i64) L), .row (.slice (some ⟨gd, 0, none⟩) pg cd) 4 1 pg (List.map Value.bool D), .row (.slice (some ⟨gs, 0, none⟩) ns cs) 3 1 ns (List.map (Value.int .i64) S), .blk g1 #[.int .i64 r, .int .i64 s, .int .i64 b, .int .i64 o, .int .i64 c, .int .i64 y, .int .i64 z] 69] (by decide) (by kernel_rfl)
              exact ⟨(n + 1, .slice (some ⟨g7, 0, none⟩) (n + 1) c7), (by dsimp only; omega), (nthV [(uf2 0), .int .i64 ((n : Nat) : Int), .int .i64 (idxP y r b o S (L.getD (n / C) 0) * 64 + ((n % C : Nat) : Int)), .int .i64 (L.getD (n / C) 0), .int .i64 (pgAt y r b o (L.getD (n / C) 0) / 16384), .int .i64 0, .int .i64 (S.getD (pgAt y r b o (L.getD (n / C) 0) / 16384).toNat 0), .bool true, .pointer (some ⟨g5, 0, none⟩), .int .i64 0, .bool true, .int .i64 ((n : Nat) : Int), .tuple #[.int .i64 (idxP y r b o S (L.getD (n / C) 0) * 64 + ((n % C : Nat) : Int)), .int .i64 (L.getD (n / C) 0), .int .i64 (pgAt y r b o (L.getD (n / C) 0) / 16384), .int .i64 0], .pointer (some ⟨p, 0, none⟩), .int .i64 ((n : Nat) : Int), .tuple #[.int .i64 (idxP y r b o S (L.getD (n / C) 0) * 64 + ((n % C : Nat) : Int)), .int .i64 (L.getD (n / C) 0), .int .i64 (pgAt y r b o (L.getD (n / C) 0) / 16384), .int .i64 0], .int .i64 (idxP y r b o S (L.getD (n / C) 0) * 64 + ((n % C : Nat) : Int)), .int .i64 (L.getD (n / C) 0), .int .i64 (pgAt y r b o (L.getD (n / C) 0) / 16384), .int .i64 0, .tuple #[.int .i64 (S.getD (pgAt y r b o (L.getD (n / C) 0) / 16384).toNat 0), .bool true], .pointer (some ⟨p, 0, none⟩), .int .i64 (pgAt y r b o (L.getD (n / C) 0) / 16384), .tuple #[.int .i64 (S.getD (pgAt y r b o (L.getD (n / C) 0) / 16384).toNat 0), .bool true], .int .i64 (S.getD (pgAt y r b o (L.getD (n / C) 0) / 16384).toNat 0), .bool true, .tuple #[.agg #[.int .i64 ((idxP y r b o S (L.getD (n / C) 0) * 64 + ((n % C : Nat) : Int)) / 1048576), .int .i64 ((idxP y r b o S (L.getD (n / C) 0) * 64 + ((n % C : Nat) : Int)) / 65536 % 16), .int .i64 ((idxP y r b o S (L.getD (n / C) 0) * 64 + ((n % C : Nat) : Int)) / 64 % 1024), .int .i64 ((idxP y r b o S (L.getD (n / C) 0) * 64 + ((n % C : Nat) : Int)) % 64)], .int .i64 0], .pointer (some ⟨g1, 0, none⟩), .agg #[.int .i64 r, .int .i64 s, .int .i64 b, .int .i64 o, .int .i64 c], .int .i64 (idxP y r b o S (L.getD (n / C) 0) * 64 + ((n % C : Nat) : Int)), .tuple #[.agg #[.int .i64 ((idxP y r b o S (L.getD (n / C) 0) * 64 + ((n % C : Nat) : Int)) / 1048576), .int .i64 ((idxP y r b o S (L.getD (n / C) 0) * 64 + ((n % C : Nat) : Int)) / 65536 % 16), .int .i64 ((idxP y r b o S (L.getD (n / C) 0) * 64 + ((n % C : Nat) : Int)) / 64 % 1024), .int .i64 ((idxP y r b o S (L.getD (n / C) 0) * 64 + ((n % C : Nat) : Int)) % 64)], .int .i64 0], .agg #[.int .i64 ((idxP y r b o S (L.getD (n / C) 0) * 64 + ((n % C : Nat) : Int)) / 1048576), .int .i64 ((idxP y r b o S (L.getD (n / C) 0) * 64 + ((n % C : Nat) : Int)) / 65536 % 16), .int .i64 ((idxP y r b o S (L.getD (n / C) 0) * 64 + ((n % C : Nat) : Int)) / 64 % 1024), .int .i64 ((idxP y r b o S (L.getD (n / C) 0) * 64 + ((n % C : Nat) : Int)) % 64)], .int .i64 0, .int .i64 0, .bool false, .bool false, .int .i64 0, .bool false, .bool false, .bool false, vl, .int .i64 (idxP y r b o S (L.getD (n / C) 0) * 64 + ((n % C : Nat) : Int)), .bool false, .bool false, .bool false, .pointer (some ⟨p, 0, none⟩), .int .i64 (L.getD (n / C) 0), .bool false, .bool false, .bool false, .bool true, .bool true, .pointer (some ⟨g5, 0, none⟩), .int .i64 ((idxP y r b o S (L.getD (n / C) 0) * 64 + ((n % C : Nat) : Int)) / 1048576), .int .i64 (pgAt y r b o (L.getD (n / C) 0) / 16384), .bool false, .bool false, .bool false, vl, .int .i64 (idxP y r b o S (L.getD (n / C) 0) * 64 + ((n % C : Nat) : Int)), .slice (some ⟨g6, 0, none⟩) 1 1, .slice (some ⟨g7, 0, none⟩) (n + 1) c7, .int .i64 (((n : Nat) : Int) + 1)]), (by kernel_rfl), H, (by omega)⟩
            · skip
              have h6p := of_decide_eq_true h6
              exact absurd h6p (rank_off hL hC hN U (by omega) h5)
      · skip
        have h3p := of_decide_eq_true h3
        refine x_t (by kernel_rfl) ?_
        refine x_skipc ?_
        refine x_then ?_
        refine x_seq ?_
        refine x_block ?_
        refine x_seq ?_
        refine x_region ?_
        obtain ⟨ga, oa, had, hcell⟩ := hO (by omega)
        refine x_ixO (t := 100) had k nA cA 103 3 (oa + k * 3) (by omega) (by omega) (by kernel_rfl) (by kernel_rfl) (by kernel_rfl) rfl (by kernel_rfl) ?_
        refine x_loadcn (t := 103) ga (oa + k * 3) [.int .i64 ((O.getD k (0, 0, 0)).1), .int .i64 ((O.getD k (0, 0, 0)).2.1), .int .i64 ((O.getD k (0, 0, 0)).2.2)] (hcell _ H.below k (by omega)) (by kernel_rfl) rfl (by kernel_rfl) (by kernel_rfl) ?_
        refine x_box H #[.int .i64 0, .int .i64 0, .int .i64 0] 103 (by kernel_rfl) rfl (by kernel_rfl) ?_
        clear H
        intro v25 g8 H
        refine x_store (t := 103) (v := .agg #[.int .i64 ((O.getD k (0, 0, 0)).1), .int .i64 ((O.getD k (0, 0, 0)).2.1), .int .i64 ((O.getD k (0, 0, 0)).2.2)]) H 0 g8 0 #[.int .i64 0, .int .i64 0, .int .i64 0] #[.int .i64 ((O.getD k (0, 0, 0)).1), .int .i64 ((O.getD k (0, 0, 0)).2.1), .int .i64 ((O.getD k (0, 0, 0)).2.2)] 103 [.int .i64 ((O.getD k (0, 0, 0)).1), .int .i64 ((O.getD k (0, 0, 0)).2.1), .int .i64 ((O.getD k (0, 0, 0)).2.2)] [.blk g8 #[.int .i64 ((O.getD k (0, 0, 0)).1), .int .i64 ((O.getD k (0, 0, 0)).2.1), .int .i64 ((O.getD k (0, 0, 0)).2.2)] 103, .blk p #[.int .i64 r, .int .i64 s, .int .i64 b, .int .i64 o, .int .i64 c, .int .i64 y, .int .i64 z, .slice (some ⟨gl, 0, none⟩) sn cl, .slice (some ⟨gd, 0, none⟩) pg cd, .slice (some ⟨gs, 0, none⟩) ns cs, .int .i64 ((pu : Nat) : Int), .int .i64 ((ru : Nat) : Int)] 181, .row (.slice (some ⟨gl, 0, none⟩) sn cl) 3 1 sn (List.map (Value.int .i64) L), .row (.slice (some ⟨gd, 0, none⟩) pg cd) 4 1 pg (List.map Value.bool D), .row (.slice (some ⟨gs, 0, none⟩) ns cs) 3 1 ns (List.map (Value.int .i64) S), .blk g1 #[.int .i64 r, .int .i64 s, .int .i64 b, .int .i64 o, .int .i64 c, .int .i64 y, .int .i64 z] 69] (by kernel_rfl) rfl (by kernel_rfl) (by kernel_rfl) (by kernel_rfl) (by kernel_rfl) (by kernel_rfl) (by kernel_rfl) (by kernel_rfl) (by kernel_rfl) ?_
        clear H
        intro v26 H
        refine x_nil ?_
        refine x_then ?_
        refine x_seq ?_
        refine x_cut (fun a w' => ∃ L : List Int, ∃ D : List Bool, ∃ pu : Nat, ∃ uf3 : Nat → Value, a = { tmps := #[.agg #[.int .i64 r, .int .i64 s, .int .i64 b, .int .i64 o, .int .i64 c, .int .i64 y, .int .i64 z], .slice ad nA cA, .pointer (some ⟨g1, 0, none⟩), undef, .bool false, .pointer (some ⟨p, 0, none⟩), .int .i64 0, undef, .pointer (some ⟨g8, 0, none⟩), (uf3 0), (uf3 1), (uf1 3), (uf1 4), (uf1 5), (uf1 6), undef, undef, undef, undef, undef, undef, undef, undef, undef, undef, .bool true, .bool false, .agg #[.int .i64 r, .int .i64 s, .int .i64 b, .int .i64 o, .int .i64 c, .int .i64 y, .int .i64 z], .bool true, .bool false, .bool false, .slice ad nA cA, .int .i64 ((nA : Nat) : Int), .bool false, .bool false, .tuple #[.pointer (some ⟨p, 0, none⟩), .int .i64 0], .agg #[.int .i64 r, .int .i64 s, .int .i64 b, .int .i64 o, .int .i64 c, .int .i64 y, .int .i64 z], .tuple #[.pointer (some ⟨p, 0, none⟩), .int .i64 0], .pointer (some ⟨p, 0, none⟩), .int .i64 0, .int .i64 0, .bool false, .bool false, .pointer (some ⟨p, 0, none⟩), .bool false, .bool false, undef, undef, .slice ad nA cA, .int .i64 ((nA : Nat) : Int), .int .i64 ((k : Nat) : Int), .bool true, .pointer (some ⟨ga, oa + k * 3, none⟩), .agg #[.int .i64 ((O.getD k (0, 0, 0)).1), .int .i64 ((O.getD k (0, 0, 0)).2.1), .int .i64 ((O.getD k (0, 0, 0)).2.2)], (uf3 2), (uf3 3), (uf3 4), (uf3 5), (uf3 6), (uf3 7), (uf3 8), (uf3 9), (uf3 10), (uf3 11), (uf3 12), (uf3 13), (uf3 14), (uf3 15), (uf3 16), (uf3 17), (uf3 18), (uf3 19), (uf3 20), (uf3 21), (uf3 22), (uf3 23), (uf3 24), (uf3 25), (uf3 26), (uf3 27), (uf3 28), (uf3 29), (uf3 30), (uf3 31), (uf3 32), (uf3 33), (uf3 34), (uf3 35), (uf3 36), (uf3 37), (uf3 38), (uf3 39), (uf3 40), (uf3 41), (uf3 42), (uf3 43), (uf3 44), (uf3 45), (uf3 46), (uf3 47), (uf3 48), (uf3 49), (uf1 58), (uf1 59), (uf1 60), (uf1 61), (uf1 62), (uf1 63), (uf1 64), (uf1 65), (uf1 66), (uf1 67), (uf1 68), (uf1 69), (uf1 70), (uf1 71), (uf1 72), (uf1 73), (uf1 74), (uf1 75), (uf1 76), (uf1 77), (uf1 78), (uf1 79), (uf1 80), (uf1 81), (uf1 82), (uf1 83), (uf1 84), (uf1 85), (uf1 86), (uf1 87), (uf1 88), (uf1 89), (uf1 90), (uf1 91), (uf1 92), (uf1 93), (uf1 94), (uf1 95), (uf1 96), (uf1 97), undef, undef, undef, undef, undef, undef, undef, undef, undef, undef, undef, undef, undef, undef, undef, undef, undef, undef, undef, undef, undef, undef, undef, undef, undef, undef, undef, undef, undef, undef, undef, undef, undef, undef, undef, undef, undef, undef, undef, undef, undef, undef, undef, undef, undef, undef, undef, undef, undef, undef, undef, undef, undef, undef, undef, undef], defers := [] } ∧ Hs [] w0 w' [.blk g8 #[.int .i64 ((O.getD k (0, 0, 0)).1), .int .i64 ((O.getD k (0, 0, 0)).2.1), .int .i64 ((O.getD k (0, 0, 0)).2.2)] 103, .blk p #[.int .i64 r, .int .i64 s, .int .i64 b, .int .i64 o, .int .i64 c, .int .i64 y, .int .i64 z, .slice (some ⟨gl, 0, none⟩) sn cl, .slice (some ⟨gd, 0, none⟩) pg cd, .slice (some ⟨gs, 0, none⟩) ns cs, .int .i64 ((pu : Nat) : Int), .int .i64 ((ru : Nat) : Int)] 181, .row (.slice (some ⟨gl, 0, none⟩) sn cl) 3 1 sn (List.map (Value.int .i64) L), .row (.slice (some ⟨gd, 0, none⟩) pg cd) 4 1 pg (List.map Value.bool D), .row (.slice (some ⟨gs, 0, none⟩) ns cs) 3 1 ns (List.map (Value.int .i64) S), .blk g1 #[.int .i64 r, .int .i64 s, .int .i64 b, .int .i64 o, .int .i64 c, .int .i64 y, .int .i64 z] 69] ∧ (Unl r z s sn pg ns L D S pu ru)) ?_ ?_
        · skip
          refine x_seq ?_
          refine x_region_whole (fun w' => Hs [] w0 w' [.blk g8 #[.int .i64 ((O.getD k (0, 0, 0)).1), .int .i64 ((O.getD k (0, 0, 0)).2.1), .int .i64 ((O.getD k (0, 0, 0)).2.2)] 103, .blk p #[.int .i64 r, .int .i64 s, .int .i64 b, .int .i64 o, .int .i64 c, .int .i64 y, .int .i64 z, .slice (some ⟨gl, 0, none⟩) sn cl, .slice (some ⟨gd, 0, none⟩) pg cd, .slice (some ⟨gs, 0, none⟩) ns cs, .int .i64 ((pu : Nat) : Int), .int .i64 ((ru : Nat) : Int)] 181, .row (.slice (some ⟨gl, 0, none⟩) sn cl) 3 1 sn (List.map (Value.int .i64) L), .row (.slice (some ⟨gd, 0, none⟩) pg cd) 4 1 pg (List.map Value.bool D), .row (.slice (some ⟨gs, 0, none⟩) ns cs) 3 1 ns (List.map (Value.int .i64) S), .blk g1 #[.int .i64 r, .int .i64 s, .int .i64 b, .int .i64 o, .int .i64 c, .int .i64 y, .int .i64 z] 69]) (by kernel_rfl) (by kernel_rfl) (by kernel_rfl) H.drew ?_
          refine q_val (.pointer (some ⟨g8, 0, none⟩)) (by kernel_rfl) (fun _ => by kernel_rfl) ?_
          refine q_load1 0 g8 0 #[.int .i64 ((O.getD k (0, 0, 0)).1), .int .i64 ((O.getD k (0, 0, 0)).2.1), .int .i64 ((O.getD k (0, 0, 0)).2.2)] 103 (.int .i64 ((O.getD k (0, 0, 0)).1)) (by kernel_rfl) (by kernel_rfl) (by kernel_rfl) (fun _ => by kernel_rfl) ?_
          refine q_val (.bool (decide (((O.getD k (0, 0, 0)).1) = 3))) (by kernel_rfl) (fun _ => by kernel_rfl) ?_
          refine q_val (.bool (decide (((O.getD k (0, 0, 0)).1) = 3))) (by kernel_rfl) (fun _ => by kernel_rfl) ?_
          cases h7 : decide (((O.getD k (0, 0, 0)).1) = 3)
          · skip
            have h7p := of_decide_eq_false h7
            refine q_skip (by kernel_rfl) ?_
            refine q_skip (by kernel_rfl) ?_
            refine q_skip (by kernel_rfl) ?_
            refine q_skip (by kernel_rfl) ?_
            refine q_skip (by kernel_rfl) ?_
            refine q_val (.bool false) (by kernel_rfl) (fun _ => by kernel_rfl) ?_
            refine q_val (.bool false) (by kernel_rfl) (fun _ => by kernel_rfl) ?_
            refine q_skip (by kernel_rfl) ?_
            refine q_skip (by kernel_rfl) ?_
            refine q_skip (by kernel_rfl) ?_
            refine q_val (.bool false) (by kernel_rfl) (fun _ => by kernel_rfl) ?_
            refine q_val (.bool false) (by kernel_rfl) (fun _ => by kernel_rfl) ?_
            refine q_skip (by kernel_rfl) ?_
            refine q_skip (by kernel_rfl) ?_
            refine q_skip (by kernel_rfl) ?_
            refine q_skip (by kernel_rfl) ?_
            refine q_skip (by kernel_rfl) ?_
            refine q_skip (by kernel_rfl) ?_
            refine q_val (.bool false) (by kernel_rfl) (fun _ => by kernel_rfl) ?_
            refine q_nil ?_
            clear H
            intro v27 H
            refine x_then ?_
            refine x_f (by kernel_rfl) ?_
            refine x_skipc ?_
            refine x_then ?_
            replace H := H.pick [0, 1, 2, 3, 4, 5] [.blk g8 #[.int .i64 ((O.getD k (0, 0, 0)).1), .int .i64 ((O.getD k (0, 0, 0)).2.1), .int .i64 ((O.getD k (0, 0, 0)).2.2)] 103, .blk p #[.int .i64 r, .int .i64 s, .int .i64 b, .int .i64 o, .int .i64 c, .int .i64 y, .int .i64 z, .slice (some ⟨gl, 0, none⟩) sn cl, .slice (some ⟨gd, 0, none⟩) pg cd, .slice (some ⟨gs, 0, none⟩) ns cs, .int .i64 ((pu : Nat) : Int), .int .i64 ((ru : Nat) : Int)] 181, .row (.slice (some ⟨gl, 0, none⟩) sn cl) 3 1 sn (List.map (Value.int .i64) L), .row (.slice (some ⟨gd, 0, none⟩) pg cd) 4 1 pg (List.map Value.bool D), .row (.slice (some ⟨gs, 0, none⟩) ns cs) 3 1 ns (List.map (Value.int .i64) S), .blk g1 #[.int .i64 r, .int .i64 s, .int .i64 b, .int .i64 o, .int .i64 c, .int .i64 y, .int .i64 z] 69] (by decide) (by kernel_rfl)
            exact ⟨L, D, pu, (nthV [(uf1 1), (uf1 2), .pointer (some ⟨g8, 0, none⟩), .int .i64 ((O.getD k (0, 0, 0)).1), .bool false, .bool false, undef, undef, undef, undef, undef, .bool false, .bool false, undef, undef, undef, .bool false, .bool false, undef, undef, undef, undef, undef, undef, .bool false, (uf1 33), (uf1 34), (uf1 35), (uf1 36), (uf1 37), (uf1 38), (uf1 39), (uf1 40), (uf1 41), (uf1 42), (uf1 43), (uf1 44), (uf1 45), (uf1 46), (uf1 47), (uf1 48), (uf1 49), (uf1 50), (uf1 51), (uf1 52), (uf1 53), (uf1 54), (uf1 55), (uf1 56), (uf1 57)]), (by kernel_rfl), H, U⟩
          · skip
            have h7p := of_decide_eq_true h7
            refine q_val (.pointer (some ⟨p, 0, none⟩)) (by kernel_rfl) (fun _ => by kernel_rfl) ?_
            refine q_val (.pointer (some ⟨g8, 1, none⟩)) (by kernel_rfl) (fun _ => by kernel_rfl) ?_
            refine q_load1 0 g8 1 #[.int .i64 ((O.getD k (0, 0, 0)).1), .int .i64 ((O.getD k (0, 0, 0)).2.1), .int .i64 ((O.getD k (0, 0, 0)).2.2)] 103 (.int .i64 ((O.getD k (0, 0, 0)).2.1)) (by kernel_rfl) (by kernel_rfl) (by kernel_rfl) (fun _ => by kernel_rfl) ?_
            refine q_callR (.bool (deadB pg D ((O.getD k (0, 0, 0)).2.1))) (by kernel_rfl) (fun _ => by kernel_rfl) (fun _ H => (Dead_at hL U ((O.getD k (0, 0, 0)).2.1) _ (H.roOf [1, 2, 3, 4] [.blk p #[.int .i64 r, .int .i64 s, .int .i64 b, .int .i64 o, .int .i64 c, .int .i64 y, .int .i64 z, .slice (some ⟨gl, 0, none⟩) sn cl, .slice (some ⟨gd, 0, none⟩) pg cd, .slice (some ⟨gs, 0, none⟩) ns cs, .int .i64 ((pu : Nat) : Int), .int .i64 ((ru : Nat) : Int)] 181, .row (.slice (some ⟨gl, 0, none⟩) sn cl) 3 1 sn (List.map (Value.int .i64) L), .row (.slice (some ⟨gd, 0, none⟩) pg cd) 4 1 pg (List.map Value.bool D), .row (.slice (some ⟨gs, 0, none⟩) ns cs) 3 1 ns (List.map (Value.int .i64) S)] (by kernel_rfl)))) ?_
            refine q_val (.bool (!(deadB pg D ((O.getD k (0, 0, 0)).2.1)))) (by kernel_rfl) (fun _ => by kernel_rfl) ?_
            refine q_val (.bool (!(deadB pg D ((O.getD k (0, 0, 0)).2.1)))) (by kernel_rfl) (fun _ => by kernel_rfl) ?_
            refine q_val (.bool (!(deadB pg D ((O.getD k (0, 0, 0)).2.1)))) (by kernel_rfl) (fun _ => by kernel_rfl) ?_
            cases h8 : deadB pg D ((O.getD k (0, 0, 0)).2.1)
            · skip
              refine q_val (.pointer (some ⟨g8, 1, none⟩)) (by kernel_rfl) (fun _ => by kernel_rfl) ?_
              refine q_load1 0 g8 1 #[.int .i64 ((O.getD k (0, 0, 0)).1), .int .i64 ((O.getD k (0, 0, 0)).2.1), .int .i64 ((O.getD k (0, 0, 0)).2.2)] 103 (.int .i64 ((O.getD k (0, 0, 0)).2.1)) (by kernel_rfl) (by kernel_rfl) (by kernel_rfl) (fun _ => by kernel_rfl) ?_
              refine q_val (.bool (decide (0 ≤ ((O.getD k (0, 0, 0)).2.1)))) (by kernel_rfl) (fun _ => by kernel_rfl) ?_
              refine q_val (.bool (decide (0 ≤ ((O.getD k (0, 0, 0)).2.1)))) (by kernel_rfl) (fun _ => by kernel_rfl) ?_
              refine q_val (.bool (decide (0 ≤ ((O.getD k (0, 0, 0)).2.1)))) (by kernel_rfl) (fun _ => by kernel_rfl) ?_
              cases h9 : decide (0 ≤ ((O.getD k (0, 0, 0)).2.1))
              · skip
                have h9p := of_decide_eq_false h9
                refine q_skip (by kernel_rfl) ?_
                refine q_skip (by kernel_rfl) ?_
                refine q_skip (by kernel_rfl) ?_
                refine q_skip (by kernel_rfl) ?_
                refine q_skip (by kernel_rfl) ?_
                refine q_skip (by kernel_rfl) ?_
                refine q_val (.bool false) (by kernel_rfl) (fun _ => by kernel_rfl) ?_
                refine q_nil ?_
                clear H
                intro v28 H
                refine x_then ?_
                refine x_f (by kernel_rfl) ?_
                refine x_skipc ?_
                refine x_then ?_
                replace H := H.pick [0, 1, 2, 3, 4, 5] [.blk g8 #[.int .i64 ((O.getD k (0, 0, 0)).1), .int .i64 ((O.getD k (0, 0, 0)).2.1), .int .i64 ((O.getD k (0, 0, 0)).2.2)] 103, .blk p #[.int .i64 r, .int .i64 s, .int .i64 b, .int .i64 o, .int .i64 c, .int .i64 y, .int .i64 z, .slice (some ⟨gl, 0, none⟩) sn cl, .slice (some ⟨gd, 0, none⟩) pg cd, .slice (some ⟨gs, 0, none⟩) ns cs, .int .i64 ((pu : Nat) : Int), .int .i64 ((ru : Nat) : Int)] 181, .row (.slice (some ⟨gl, 0, none⟩) sn cl) 3 1 sn (List.map (Value.int .i64) L), .row (.slice (some ⟨gd, 0, none⟩) pg cd) 4 1 pg (List.map Value.bool D), .row (.slice (some ⟨gs, 0, none⟩) ns cs) 3 1 ns (List.map (Value.int .i64) S), .blk g1 #[.int .i64 r, .int .i64 s, .int .i64 b, .int .i64 o, .int .i64 c, .int .i64 y, .int .i64 z] 69] (by decide) (by kernel_rfl)
                exact ⟨L, D, pu, (nthV [(uf1 1), (uf1 2), .pointer (some ⟨g8, 0, none⟩), .int .i64 ((O.getD k (0, 0, 0)).1), .bool true, .bool true, .pointer (some ⟨p, 0, none⟩), .pointer (some ⟨g8, 1, none⟩), .int .i64 ((O.getD k (0, 0, 0)).2.1), .bool false, .bool true, .bool true, .bool true, .pointer (some ⟨g8, 1, none⟩), .int .i64 ((O.getD k (0, 0, 0)).2.1), .bool false, .bool false, .bool false, undef, undef, undef, undef, undef, undef, .bool false, (uf1 33), (uf1 34), (uf1 35), (uf1 36), (uf1 37), (uf1 38), (uf1 39), (uf1 40), (uf1 41), (uf1 42), (uf1 43), (uf1 44), (uf1 45), (uf1 46), (uf1 47), (uf1 48), (uf1 49), (uf1 50), (uf1 51), (uf1 52), (uf1 53), (uf1 54), (uf1 55), (uf1 56), (uf1 57)]), (by kernel_rfl), H, U⟩
              · skip
                have h9p := of_decide_eq_true h9
                refine q_val (.pointer (some ⟨g8, 1, none⟩)) (by kernel_rfl) (fun _ => by kernel_rfl) ?_
                refine q_load1 0 g8 1 #[.int .i64 ((O.getD k (0, 0, 0)).1), .int .i64 ((O.getD k (0, 0, 0)).2.1), .int .i64 ((O.getD k (0, 0, 0)).2.2)] 103 (.int .i64 ((O.getD k (0, 0, 0)).2.1)) (by kernel_rfl) (by kernel_rfl) (by kernel_rfl) (fun _ => by kernel_rfl) ?_
                refine q_val (.pointer (some ⟨g1, 0, none⟩)) (by kernel_rfl) (fun _ => by kernel_rfl) ?_
                refine q_loadn (t := 67) 5 g1 0 #[.int .i64 r, .int .i64 s, .int .i64 b, .int .i64 o, .int .i64 c, .int .i64 y, .int .i64 z] 69 [.int .i64 r, .int .i64 s, .int .i64 b, .int .i64 o, .int .i64 c] (by kernel_rfl) (by kernel_rfl) (by kernel_rfl) (by kernel_rfl) (by kernel_rfl) ?_
                refine q_callB (.int .i64 ((pg : Nat) : Int)) (by kernel_rfl) (fun _ => by kernel_rfl) (fun _ => (pages_of hL _)) ?_
                refine q_val (.bool (decide (((O.getD k (0, 0, 0)).2.1) < ((pg : Nat) : Int)))) (by kernel_rfl) (fun _ => by kernel_rfl) ?_
                refine q_val (.bool (decide (((O.getD k (0, 0, 0)).2.1) < ((pg : Nat) : Int)))) (by kernel_rfl) (fun _ => by kernel_rfl) ?_
                refine q_nil ?_
                clear H
                intro v29 H
                refine x_then ?_
                cases h10 : decide (((O.getD k (0, 0, 0)).2.1) < ((pg : Nat) : Int))
                · skip
                  have h10p := of_decide_eq_false h10
                  refine x_f (by kernel_rfl) ?_
                  refine x_skipc ?_
                  refine x_then ?_
                  replace H := H.pick [0, 1, 2, 3, 4, 5] [.blk g8 #[.int .i64 ((O.getD k (0, 0, 0)).1), .int .i64 ((O.getD k (0, 0, 0)).2.1), .int .i64 ((O.getD k (0, 0, 0)).2.2)] 103, .blk p #[.int .i64 r, .int .i64 s, .int .i64 b, .int .i64 o, .int .i64 c, .int .i64 y, .int .i64 z, .slice (some ⟨gl, 0, none⟩) sn cl, .slice (some ⟨gd, 0, none⟩) pg cd, .slice (some ⟨gs, 0, none⟩) ns cs, .int .i64 ((pu : Nat) : Int), .int .i64 ((ru : Nat) : Int)] 181, .row (.slice (some ⟨gl, 0, none⟩) sn cl) 3 1 sn (List.map (Value.int .i64) L), .row (.slice (some ⟨gd, 0, none⟩) pg cd) 4 1 pg (List.map Value.bool D), .row (.slice (some ⟨gs, 0, none⟩) ns cs) 3 1 ns (List.map (Value.int .i64) S), .blk g1 #[.int .i64 r, .int .i64 s, .int .i64 b, .int .i64 o, .int .i64 c, .int .i64 y, .int .i64 z] 69] (by decide) (by kernel_rfl)
                  exact ⟨L, D, pu, (nthV [(uf1 1), (uf1 2), .pointer (some ⟨g8, 0, none⟩), .int .i64 ((O.getD k (0, 0, 0)).1), .bool true, .bool true, .pointer (some ⟨p, 0, none⟩), .pointer (some ⟨g8, 1, none⟩), .int .i64 ((O.getD k (0, 0, 0)).2.1), .bool false, .bool true, .bool true, .bool true, .pointer (some ⟨g8, 1, none⟩), .int .i64 ((O.getD k (0, 0, 0)).2.1), .bool true, .bool true, .bool true, .pointer (some ⟨g8, 1, none⟩), .int .i64 ((O.getD k (0, 0, 0)).2.1), .pointer (some ⟨g1, 0, none⟩), .agg #[.int .i64 r, .int .i64 s, .int .i64 b, .int .i64 o, .int .i64 c], .int .i64 ((pg : Nat) : Int), .bool false, .bool false, (uf1 33), (uf1 34), (uf1 35), (uf1 36), (uf1 37), (uf1 38), (uf1 39), (uf1 40), (uf1 41), (uf1 42), (uf1 43), (uf1 44), (uf1 45), (uf1 46), (uf1 47), (uf1 48), (uf1 49), (uf1 50), (uf1 51), (uf1 52), (uf1 53), (uf1 54), (uf1 55), (uf1 56), (uf1 57)]), (by kernel_rfl), H, U⟩
                · skip
                  have h10p := of_decide_eq_true h10
                  refine x_t (by kernel_rfl) ?_
                  refine x_seq ?_
                  refine x_region ?_
                  refine x_val (.pointer (some ⟨p, 0, none⟩)) (by kernel_rfl) rfl (by kernel_rfl) ?_
                  cases h11 : decide (((pu : Nat) : Int) = z)
                  · skip
                    have h11p := of_decide_eq_false h11
                    refine x_callB (.tuple #[.int .i64 (((sn : Nat) : Int) + ((pu : Nat) : Int)), .bool true]) H (by kernel_rfl) rfl (by kernel_rfl) (FreePage_yes hL U.mok (by omega) _ (H.roOf [1, 2, 3, 4] [.blk p #[.int .i64 r, .int .i64 s, .int .i64 b, .int .i64 o, .int .i64 c, .int .i64 y, .int .i64 z, .slice (some ⟨gl, 0, none⟩) sn cl, .slice (some ⟨gd, 0, none⟩) pg cd, .slice (some ⟨gs, 0, none⟩) ns cs, .int .i64 ((pu : Nat) : Int), .int .i64 ((ru : Nat) : Int)] 181, .row (.slice (some ⟨gl, 0, none⟩) sn cl) 3 1 sn (List.map (Value.int .i64) L), .row (.slice (some ⟨gd, 0, none⟩) pg cd) 4 1 pg (List.map Value.bool D), .row (.slice (some ⟨gs, 0, none⟩) ns cs) 3 1 ns (List.map (Value.int .i64) S)] (by kernel_rfl))) ?_
                    clear H
                    intro v30 H
                    refine x_val (.tuple #[.int .i64 (((sn : Nat) : Int) + ((pu : Nat) : Int)), .bool true]) (by kernel_rfl) rfl (by kernel_rfl) ?_
                    refine x_val (.int .i64 (((sn : Nat) : Int) + ((pu : Nat) : Int))) (by kernel_rfl) rfl (by kernel_rfl) ?_
                    refine x_val (.bool true) (by kernel_rfl) rfl (by kernel_rfl) ?_
                    refine x_val (.int .i64 (((sn : Nat) : Int) + ((pu : Nat) : Int))) (by kernel_rfl) rfl (by kernel_rfl) ?_
                    refine x_val (.bool true) (by kernel_rfl) rfl (by kernel_rfl) ?_
                    refine x_nil ?_
                    refine x_frame' { tmps := #[.agg #[.int .i64 r, .int .i64 s, .int .i64 b, .int .i64 o, .int .i64 c, .int .i64 y, .int .i64 z], .slice ad nA cA, .pointer (some ⟨g1, 0, none⟩), undef, .bool false, .pointer (some ⟨p, 0, none⟩), .int .i64 0, undef, .pointer (some ⟨g8, 0, none⟩), .int .i64 (((sn : Nat) : Int) + ((pu : Nat) : Int)), .bool true, (uf1 3), (uf1 4), (uf1 5), (uf1 6), undef, undef, undef, undef, undef, undef, undef, undef, undef, undef, .bool true, .bool false, .agg #[.int .i64 r, .int .i64 s, .int .i64 b, .int .i64 o, .int .i64 c, .int .i64 y, .int .i64 z], .bool true, .bool false, .bool false, .slice ad nA cA, .int .i64 ((nA : Nat) : Int), .bool false, .bool false, .tuple #[.pointer (some ⟨p, 0, none⟩), .int .i64 0], .agg #[.int .i64 r, .int .i64 s, .int .i64 b, .int .i64 o, .int .i64 c, .int .i64 y, .int .i64 z], .tuple #[.pointer (some ⟨p, 0, none⟩), .int .i64 0], .pointer (some ⟨p, 0, none⟩), .int .i64 0, .int .i64 0, .bool false, .bool false, .pointer (some ⟨p, 0, none⟩), .bool false, .bool false, undef, undef, .slice ad nA cA, .int .i64 ((nA : Nat) : Int), .int .i64 ((k : Nat) : Int), .bool true, .pointer (some ⟨ga, oa + k * 3, none⟩), .agg #[.int .i64 ((O.getD k (0, 0, 0)).1), .int .i64 ((O.getD k (0, 0, 0)).2.1), .int .i64 ((O.getD k (0, 0, 0)).2.2)], .pointer (some ⟨g8, 0, none⟩), .int .i64 ((O.getD k (0, 0, 0)).1), .bool true, .bool true, .pointer (some ⟨p, 0, none⟩), .pointer (some ⟨g8, 1, none⟩), .int .i64 ((O.getD k (0, 0, 0)).2.1), .bool false, .bool true, .bool true, .bool true, .pointer (some ⟨g8, 1, none⟩), .int .i64 ((O.getD k (0, 0, 0)).2.1), .bool true, .bool true, .bool true, .pointer (some ⟨g8, 1, none⟩), .int .i64 ((O.getD k (0, 0, 0)).2.1), .pointer (some ⟨g1, 0, none⟩), .agg #[.int .i64 r, .int .i64 s, .int .i64 b, .int .i64 o, .int .i64 c], .int .i64 ((pg : Nat) : Int), .bool true, .bool true, .tuple #[.int .i64 (((sn : Nat) : Int) + ((pu : Nat) : Int)), .bool true], .pointer (some ⟨p, 0, none⟩), .tuple #[.int .i64 (((sn : Nat) : Int) + ((pu : Nat) : Int)), .bool true], .int .i64 (((sn : Nat) : Int) + ((pu : Nat) : Int)), .bool true, (uf1 38), (uf1 39), (uf1 40), (uf1 41), (uf1 42), (uf1 43), (uf1 44), (uf1 45), (uf1 46), (uf1 47), (uf1 48), (uf1 49), (uf1 50), (uf1 51), (uf1 52), (uf1 53), (uf1 54), (uf1 55), (uf1 56), (uf1 57), (uf1 58), (uf1 59), (uf1 60), (uf1 61), (uf1 62), (uf1 63), (uf1 64), (uf1 65), (uf1 66), (uf1 67), (uf1 68), (uf1 69), (uf1 70), (uf1 71), (uf1 72), (uf1 73), (uf1 74), (uf1 75), (uf1 76), (uf1 77), (uf1 78), (uf1 79), (uf1 80), (uf1 81), (uf1 82), (uf1 83), (uf1 84), (uf1 85), (uf1 86), (uf1 87), (uf1 88), (uf1 89), (uf1 90), (uf1 91), (uf1 92), (uf1 93), (uf1 94), (uf1 95), (uf1 96), (uf1 97), undef, undef, undef, undef, undef, undef, undef, undef, undef, undef, undef, undef, undef, undef, undef, undef, undef, undef, undef, undef, undef, undef, undef, undef, undef, undef, undef, undef, undef, undef, undef, undef, undef, undef, undef, undef, undef, undef, undef, undef, undef, undef, undef, undef, undef, undef, undef, undef, undef, undef, undef, undef, undef, undef, undef, undef], defers := [] } (by kernel_rfl) ?_
                    refine x_then ?_
                    refine x_seq ?_
                    refine x_region ?_
                    refine x_val (.bool true) (by kernel_rfl) rfl (by kernel_rfl) ?_
                    refine x_val (.bool true) (by kernel_rfl) rfl (by kernel_rfl) ?_
                    refine x_val (.pointer (some ⟨g8, 1, none⟩)) (by kernel_rfl) rfl (by kernel_rfl) ?_
                    refine x_load1 H 0 g8 1 #[.int .i64 ((O.getD k (0, 0, 0)).1), .int .i64 ((O.getD k (0, 0, 0)).2.1), .int .i64 ((O.getD k (0, 0, 0)).2.2)] 103 (.int .i64 ((O.getD k (0, 0, 0)).2.1)) (by kernel_rfl) (by kernel_rfl) (by kernel_rfl) rfl (by kernel_rfl) ?_
                    refine x_val (.int .i64 (((sn : Nat) : Int) + ((pu : Nat) : Int))) (by kernel_rfl) rfl (by kernel_rfl) ?_
                    refine x_val (.bool (!(decide (((O.getD k (0, 0, 0)).2.1) = (((sn : Nat) : Int) + ((pu : Nat) : Int)))))) (by kernel_rfl) rfl (by kernel_rfl) ?_
                    refine x_val (.bool (!(decide (((O.getD k (0, 0, 0)).2.1) = (((sn : Nat) : Int) + ((pu : Nat) : Int)))))) (by kernel_rfl) rfl (by kernel_rfl) ?_
                    refine x_val (.bool (!(decide (((O.getD k (0, 0, 0)).2.1) = (((sn : Nat) : Int) + ((pu : Nat) : Int)))))) (by kernel_rfl) rfl (by kernel_rfl) ?_
                    cases h12 : decide (((O.getD k (0, 0, 0)).2.1) = (((sn : Nat) : Int) + ((pu : Nat) : Int)))
                    · skip
                      have h12p := of_decide_eq_false h12
                      refine x_val (.pointer (some ⟨g8, 1, none⟩)) (by kernel_rfl) rfl (by kernel_rfl) ?_
                      refine x_load1 H 0 g8 1 #[.int .i64 ((O.getD k (0, 0, 0)).1), .int .i64 ((O.getD k (0, 0, 0)).2.1), .int .i64 ((O.getD k (0, 0, 0)).2.2)] 103 (.int .i64 ((O.getD k (0, 0, 0)).2.1)) (by kernel_rfl) (by kernel_rfl) (by kernel_rfl) rfl (by kernel_rfl) ?_
                      refine x_val (.int .i64 (((sn : Nat) : Int) + ((pu : Nat) : Int))) (by kernel_rfl) rfl (by kernel_rfl) ?_
                      refine x_val (.bool (decide (((O.getD k (0, 0, 0)).2.1) < (((sn : Nat) : Int) + ((pu : Nat) : Int))))) (by kernel_rfl) rfl (by kernel_rfl) ?_
                      refine x_val (.bool (decide (((O.getD k (0, 0, 0)).2.1) < (((sn : Nat) : Int) + ((pu : Nat) : Int))))) (by kernel_rfl) rfl (by kernel_rfl) ?_
                      refine x_nil ?_
                      refine x_then ?_
                      cases h13 : decide (((O.getD k (0, 0, 0)).2.1) < (((sn : Nat) : Int) + ((pu : Nat) : Int)))
                      · skip
                        have h13p := of_decide_eq_false h13
                        refine x_f (by kernel_rfl) ?_
                        refine x_skipc ?_
                        refine x_then ?_
                        replace H := H.pick [0, 1, 2, 3, 4, 5] [.blk g8 #[.int .i64 ((O.getD k (0, 0, 0)).1), .int .i64 ((O.getD k (0, 0, 0)).2.1), .int .i64 ((O.getD k (0, 0, 0)).2.2)] 103, .blk p #[.int .i64 r, .int .i64 s, .int .i64 b, .int .i64 o, .int .i64 c, .int .i64 y, .int .i64 z, .slice (some ⟨gl, 0, none⟩) sn cl, .slice (some ⟨gd, 0, none⟩) pg cd, .slice (some ⟨gs, 0, none⟩) ns cs, .int .i64 ((pu : Nat) : Int), .int .i64 ((ru : Nat) : Int)] 181, .row (.slice (some ⟨gl, 0, none⟩) sn cl) 3 1 sn (List.map (Value.int .i64) L), .row (.slice (some ⟨gd, 0, none⟩) pg cd) 4 1 pg (List.map Value.bool D), .row (.slice (some ⟨gs, 0, none⟩) ns cs) 3 1 ns (List.map (Value.int .i64) S), .blk g1 #[.int .i64 r, .int .i64 s, .int .i64 b, .int .i64 o, .int .i64 c, .int .i64 y, .int .i64 z] 69] (by decide) (by kernel_rfl)
                        exact ⟨L, D, pu, (nthV [.int .i64 (((sn : Nat) : Int) + ((pu : Nat) : Int)), .bool true, .pointer (some ⟨g8, 0, none⟩), .int .i64 ((O.getD k (0, 0, 0)).1), .bool true, .bool true, .pointer (some ⟨p, 0, none⟩), .pointer (some ⟨g8, 1, none⟩), .int .i64 ((O.getD k (0, 0, 0)).2.1), .bool false, .bool true, .bool true, .bool true, .pointer (some ⟨g8, 1, none⟩), .int .i64 ((O.getD k (0, 0, 0)).2.1), .bool true, .bool true, .bool true, .pointer (some ⟨g8, 1, none⟩), .int .i64 ((O.getD k (0, 0, 0)).2.1), .pointer (some ⟨g1, 0, none⟩), .agg #[.int .i64 r, .int .i64 s, .int .i64 b, .int .i64 o, .int .i64 c], .int .i64 ((pg : Nat) : Int), .bool true, .bool true, .tuple #[.int .i64 (((sn : Nat) : Int) + ((pu : Nat) : Int)), .bool true], .pointer (some ⟨p, 0, none⟩), .tuple #[.int .i64 (((sn : Nat) : Int) + ((pu : Nat) : Int)), .bool true], .int .i64 (((sn : Nat) : Int) + ((pu : Nat) : Int)), .bool true, .bool true, .bool true, .pointer (some ⟨g8, 1, none⟩), .int .i64 ((O.getD k (0, 0, 0)).2.1), .int .i64 (((sn : Nat) : Int) + ((pu : Nat) : Int)), .bool true, .bool true, .bool true, .pointer (some ⟨g8, 1, none⟩), .int .i64 ((O.getD k (0, 0, 0)).2.1), .int .i64 (((sn : Nat) : Int) + ((pu : Nat) : Int)), .bool false, .bool false, (uf1 51), (uf1 52), (uf1 53), (uf1 54), (uf1 55), (uf1 56), (uf1 57)]), (by kernel_rfl), H, U⟩
                      · skip
                        have h13p := of_decide_eq_true h13
                        refine x_t (by kernel_rfl) ?_
                        refine x_seq ?_
                        refine x_region ?_
                        refine x_val (.pointer (some ⟨p, 0, none⟩)) (by kernel_rfl) rfl (by kernel_rfl) ?_
                        refine x_callH (.tuple #[.int .i64 (((sn : Nat) : Int) + ((pu : Nat) : Int)), .int .i64 0]) [.blk p #[.int .i64 r, .int .i64 s, .int .i64 b, .int .i64 o, .int .i64 c, .int .i64 y, .int .i64 z, .slice (some ⟨gl, 0, none⟩) sn cl, .slice (some ⟨gd, 0, none⟩) pg cd, .slice (some ⟨gs, 0, none⟩) ns cs, .int .i64 (((pu + 1) : Nat) : Int), .int .i64 ((ru : Nat) : Int)] 181, .row (.slice (some ⟨gl, 0, none⟩) sn cl) 3 1 sn (List.map (Value.int .i64) L), .row (.slice (some ⟨gd, 0, none⟩) pg cd) 4 1 pg (List.map Value.bool D), .row (.slice (some ⟨gs, 0, none⟩) ns cs) 3 1 ns (List.map (Value.int .i64) S), .blk g8 #[.int .i64 ((O.getD k (0, 0, 0)).1), .int .i64 ((O.getD k (0, 0, 0)).2.1), .int .i64 ((O.getD k (0, 0, 0)).2.2)] 103, .blk g1 #[.int .i64 r, .int .i64 s, .int .i64 b, .int .i64 o, .int .i64 c, .int .i64 y, .int .i64 z] 69] (by kernel_rfl) rfl (by kernel_rfl) (Hs.use (A := [.blk p #[.int .i64 r, .int .i64 s, .int .i64 b, .int .i64 o, .int .i64 c, .int .i64 y, .int .i64 z, .slice (some ⟨gl, 0, none⟩) sn cl, .slice (some ⟨gd, 0, none⟩) pg cd, .slice (some ⟨gs, 0, none⟩) ns cs, .int .i64 ((pu : Nat) : Int), .int .i64 ((ru : Nat) : Int)] 181, .row (.slice (some ⟨gl, 0, none⟩) sn cl) 3 1 sn (List.map (Value.int .i64) L), .row (.slice (some ⟨gd, 0, none⟩) pg cd) 4 1 pg (List.map Value.bool D), .row (.slice (some ⟨gs, 0, none⟩) ns cs) 3 1 ns (List.map (Value.int .i64) S)]) (R := [.blk g8 #[.int .i64 ((O.getD k (0, 0, 0)).1), .int .i64 ((O.getD k (0, 0, 0)).2.1), .int .i64 ((O.getD k (0, 0, 0)).2.2)] 103, .blk g1 #[.int .i64 r, .int .i64 s, .int .i64 b, .int .i64 o, .int .i64 c, .int .i64 y, .int .i64 z] 69]) (H.pick [1, 2, 3, 4, 0, 5] _ (by decide) (by kernel_rfl)) (fun h => TakePage_yes hL U.mok (by omega) _ h)) ?_
                        clear H
                        intro v31 H
                        refine x_nil ?_
                        refine x_then ?_
                        refine x_region ?_
                        refine x_val (.pointer (some ⟨p, 0, none⟩)) (by kernel_rfl) rfl (by kernel_rfl) ?_
                        refine x_val (.pointer (some ⟨g8, 1, none⟩)) (by kernel_rfl) rfl (by kernel_rfl) ?_
                        refine x_load1 H 4 g8 1 #[.int .i64 ((O.getD k (0, 0, 0)).1), .int .i64 ((O.getD k (0, 0, 0)).2.1), .int .i64 ((O.getD k (0, 0, 0)).2.2)] 103 (.int .i64 ((O.getD k (0, 0, 0)).2.1)) (by kernel_rfl) (by kernel_rfl) (by kernel_rfl) rfl (by kernel_rfl) ?_
                        refine x_val (.int .i64 (((sn : Nat) : Int) + ((pu : Nat) : Int))) (by kernel_rfl) rfl (by kernel_rfl) ?_
                        obtain ⟨hn, eh⟩ := Int.eq_ofNat_of_zero_le (show 0 ≤ (O.getD k (0, 0, 0)).2.1 by omega)
                        have hh : hn < sn + pu := by omega
                        have hz : ((pu : Nat) : Int) < z := by have := U.st.hp; omega
                        have dh := deadB_no (q := hn) (by rw [← eh]; exact h8) (by omega)
                        have Up := U.page hh hz
                        refine x_callH (.int .i64 0) [.blk p #[.int .i64 r, .int .i64 s, .int .i64 b, .int .i64 o, .int .i64 c, .int .i64 y, .int .i64 z, .slice (some ⟨gl, 0, none⟩) sn cl, .slice (some ⟨gd, 0, none⟩) pg cd, .slice (some ⟨gs, 0, none⟩) ns cs, .int .i64 (((pu + 1) : Nat) : Int), .int .i64 ((ru : Nat) : Int)] 181, .row (.slice (some ⟨gl, 0, none⟩) sn cl) 3 1 sn (List.map (Value.int .i64) (retL ((hn : Nat) : Int) ((sn : Int) + pu) L)), .row (.slice (some ⟨gd, 0, none⟩) pg cd) 4 1 pg (List.map Value.bool (D.set hn true)), .row (.slice (some ⟨gs, 0, none⟩) ns cs) 3 1 ns (List.map (Value.int .i64) S), .blk g8 #[.int .i64 ((O.getD k (0, 0, 0)).1), .int .i64 ((O.getD k (0, 0, 0)).2.1), .int .i64 ((O.getD k (0, 0, 0)).2.2)] 103, .blk g1 #[.int .i64 r, .int .i64 s, .int .i64 b, .int .i64 o, .int .i64 c, .int .i64 y, .int .i64 z] 69] (by kernel_rfl) rfl (by kernel_rfl) (Hs.use (A := [.blk p #[.int .i64 r, .int .i64 s, .int .i64 b, .int .i64 o, .int .i64 c, .int .i64 y, .int .i64 z, .slice (some ⟨gl, 0, none⟩) sn cl, .slice (some ⟨gd, 0, none⟩) pg cd, .slice (some ⟨gs, 0, none⟩) ns cs, .int .i64 (((pu + 1) : Nat) : Int), .int .i64 ((ru : Nat) : Int)] 181, .row (.slice (some ⟨gl, 0, none⟩) sn cl) 3 1 sn (List.map (Value.int .i64) L), .row (.slice (some ⟨gd, 0, none⟩) pg cd) 4 1 pg (List.map Value.bool D), .row (.slice (some ⟨gs, 0, none⟩) ns cs) 3 1 ns (List.map (Value.int .i64) S)]) (R := [.blk g8 #[.int .i64 ((O.getD k (0, 0, 0)).1), .int .i64 ((O.getD k (0, 0, 0)).2.1), .int .i64 ((O.getD k (0, 0, 0)).2.2)] 103, .blk g1 #[.int .i64 r, .int .i64 s, .int .i64 b, .int .i64 o, .int .i64 c, .int .i64 y, .int .i64 z] 69]) (H.pick [0, 1, 2, 3, 4, 5] _ (by decide) (by kernel_rfl)) (fun h => Retire_atU hL U _ hn eh hh hz dh _ h)) ?_
                        clear H
                        intro v32 H
                        refine x_nil ?_
                        refine x_then ?_
                        replace H := H.pick [4, 0, 1, 2, 3, 5] [.blk g8 #[.int .i64 ((O.getD k (0, 0, 0)).1), .int .i64 ((O.getD k (0, 0, 0)).2.1), .int .i64 ((O.getD k (0, 0, 0)).2.2)] 103, .blk p #[.int .i64 r, .int .i64 s, .int .i64 b, .int .i64 o, .int .i64 c, .int .i64 y, .int .i64 z, .slice (some ⟨gl, 0, none⟩) sn cl, .slice (some ⟨gd, 0, none⟩) pg cd, .slice (some ⟨gs, 0, none⟩) ns cs, .int .i64 (((pu + 1) : Nat) : Int), .int .i64 ((ru : Nat) : Int)] 181, .row (.slice (some ⟨gl, 0, none⟩) sn cl) 3 1 sn (List.map (Value.int .i64) (retL ((hn : Nat) : Int) ((sn : Int) + pu) L)), .row (.slice (some ⟨gd, 0, none⟩) pg cd) 4 1 pg (List.map Value.bool (D.set hn true)), .row (.slice (some ⟨gs, 0, none⟩) ns cs) 3 1 ns (List.map (Value.int .i64) S), .blk g1 #[.int .i64 r, .int .i64 s, .int .i64 b, .int .i64 o, .int .i64 c, .int .i64 y, .int .i64 z] 69] (by decide) (by kernel_rfl)
                        exact ⟨(retL ((hn : Nat) : Int) ((sn : Int) + pu) L), (D.set hn true), (pu + 1), (nthV [.int .i64 (((sn : Nat) : Int) + ((pu : Nat) : Int)), .bool true, .pointer (some ⟨g8, 0, none⟩), .int .i64 ((O.getD k (0, 0, 0)).1), .bool true, .bool true, .pointer (some ⟨p, 0, none⟩), .pointer (some ⟨g8, 1, none⟩), .int .i64 ((O.getD k (0, 0, 0)).2.1), .bool false, .bool true, .bool true, .bool true, .pointer (some ⟨g8, 1, none⟩), .int .i64 ((O.getD k (0, 0, 0)).2.1), .bool true, .bool true, .bool true, .pointer (some ⟨g8, 1, none⟩), .int .i64 ((O.getD k (0, 0, 0)).2.1), .pointer (some ⟨g1, 0, none⟩), .agg #[.int .i64 r, .int .i64 s, .int .i64 b, .int .i64 o, .int .i64 c], .int .i64 ((pg : Nat) : Int), .bool true, .bool true, .tuple #[.int .i64 (((sn : Nat) : Int) + ((pu : Nat) : Int)), .bool true], .pointer (some ⟨p, 0, none⟩), .tuple #[.int .i64 (((sn : Nat) : Int) + ((pu : Nat) : Int)), .bool true], .int .i64 (((sn : Nat) : Int) + ((pu : Nat) : Int)), .bool true, .bool true, .bool true, .pointer (some ⟨g8, 1, none⟩), .int .i64 ((O.getD k (0, 0, 0)).2.1), .int .i64 (((sn : Nat) : Int) + ((pu : Nat) : Int)), .bool true, .bool true, .bool true, .pointer (some ⟨g8, 1, none⟩), .int .i64 ((O.getD k (0, 0, 0)).2.1), .int .i64 (((sn : Nat) : Int) + ((pu : Nat) : Int)), .bool true, .bool true, .pointer (some ⟨p, 0, none⟩), .tuple #[.int .i64 (((sn : Nat) : Int) + ((pu : Nat) : Int)), .int .i64 0], .pointer (some ⟨p, 0, none⟩), .pointer (some ⟨g8, 1, none⟩), .int .i64 ((O.getD k (0, 0, 0)).2.1), .int .i64 (((sn : Nat) : Int) + ((pu : Nat) : Int)), .int .i64 0]), (by kernel_rfl), H, Up⟩
                    · skip
                      have h12p := of_decide_eq_true h12
                      refine x_skip (by kernel_rfl) ?_
                      refine x_skip (by kernel_rfl) ?_
                      refine x_skip (by kernel_rfl) ?_
                      refine x_skip (by kernel_rfl) ?_
                      refine x_val (.bool false) (by kernel_rfl) rfl (by kernel_rfl) ?_
                      refine x_nil ?_
                      refine x_then ?_
                      refine x_f (by kernel_rfl) ?_
                      refine x_skipc ?_
                      refine x_then ?_
                      replace H := H.pick [0, 1, 2, 3, 4, 5] [.blk g8 #[.int .i64 ((O.getD k (0, 0, 0)).1), .int .i64 ((O.getD k (0, 0, 0)).2.1), .int .i64 ((O.getD k (0, 0, 0)).2.2)] 103, .blk p #[.int .i64 r, .int .i64 s, .int .i64 b, .int .i64 o, .int .i64 c, .int .i64 y, .int .i64 z, .slice (some ⟨gl, 0, none⟩) sn cl, .slice (some ⟨gd, 0, none⟩) pg cd, .slice (some ⟨gs, 0, none⟩) ns cs, .int .i64 ((pu : Nat) : Int), .int .i64 ((ru : Nat) : Int)] 181, .row (.slice (some ⟨gl, 0, none⟩) sn cl) 3 1 sn (List.map (Value.int .i64) L), .row (.slice (some ⟨gd, 0, none⟩) pg cd) 4 1 pg (List.map Value.bool D), .row (.slice (some ⟨gs, 0, none⟩) ns cs) 3 1 ns (List.map (Value.int .i64) S), .blk g1 #[.int .i64 r, .int .i64 s, .int .i64 b, .int .i64 o, .int .i64 c, .int .i64 y, .int .i64 z] 69] (by decide) (by kernel_rfl)
                      exact ⟨L, D, pu, (nthV [.int .i64 (((sn : Nat) : Int) + ((pu : Nat) : Int)), .bool true, .pointer (some ⟨g8, 0, none⟩), .int .i64 ((O.getD k (0, 0, 0)).1), .bool true, .bool true, .pointer (some ⟨p, 0, none⟩), .pointer (some ⟨g8, 1, none⟩), .int .i64 ((O.getD k (0, 0, 0)).2.1), .bool false, .bool true, .bool true, .bool true, .pointer (some ⟨g8, 1, none⟩), .int .i64 ((O.getD k (0, 0, 0)).2.1), .bool true, .bool true, .bool true, .pointer (some ⟨g8, 1, none⟩), .int .i64 ((O.getD k (0, 0, 0)).2.1), .pointer (some ⟨g1, 0, none⟩), .agg #[.int .i64 r, .int .i64 s, .int .i64 b, .int .i64 o, .int .i64 c], .int .i64 ((pg : Nat) : Int), .bool true, .bool true, .tuple #[.int .i64 (((sn : Nat) : Int) + ((pu : Nat) : Int)), .bool true], .pointer (some ⟨p, 0, none⟩), .tuple #[.int .i64 (((sn : Nat) : Int) + ((pu : Nat) : Int)), .bool true], .int .i64 (((sn : Nat) : Int) + ((pu : Nat) : Int)), .bool true, .bool true, .bool true, .pointer (some ⟨g8, 1, none⟩), .int .i64 ((O.getD k (0, 0, 0)).2.1), .int .i64 (((sn : Nat) : Int) + ((pu : Nat) : Int)), .bool false, .bool false, .bool false, undef, undef, undef, undef, .bool false, (uf1 51), (uf1 52), (uf1 53), (uf1 54), (uf1 55), (uf1 56), (uf1 57)]), (by kernel_rfl), H, U⟩
                  · skip
                    have h11p := of_decide_eq_true h11
                    refine x_callB (.tuple #[.int .i64 0, .bool false]) H (by kernel_rfl) rfl (by kernel_rfl) (FreePage_no hL U.mok (by omega) _ (H.roOf [1, 2, 3, 4] [.blk p #[.int .i64 r, .int .i64 s, .int .i64 b, .int .i64 o, .int .i64 c, .int .i64 y, .int .i64 z, .slice (some ⟨gl, 0, none⟩) sn cl, .slice (some ⟨gd, 0, none⟩) pg cd, .slice (some ⟨gs, 0, none⟩) ns cs, .int .i64 ((pu : Nat) : Int), .int .i64 ((ru : Nat) : Int)] 181, .row (.slice (some ⟨gl, 0, none⟩) sn cl) 3 1 sn (List.map (Value.int .i64) L), .row (.slice (some ⟨gd, 0, none⟩) pg cd) 4 1 pg (List.map Value.bool D), .row (.slice (some ⟨gs, 0, none⟩) ns cs) 3 1 ns (List.map (Value.int .i64) S)] (by kernel_rfl))) ?_
                    clear H
                    intro v33 H
                    refine x_val (.tuple #[.int .i64 0, .bool false]) (by kernel_rfl) rfl (by kernel_rfl) ?_
                    refine x_val (.int .i64 0) (by kernel_rfl) rfl (by kernel_rfl) ?_
                    refine x_val (.bool false) (by kernel_rfl) rfl (by kernel_rfl) ?_
                    refine x_val (.int .i64 0) (by kernel_rfl) rfl (by kernel_rfl) ?_
                    refine x_val (.bool false) (by kernel_rfl) rfl (by kernel_rfl) ?_
                    refine x_nil ?_
                    refine x_frame' { tmps := #[.agg #[.int .i64 r, .int .i64 s, .int .i64 b, .int .i64 o, .int .i64 c, .int .i64 y, .int .i64 z], .slice ad nA cA, .pointer (some ⟨g1, 0, none⟩), undef, .bool false, .pointer (some ⟨p, 0, none⟩), .int .i64 0, undef, .pointer (some ⟨g8, 0, none⟩), .int .i64 0, .bool false, (uf1 3), (uf1 4), (uf1 5), (uf1 6), undef, undef, undef, undef, undef, undef, undef, undef, undef, undef, .bool true, .bool false, .agg #[.int .i64 r, .int .i64 s, .int .i64 b, .int .i64 o, .int .i64 c, .int .i64 y, .int .i64 z], .bool true, .bool false, .bool false, .slice ad nA cA, .int .i64 ((nA : Nat) : Int), .bool false, .bool false, .tuple #[.pointer (some ⟨p, 0, none⟩), .int .i64 0], .agg #[.int .i64 r, .int .i64 s, .int .i64 b, .int .i64 o, .int .i64 c, .int .i64 y, .int .i64 z], .tuple #[.pointer (some ⟨p, 0, none⟩), .int .i64 0], .pointer (some ⟨p, 0, none⟩), .int .i64 0, .int .i64 0, .bool false, .bool false, .pointer (some ⟨p, 0, none⟩), .bool false, .bool false, undef, undef, .slice ad nA cA, .int .i64 ((nA : Nat) : Int), .int .i64 ((k : Nat) : Int), .bool true, .pointer (some ⟨ga, oa + k * 3, none⟩), .agg #[.int .i64 ((O.getD k (0, 0, 0)).1), .int .i64 ((O.getD k (0, 0, 0)).2.1), .int .i64 ((O.getD k (0, 0, 0)).2.2)], .pointer (some ⟨g8, 0, none⟩), .int .i64 ((O.getD k (0, 0, 0)).1), .bool true, .bool true, .pointer (some ⟨p, 0, none⟩), .pointer (some ⟨g8, 1, none⟩), .int .i64 ((O.getD k (0, 0, 0)).2.1), .bool false, .bool true, .bool true, .bool true, .pointer (some ⟨g8, 1, none⟩), .int .i64 ((O.getD k (0, 0, 0)).2.1), .bool true, .bool true, .bool true, .pointer (some ⟨g8, 1, none⟩), .int .i64 ((O.getD k (0, 0, 0)).2.1), .pointer (some ⟨g1, 0, none⟩), .agg #[.int .i64 r, .int .i64 s, .int .i64 b, .int .i64 o, .int .i64 c], .int .i64 ((pg : Nat) : Int), .bool true, .bool true, .tuple #[.int .i64 0, .bool false], .pointer (some ⟨p, 0, none⟩), .tuple #[.int .i64 0, .bool false], .int .i64 0, .bool false, (uf1 38), (uf1 39), (uf1 40), (uf1 41), (uf1 42), (uf1 43), (uf1 44), (uf1 45), (uf1 46), (uf1 47), (uf1 48), (uf1 49), (uf1 50), (uf1 51), (uf1 52), (uf1 53), (uf1 54), (uf1 55), (uf1 56), (uf1 57), (uf1 58), (uf1 59), (uf1 60), (uf1 61), (uf1 62), (uf1 63), (uf1 64), (uf1 65), (uf1 66), (uf1 67), (uf1 68), (uf1 69), (uf1 70), (uf1 71), (uf1 72), (uf1 73), (uf1 74), (uf1 75), (uf1 76), (uf1 77), (uf1 78), (uf1 79), (uf1 80), (uf1 81), (uf1 82), (uf1 83), (uf1 84), (uf1 85), (uf1 86), (uf1 87), (uf1 88), (uf1 89), (uf1 90), (uf1 91), (uf1 92), (uf1 93), (uf1 94), (uf1 95), (uf1 96), (uf1 97), undef, undef, undef, undef, undef, undef, undef, undef, undef, undef, undef, undef, undef, undef, undef, undef, undef, undef, undef, undef, undef, undef, undef, undef, undef, undef, undef, undef, undef, undef, undef, undef, undef, undef, undef, undef, undef, undef, undef, undef, undef, undef, undef, undef, undef, undef, undef, undef, undef, undef, undef, undef, undef, undef, undef, undef], defers := [] } (by kernel_rfl) ?_
                    refine x_then ?_
                    refine x_seq ?_
                    refine x_region ?_
                    refine x_val (.bool false) (by kernel_rfl) rfl (by kernel_rfl) ?_
                    refine x_val (.bool false) (by kernel_rfl) rfl (by kernel_rfl) ?_
                    refine x_skip (by kernel_rfl) ?_
                    refine x_skip (by kernel_rfl) ?_
                    refine x_skip (by kernel_rfl) ?_
                    refine x_skip (by kernel_rfl) ?_
                    refine x_val (.bool false) (by kernel_rfl) rfl (by kernel_rfl) ?_
                    refine x_val (.bool false) (by kernel_rfl) rfl (by kernel_rfl) ?_
                    refine x_skip (by kernel_rfl) ?_
                    refine x_skip (by kernel_rfl) ?_
                    refine x_skip (by kernel_rfl) ?_
                    refine x_skip (by kernel_rfl) ?_
                    refine x_val (.bool false) (by kernel_rfl) rfl (by kernel_rfl) ?_
                    refine x_nil ?_
                    refine x_then ?_
                    refine x_f (by kernel_rfl) ?_
                    refine x_skipc ?_
                    refine x_then ?_
                    replace H := H.pick [0, 1, 2, 3, 4, 5] [.blk g8 #[.int .i64 ((O.getD k (0, 0, 0)).1), .int .i64 ((O.getD k (0, 0, 0)).2.1), .int .i64 ((O.getD k (0, 0, 0)).2.2)] 103, .blk p #[.int .i64 r, .int .i64 s, .int .i64 b, .int .i64 o, .int .i64 c, .int .i64 y, .int .i64 z, .slice (some ⟨gl, 0, none⟩) sn cl, .slice (some ⟨gd, 0, none⟩) pg cd, .slice (some ⟨gs, 0, none⟩) ns cs, .int .i64 ((pu : Nat) : Int), .int .i64 ((ru : Nat) : Int)] 181, .row (.slice (some ⟨gl, 0, none⟩) sn cl) 3 1 sn (List.map (Value.int .i64) L), .row (.slice (some ⟨gd, 0, none⟩) pg cd) 4 1 pg (List.map Value.bool D), .row (.slice (some ⟨gs, 0, none⟩) ns cs) 3 1 ns (List.map (Value.int .i64) S), .blk g1 #[.int .i64 r, .int .i64 s, .int .i64 b, .int .i64 o, .int .i64 c, .int .i64 y, .int .i64 z] 69] (by decide) (by kernel_rfl)
                    exact ⟨L, D, pu, (nthV [.int .i64 0, .bool false, .pointer (some ⟨g8, 0, none⟩), .int .i64 ((O.getD k (0, 0, 0)).1), .bool true, .bool true, .pointer (some ⟨p, 0, none⟩), .pointer (some ⟨g8, 1, none⟩), .int .i64 ((O.getD k (0, 0, 0)).2.1), .bool false, .bool true, .bool true, .bool true, .pointer (some ⟨g8, 1, none⟩), .int .i64 ((O.getD k (0, 0, 0)).2.1), .bool true, .bool true, .bool true, .pointer (some ⟨g8, 1, none⟩), .int .i64 ((O.getD k (0, 0, 0)).2.1), .pointer (some ⟨g1, 0, none⟩), .agg #[.int .i64 r, .int .i64 s, .int .i64 b, .int .i64 o, .int .i64 c], .int .i64 ((pg : Nat) : Int), .bool true, .bool true, .tuple #[.int .i64 0, .bool false], .pointer (some ⟨p, 0, none⟩), .tuple #[.int .i64 0, .bool false], .int .i64 0, .bool false, .bool false, .bool false, undef, undef, undef, undef, .bool false, .bool false, undef, undef, undef, undef, .bool false, (uf1 51), (uf1 52), (uf1 53), (uf1 54), (uf1 55), (uf1 56), (uf1 57)]), (by kernel_rfl), H, U⟩
            · skip
              refine q_skip (by kernel_rfl) ?_
              refine q_skip (by kernel_rfl) ?_
              refine q_skip (by kernel_rfl) ?_
              refine q_val (.bool false) (by kernel_rfl) (fun _ => by kernel_rfl) ?_
              refine q_val (.bool false) (by kernel_rfl) (fun _ => by kernel_rfl) ?_
              refine q_skip (by kernel_rfl) ?_
              refine q_skip (by kernel_rfl) ?_
              refine q_skip (by kernel_rfl) ?_
              refine q_skip (by kernel_rfl) ?_
              refine q_skip (by kernel_rfl) ?_
              refine q_skip (by kernel_rfl) ?_
              refine q_val (.bool false) (by kernel_rfl) (fun _ => by kernel_rfl) ?_
              refine q_nil ?_
              clear H
              intro v34 H
              refine x_then ?_
              refine x_f (by kernel_rfl) ?_
              refine x_skipc ?_
              refine x_then ?_
              replace H := H.pick [0, 1, 2, 3, 4, 5] [.blk g8 #[.int .i64 ((O.getD k (0, 0, 0)).1), .int .i64 ((O.getD k (0, 0, 0)).2.1), .int .i64 ((O.getD k (0, 0, 0)).2.2)] 103, .blk p #[.int .i64 r, .int .i64 s, .int .i64 b, .int .i64 o, .int .i64 c, .int .i64 y, .int .i64 z, .slice (some ⟨gl, 0, none⟩) sn cl, .slice (some ⟨gd, 0, none⟩) pg cd, .slice (some ⟨gs, 0, none⟩) ns cs, .int .i64 ((pu : Nat) : Int), .int .i64 ((ru : Nat) : Int)] 181, .row (.slice (some ⟨gl, 0, none⟩) sn cl) 3 1 sn (List.map (Value.int .i64) L), .row (.slice (some ⟨gd, 0, none⟩) pg cd) 4 1 pg (List.map Value.bool D), .row (.slice (some ⟨gs, 0, none⟩) ns cs) 3 1 ns (List.map (Value.int .i64) S), .blk g1 #[.int .i64 r, .int .i64 s, .int .i64 b, .int .i64 o, .int .i64 c, .int .i64 y, .int .i64 z] 69] (by decide) (by kernel_rfl)
              exact ⟨L, D, pu, (nthV [(uf1 1), (uf1 2), .pointer (some ⟨g8, 0, none⟩), .int .i64 ((O.getD k (0, 0, 0)).1), .bool true, .bool true, .pointer (some ⟨p, 0, none⟩), .pointer (some ⟨g8, 1, none⟩), .int .i64 ((O.getD k (0, 0, 0)).2.1), .bool true, .bool false, .bool false, .bool false, undef, undef, undef, .bool false, .bool false, undef, undef, undef, undef, undef, undef, .bool false, (uf1 33), (uf1 34), (uf1 35), (uf1 36), (uf1 37), (uf1 38), (uf1 39), (uf1 40), (uf1 41), (uf1 42), (uf1 43), (uf1 44), (uf1 45), (uf1 46), (uf1 47), (uf1 48), (uf1 49), (uf1 50), (uf1 51), (uf1 52), (uf1 53), (uf1 54), (uf1 55), (uf1 56), (uf1 57)]), (by kernel_rfl), H, U⟩
        · skip
          clear H
          rintro _ v35 ⟨L, D, pu, uf3, rfl, H, r1⟩
          have U := r1
          have eP := U.st.hp
          have eR := U.hr
          refine x_then ?_
          refine x_seq ?_
          refine x_region ?_
          refine x_val (.pointer (some ⟨p, 0, none⟩)) (by kernel_rfl) rfl (by kernel_rfl) ?_
          refine x_val (.pointer (some ⟨g8, 1, none⟩)) (by kernel_rfl) rfl (by kernel_rfl) ?_
          refine x_load1 H 0 g8 1 #[.int .i64 ((O.getD k (0, 0, 0)).1), .int .i64 ((O.getD k (0, 0, 0)).2.1), .int .i64 ((O.getD k (0, 0, 0)).2.2)] 103 (.int .i64 ((O.getD k (0, 0, 0)).2.1)) (by kernel_rfl) (by kernel_rfl) (by kernel_rfl) rfl (by kernel_rfl) ?_
          cases h14 : spB ns S ((O.getD k (0, 0, 0)).2.1)
          · skip
            refine x_callB (.tuple #[.int .i64 0, .bool false]) H (by kernel_rfl) rfl (by kernel_rfl) (Spare_atNo hL U ((O.getD k (0, 0, 0)).2.1) h14 _ (H.roOf [1, 2, 3, 4] [.blk p #[.int .i64 r, .int .i64 s, .int .i64 b, .int .i64 o, .int .i64 c, .int .i64 y, .int .i64 z, .slice (some ⟨gl, 0, none⟩) sn cl, .slice (some ⟨gd, 0, none⟩) pg cd, .slice (some ⟨gs, 0, none⟩) ns cs, .int .i64 ((pu : Nat) : Int), .int .i64 ((ru : Nat) : Int)] 181, .row (.slice (some ⟨gl, 0, none⟩) sn cl) 3 1 sn (List.map (Value.int .i64) L), .row (.slice (some ⟨gd, 0, none⟩) pg cd) 4 1 pg (List.map Value.bool D), .row (.slice (some ⟨gs, 0, none⟩) ns cs) 3 1 ns (List.map (Value.int .i64) S)] (by kernel_rfl))) ?_
            clear H
            intro v36 H
            refine x_val (.tuple #[.int .i64 0, .bool false]) (by kernel_rfl) rfl (by kernel_rfl) ?_
            refine x_val (.int .i64 0) (by kernel_rfl) rfl (by kernel_rfl) ?_
            refine x_val (.bool false) (by kernel_rfl) rfl (by kernel_rfl) ?_
            refine x_val (.int .i64 0) (by kernel_rfl) rfl (by kernel_rfl) ?_
            refine x_val (.bool false) (by kernel_rfl) rfl (by kernel_rfl) ?_
            refine x_nil ?_
            refine x_then ?_
            refine x_seq ?_
            refine x_region ?_
            refine x_val (.pointer (some ⟨g8, 0, none⟩)) (by kernel_rfl) rfl (by kernel_rfl) ?_
            refine x_load1 H 0 g8 0 #[.int .i64 ((O.getD k (0, 0, 0)).1), .int .i64 ((O.getD k (0, 0, 0)).2.1), .int .i64 ((O.getD k (0, 0, 0)).2.2)] 103 (.int .i64 ((O.getD k (0, 0, 0)).1)) (by kernel_rfl) (by kernel_rfl) (by kernel_rfl) rfl (by kernel_rfl) ?_
            refine x_val (.bool (decide (((O.getD k (0, 0, 0)).1) = 4))) (by kernel_rfl) rfl (by kernel_rfl) ?_
            refine x_val (.bool (decide (((O.getD k (0, 0, 0)).1) = 4))) (by kernel_rfl) rfl (by kernel_rfl) ?_
            cases h15 : decide (((O.getD k (0, 0, 0)).1) = 4)
            · skip
              have h15p := of_decide_eq_false h15
              refine x_skip (by kernel_rfl) ?_
              refine x_skip (by kernel_rfl) ?_
              refine x_val (.bool false) (by kernel_rfl) rfl (by kernel_rfl) ?_
              refine x_val (.bool false) (by kernel_rfl) rfl (by kernel_rfl) ?_
              refine x_skip (by kernel_rfl) ?_
              refine x_skip (by kernel_rfl) ?_
              refine x_skip (by kernel_rfl) ?_
              refine x_val (.bool false) (by kernel_rfl) rfl (by kernel_rfl) ?_
              refine x_val (.bool false) (by kernel_rfl) rfl (by kernel_rfl) ?_
              refine x_skip (by kernel_rfl) ?_
              refine x_skip (by kernel_rfl) ?_
              refine x_skip (by kernel_rfl) ?_
              refine x_skip (by kernel_rfl) ?_
              refine x_skip (by kernel_rfl) ?_
              refine x_skip (by kernel_rfl) ?_
              refine x_val (.bool false) (by kernel_rfl) rfl (by kernel_rfl) ?_
              refine x_nil ?_
              refine x_then ?_
              refine x_f (by kernel_rfl) ?_
              refine x_skipc ?_
              refine x_blk ?_
              refine x_then ?_
              refine x_region ?_
              refine x_ar (((k : Nat) : Int) + 1) ⟨by omega, by omega⟩ (by kernel_rfl) rfl (by kernel_rfl) ?_
              refine x_val (.int .i64 (((k : Nat) : Int) + 1)) (by kernel_rfl) rfl (by kernel_rfl) ?_
              refine x_nil ?_
              refine x_frame' { tmps := #[.agg #[.int .i64 r, .int .i64 s, .int .i64 b, .int .i64 o, .int .i64 c, .int .i64 y, .int .i64 z], .slice ad nA cA, .pointer (some ⟨g1, 0, none⟩), undef, .bool false, .pointer (some ⟨p, 0, none⟩), .int .i64 0, undef, .pointer (some ⟨g8, 0, none⟩), (uf3 0), (uf3 1), .int .i64 0, .bool false, (uf1 5), (uf1 6), undef, undef, undef, undef, undef, undef, undef, undef, undef, undef, .bool true, .bool false, .agg #[.int .i64 r, .int .i64 s, .int .i64 b, .int .i64 o, .int .i64 c, .int .i64 y, .int .i64 z], .bool true, .bool false, .bool false, .slice ad nA cA, .int .i64 ((nA : Nat) : Int), .bool false, .bool false, .tuple #[.pointer (some ⟨p, 0, none⟩), .int .i64 0], .agg #[.int .i64 r, .int .i64 s, .int .i64 b, .int .i64 o, .int .i64 c, .int .i64 y, .int .i64 z], .tuple #[.pointer (some ⟨p, 0, none⟩), .int .i64 0], .pointer (some ⟨p, 0, none⟩), .int .i64 0, .int .i64 0, .bool false, .bool false, .pointer (some ⟨p, 0, none⟩), .bool false, .bool false, undef, undef, .slice ad nA cA, .int .i64 ((nA : Nat) : Int), .int .i64 (((k : Nat) : Int) + 1), .bool true, .pointer (some ⟨ga, oa + k * 3, none⟩), .agg #[.int .i64 ((O.getD k (0, 0, 0)).1), .int .i64 ((O.getD k (0, 0, 0)).2.1), .int .i64 ((O.getD k (0, 0, 0)).2.2)], (uf3 2), (uf3 3), (uf3 4), (uf3 5), (uf3 6), (uf3 7), (uf3 8), (uf3 9), (uf3 10), (uf3 11), (uf3 12), (uf3 13), (uf3 14), (uf3 15), (uf3 16), (uf3 17), (uf3 18), (uf3 19), (uf3 20), (uf3 21), (uf3 22), (uf3 23), (uf3 24), (uf3 25), (uf3 26), (uf3 27), (uf3 28), (uf3 29), (uf3 30), (uf3 31), (uf3 32), (uf3 33), (uf3 34), (uf3 35), (uf3 36), (uf3 37), (uf3 38), (uf3 39), (uf3 40), (uf3 41), (uf3 42), (uf3 43), (uf3 44), (uf3 45), (uf3 46), (uf3 47), (uf3 48), (uf3 49), .tuple #[.int .i64 0, .bool false], .pointer (some ⟨p, 0, none⟩), .pointer (some ⟨g8, 1, none⟩), .int .i64 ((O.getD k (0, 0, 0)).2.1), .tuple #[.int .i64 0, .bool false], .int .i64 0, .bool false, .pointer (some ⟨g8, 0, none⟩), .int .i64 ((O.getD k (0, 0, 0)).1), .bool false, .bool false, undef, undef, .bool false, .bool false, undef, undef, undef, .bool false, .bool false, undef, undef, undef, undef, undef, undef, .bool false, (uf1 85), (uf1 86), (uf1 87), (uf1 88), (uf1 89), (uf1 90), (uf1 91), (uf1 92), (uf1 93), (uf1 94), (uf1 95), (uf1 96), .int .i64 (((k : Nat) : Int) + 1), undef, undef, undef, undef, undef, undef, undef, undef, undef, undef, undef, undef, undef, undef, undef, undef, undef, undef, undef, undef, undef, undef, undef, undef, undef, undef, undef, undef, undef, undef, undef, undef, undef, undef, undef, undef, undef, undef, undef, undef, undef, undef, undef, undef, undef, undef, undef, undef, undef, undef, undef, undef, undef, undef, undef, undef], defers := [] } (by kernel_rfl) ?_
              refine x_then ?_
              replace H := H.pick [1, 2, 3, 4, 5] [.blk p #[.int .i64 r, .int .i64 s, .int .i64 b, .int .i64 o, .int .i64 c, .int .i64 y, .int .i64 z, .slice (some ⟨gl, 0, none⟩) sn cl, .slice (some ⟨gd, 0, none⟩) pg cd, .slice (some ⟨gs, 0, none⟩) ns cs, .int .i64 ((pu : Nat) : Int), .int .i64 ((ru : Nat) : Int)] 181, .row (.slice (some ⟨gl, 0, none⟩) sn cl) 3 1 sn (List.map (Value.int .i64) L), .row (.slice (some ⟨gd, 0, none⟩) pg cd) 4 1 pg (List.map Value.bool D), .row (.slice (some ⟨gs, 0, none⟩) ns cs) 3 1 ns (List.map (Value.int .i64) S), .blk g1 #[.int .i64 r, .int .i64 s, .int .i64 b, .int .i64 o, .int .i64 c, .int .i64 y, .int .i64 z] 69] (by decide) (by kernel_rfl)
              exact ⟨(k + 1, L, D, S, pu, ru), (by dsimp only; omega), (nthV [.pointer (some ⟨g8, 0, none⟩), (uf3 0), (uf3 1), .int .i64 0, .bool false, (uf1 5), (uf1 6), .bool true, .pointer (some ⟨ga, oa + k * 3, none⟩), .agg #[.int .i64 ((O.getD k (0, 0, 0)).1), .int .i64 ((O.getD k (0, 0, 0)).2.1), .int .i64 ((O.getD k (0, 0, 0)).2.2)], (uf3 2), (uf3 3), (uf3 4), (uf3 5), (uf3 6), (uf3 7), (uf3 8), (uf3 9), (uf3 10), (uf3 11), (uf3 12), (uf3 13), (uf3 14), (uf3 15), (uf3 16), (uf3 17), (uf3 18), (uf3 19), (uf3 20), (uf3 21), (uf3 22), (uf3 23), (uf3 24), (uf3 25), (uf3 26), (uf3 27), (uf3 28), (uf3 29), (uf3 30), (uf3 31), (uf3 32), (uf3 33), (uf3 34), (uf3 35), (uf3 36), (uf3 37), (uf3 38), (uf3 39), (uf3 40), (uf3 41), (uf3 42), (uf3 43), (uf3 44), (uf3 45), (uf3 46), (uf3 47), (uf3 48), (uf3 49), .tuple #[.int .i64 0, .bool false], .pointer (some ⟨p, 0, none⟩), .pointer (some ⟨g8, 1, none⟩), .int .i64 ((O.getD k (0, 0, 0)).2.1), .tuple #[.int .i64 0, .bool false], .int .i64 0, .bool false, .pointer (some ⟨g8, 0, none⟩), .int .i64 ((O.getD k (0, 0, 0)).1), .bool false, .bool false, undef, undef, .bool false, .bool false, undef, undef, undef, .bool false, .bool false, undef, undef, undef, undef, undef, undef, .bool false, (uf1 85), (uf1 86), (uf1 87), (uf1 88), (uf1 89), (uf1 90), (uf1 91), (uf1 92), (uf1 93), (uf1 94), (uf1 95), (uf1 96), .int .i64 (((k : Nat) : Int) + 1)]), (by kernel_rfl), H, (by omega), U⟩
            · skip
              have h15p := of_decide_eq_true h15
              refine x_val (.bool false) (by kernel_rfl) rfl (by kernel_rfl) ?_
              refine x_val (.bool true) (by kernel_rfl) rfl (by kernel_rfl) ?_
              refine x_val (.bool true) (by kernel_rfl) rfl (by kernel_rfl) ?_
              refine x_val (.bool true) (by kernel_rfl) rfl (by kernel_rfl) ?_
              refine x_val (.pointer (some ⟨g8, 1, none⟩)) (by kernel_rfl) rfl (by kernel_rfl) ?_
              refine x_load1 H 0 g8 1 #[.int .i64 ((O.getD k (0, 0, 0)).1), .int .i64 ((O.getD k (0, 0, 0)).2.1), .int .i64 ((O.getD k (0, 0, 0)).2.2)] 103 (.int .i64 ((O.getD k (0, 0, 0)).2.1)) (by kernel_rfl) (by kernel_rfl) (by kernel_rfl) rfl (by kernel_rfl) ?_
              refine x_val (.bool (decide (0 ≤ ((O.getD k (0, 0, 0)).2.1)))) (by kernel_rfl) rfl (by kernel_rfl) ?_
              refine x_val (.bool (decide (0 ≤ ((O.getD k (0, 0, 0)).2.1)))) (by kernel_rfl) rfl (by kernel_rfl) ?_
              refine x_val (.bool (decide (0 ≤ ((O.getD k (0, 0, 0)).2.1)))) (by kernel_rfl) rfl (by kernel_rfl) ?_
              cases h16 : decide (0 ≤ ((O.getD k (0, 0, 0)).2.1))
              · skip
                have h16p := of_decide_eq_false h16
                refine x_skip (by kernel_rfl) ?_
                refine x_skip (by kernel_rfl) ?_
                refine x_skip (by kernel_rfl) ?_
                refine x_skip (by kernel_rfl) ?_
                refine x_skip (by kernel_rfl) ?_
                refine x_skip (by kernel_rfl) ?_
                refine x_val (.bool false) (by kernel_rfl) rfl (by kernel_rfl) ?_
                refine x_nil ?_
                refine x_then ?_
                refine x_f (by kernel_rfl) ?_
                refine x_skipc ?_
                refine x_blk ?_
                refine x_then ?_
                refine x_region ?_
                refine x_ar (((k : Nat) : Int) + 1) ⟨by omega, by omega⟩ (by kernel_rfl) rfl (by kernel_rfl) ?_
                refine x_val (.int .i64 (((k : Nat) : Int) + 1)) (by kernel_rfl) rfl (by kernel_rfl) ?_
                refine x_nil ?_
                refine x_frame' { tmps := #[.agg #[.int .i64 r, .int .i64 s, .int .i64 b, .int .i64 o, .int .i64 c, .int .i64 y, .int .i64 z], .slice ad nA cA, .pointer (some ⟨g1, 0, none⟩), undef, .bool false, .pointer (some ⟨p, 0, none⟩), .int .i64 0, undef, .pointer (some ⟨g8, 0, none⟩), (uf3 0), (uf3 1), .int .i64 0, .bool false, (uf1 5), (uf1 6), undef, undef, undef, undef, undef, undef, undef, undef, undef, undef, .bool true, .bool false, .agg #[.int .i64 r, .int .i64 s, .int .i64 b, .int .i64 o, .int .i64 c, .int .i64 y, .int .i64 z], .bool true, .bool false, .bool false, .slice ad nA cA, .int .i64 ((nA : Nat) : Int), .bool false, .bool false, .tuple #[.pointer (some ⟨p, 0, none⟩), .int .i64 0], .agg #[.int .i64 r, .int .i64 s, .int .i64 b, .int .i64 o, .int .i64 c, .int .i64 y, .int .i64 z], .tuple #[.pointer (some ⟨p, 0, none⟩), .int .i64 0], .pointer (some ⟨p, 0, none⟩), .int .i64 0, .int .i64 0, .bool false, .bool false, .pointer (some ⟨p, 0, none⟩), .bool false, .bool false, undef, undef, .slice ad nA cA, .int .i64 ((nA : Nat) : Int), .int .i64 (((k : Nat) : Int) + 1), .bool true, .pointer (some ⟨ga, oa + k * 3, none⟩), .agg #[.int .i64 ((O.getD k (0, 0, 0)).1), .int .i64 ((O.getD k (0, 0, 0)).2.1), .int .i64 ((O.getD k (0, 0, 0)).2.2)], (uf3 2), (uf3 3), (uf3 4), (uf3 5), (uf3 6), (uf3 7), (uf3 8), (uf3 9), (uf3 10), (uf3 11), (uf3 12), (uf3 13), (uf3 14), (uf3 15), (uf3 16), (uf3 17), (uf3 18), (uf3 19), (uf3 20), (uf3 21), (uf3 22), (uf3 23), (uf3 24), (uf3 25), (uf3 26), (uf3 27), (uf3 28), (uf3 29), (uf3 30), (uf3 31), (uf3 32), (uf3 33), (uf3 34), (uf3 35), (uf3 36), (uf3 37), (uf3 38), (uf3 39), (uf3 40), (uf3 41), (uf3 42), (uf3 43), (uf3 44), (uf3 45), (uf3 46), (uf3 47), (uf3 48), (uf3 49), .tuple #[.int .i64 0, .bool false], .pointer (some ⟨p, 0, none⟩), .pointer (some ⟨g8, 1, none⟩), .int .i64 ((O.getD k (0, 0, 0)).2.1), .tuple #[.int .i64 0, .bool false], .int .i64 0, .bool false, .pointer (some ⟨g8, 0, none⟩), .int .i64 ((O.getD k (0, 0, 0)).1), .bool true, .bool true, .bool false, .bool true, .bool true, .bool true, .pointer (some ⟨g8, 1, none⟩), .int .i64 ((O.getD k (0, 0, 0)).2.1), .bool false, .bool false, .bool false, undef, undef, undef, undef, undef, undef, .bool false, (uf1 85), (uf1 86), (uf1 87), (uf1 88), (uf1 89), (uf1 90), (uf1 91), (uf1 92), (uf1 93), (uf1 94), (uf1 95), (uf1 96), .int .i64 (((k : Nat) : Int) + 1), undef, undef, undef, undef, undef, undef, undef, undef, undef, undef, undef, undef, undef, undef, undef, undef, undef, undef, undef, undef, undef, undef, undef, undef, undef, undef, undef, undef, undef, undef, undef, undef, undef, undef, undef, undef, undef, undef, undef, undef, undef, undef, undef, undef, undef, undef, undef, undef, undef, undef, undef, undef, undef, undef, undef, undef], defers := [] } (by kernel_rfl) ?_
                refine x_then ?_
                replace H := H.pick [1, 2, 3, 4, 5] [.blk p #[.int .i64 r, .int .i64 s, .int .i64 b, .int .i64 o, .int .i64 c, .int .i64 y, .int .i64 z, .slice (some ⟨gl, 0, none⟩) sn cl, .slice (some ⟨gd, 0, none⟩) pg cd, .slice (some ⟨gs, 0, none⟩) ns cs, .int .i64 ((pu : Nat) : Int), .int .i64 ((ru : Nat) : Int)] 181, .row (.slice (some ⟨gl, 0, none⟩) sn cl) 3 1 sn (List.map (Value.int .i64) L), .row (.slice (some ⟨gd, 0, none⟩) pg cd) 4 1 pg (List.map Value.bool D), .row (.slice (some ⟨gs, 0, none⟩) ns cs) 3 1 ns (List.map (Value.int .i64) S), .blk g1 #[.int .i64 r, .int .i64 s, .int .i64 b, .int .i64 o, .int .i64 c, .int .i64 y, .int .i64 z] 69] (by decide) (by kernel_rfl)
                exact ⟨(k + 1, L, D, S, pu, ru), (by dsimp only; omega), (nthV [.pointer (some ⟨g8, 0, none⟩), (uf3 0), (uf3 1), .int .i64 0, .bool false, (uf1 5), (uf1 6), .bool true, .pointer (some ⟨ga, oa + k * 3, none⟩), .agg #[.int .i64 ((O.getD k (0, 0, 0)).1), .int .i64 ((O.getD k (0, 0, 0)).2.1), .int .i64 ((O.getD k (0, 0, 0)).2.2)], (uf3 2), (uf3 3), (uf3 4), (uf3 5), (uf3 6), (uf3 7), (uf3 8), (uf3 9), (uf3 10), (uf3 11), (uf3 12), (uf3 13), (uf3 14), (uf3 15), (uf3 16), (uf3 17), (uf3 18), (uf3 19), (uf3 20), (uf3 21), (uf3 22), (uf3 23), (uf3 24), (uf3 25), (uf3 26), (uf3 27), (uf3 28), (uf3 29), (uf3 30), (uf3 31), (uf3 32), (uf3 33), (uf3 34), (uf3 35), (uf3 36), (uf3 37), (uf3 38), (uf3 39), (uf3 40), (uf3 41), (uf3 42), (uf3 43), (uf3 44), (uf3 45), (uf3 46), (uf3 47), (uf3 48), (uf3 49), .tuple #[.int .i64 0, .bool false], .pointer (some ⟨p, 0, none⟩), .pointer (some ⟨g8, 1, none⟩), .int .i64 ((O.getD k (0, 0, 0)).2.1), .tuple #[.int .i64 0, .bool false], .int .i64 0, .bool false, .pointer (some ⟨g8, 0, none⟩), .int .i64 ((O.getD k (0, 0, 0)).1), .bool true, .bool true, .bool false, .bool true, .bool true, .bool true, .pointer (some ⟨g8, 1, none⟩), .int .i64 ((O.getD k (0, 0, 0)).2.1), .bool false, .bool false, .bool false, undef, undef, undef, undef, undef, undef, .bool false, (uf1 85), (uf1 86), (uf1 87), (uf1 88), (uf1 89), (uf1 90), (uf1 91), (uf1 92), (uf1 93), (uf1 94), (uf1 95), (uf1 96), .int .i64 (((k : Nat) : Int) + 1)]), (by kernel_rfl), H, (by omega), U⟩
              · skip
                have h16p := of_decide_eq_true h16
                refine x_val (.pointer (some ⟨g8, 1, none⟩)) (by kernel_rfl) rfl (by kernel_rfl) ?_
                refine x_load1 H 0 g8 1 #[.int .i64 ((O.getD k (0, 0, 0)).1), .int .i64 ((O.getD k (0, 0, 0)).2.1), .int .i64 ((O.getD k (0, 0, 0)).2.2)] 103 (.int .i64 ((O.getD k (0, 0, 0)).2.1)) (by kernel_rfl) (by kernel_rfl) (by kernel_rfl) rfl (by kernel_rfl) ?_
                refine x_val (.pointer (some ⟨g1, 0, none⟩)) (by kernel_rfl) rfl (by kernel_rfl) ?_
                refine x_val (.pointer (some ⟨g1, 0, none⟩)) (by kernel_rfl) rfl (by kernel_rfl) ?_
                refine x_load1 H 5 g1 0 #[.int .i64 r, .int .i64 s, .int .i64 b, .int .i64 o, .int .i64 c, .int .i64 y, .int .i64 z] 69 (.int .i64 r) (by kernel_rfl) (by kernel_rfl) (by kernel_rfl) rfl (by kernel_rfl) ?_
                refine x_val (.bool (decide (((O.getD k (0, 0, 0)).2.1) < r))) (by kernel_rfl) rfl (by kernel_rfl) ?_
                refine x_val (.bool (decide (((O.getD k (0, 0, 0)).2.1) < r))) (by kernel_rfl) rfl (by kernel_rfl) ?_
                refine x_nil ?_
                refine x_then ?_
                cases h17 : decide (((O.getD k (0, 0, 0)).2.1) < r)
                · skip
                  have h17p := of_decide_eq_false h17
                  refine x_f (by kernel_rfl) ?_
                  refine x_skipc ?_
                  refine x_blk ?_
                  refine x_then ?_
                  refine x_region ?_
                  refine x_ar (((k : Nat) : Int) + 1) ⟨by omega, by omega⟩ (by kernel_rfl) rfl (by kernel_rfl) ?_
                  refine x_val (.int .i64 (((k : Nat) : Int) + 1)) (by kernel_rfl) rfl (by kernel_rfl) ?_
                  refine x_nil ?_
                  refine x_frame' { tmps := #[.agg #[.int .i64 r, .int .i64 s, .int .i64 b, .int .i64 o, .int .i64 c, .int .i64 y, .int .i64 z], .slice ad nA cA, .pointer (some ⟨g1, 0, none⟩), undef, .bool false, .pointer (some ⟨p, 0, none⟩), .int .i64 0, undef, .pointer (some ⟨g8, 0, none⟩), (uf3 0), (uf3 1), .int .i64 0, .bool false, (uf1 5), (uf1 6), undef, undef, undef, undef, undef, undef, undef, undef, undef, undef, .bool true, .bool false, .agg #[.int .i64 r, .int .i64 s, .int .i64 b, .int .i64 o, .int .i64 c, .int .i64 y, .int .i64 z], .bool true, .bool false, .bool false, .slice ad nA cA, .int .i64 ((nA : Nat) : Int), .bool false, .bool false, .tuple #[.pointer (some ⟨p, 0, none⟩), .int .i64 0], .agg #[.int .i64 r, .int .i64 s, .int .i64 b, .int .i64 o, .int .i64 c, .int .i64 y, .int .i64 z], .tuple #[.pointer (some ⟨p, 0, none⟩), .int .i64 0], .pointer (some ⟨p, 0, none⟩), .int .i64 0, .int .i64 0, .bool false, .bool false, .pointer (some ⟨p, 0, none⟩), .bool false, .bool false, undef, undef, .slice ad nA cA, .int .i64 ((nA : Nat) : Int), .int .i64 (((k : Nat) : Int) + 1), .bool true, .pointer (some ⟨ga, oa + k * 3, none⟩), .agg #[.int .i64 ((O.getD k (0, 0, 0)).1), .int .i64 ((O.getD k (0, 0, 0)).2.1), .int .i64 ((O.getD k (0, 0, 0)).2.2)], (uf3 2), (uf3 3), (uf3 4), (uf3 5), (uf3 6), (uf3 7), (uf3 8), (uf3 9), (uf3 10), (uf3 11), (uf3 12), (uf3 13), (uf3 14), (uf3 15), (uf3 16), (uf3 17), (uf3 18), (uf3 19), (uf3 20), (uf3 21), (uf3 22), (uf3 23), (uf3 24), (uf3 25), (uf3 26), (uf3 27), (uf3 28), (uf3 29), (uf3 30), (uf3 31), (uf3 32), (uf3 33), (uf3 34), (uf3 35), (uf3 36), (uf3 37), (uf3 38), (uf3 39), (uf3 40), (uf3 41), (uf3 42), (uf3 43), (uf3 44), (uf3 45), (uf3 46), (uf3 47), (uf3 48), (uf3 49), .tuple #[.int .i64 0, .bool false], .pointer (some ⟨p, 0, none⟩), .pointer (some ⟨g8, 1, none⟩), .int .i64 ((O.getD k (0, 0, 0)).2.1), .tuple #[.int .i64 0, .bool false], .int .i64 0, .bool false, .pointer (some ⟨g8, 0, none⟩), .int .i64 ((O.getD k (0, 0, 0)).1), .bool true, .bool true, .bool false, .bool true, .bool true, .bool true, .pointer (some ⟨g8, 1, none⟩), .int .i64 ((O.getD k (0, 0, 0)).2.1), .bool true, .bool true, .bool true, .pointer (some ⟨g8, 1, none⟩), .int .i64 ((O.getD k (0, 0, 0)).2.1), .pointer (some ⟨g1, 0, none⟩), .pointer (some ⟨g1, 0, none⟩), .int .i64 r, .bool false, .bool false, (uf1 85), (uf1 86), (uf1 87), (uf1 88), (uf1 89), (uf1 90), (uf1 91), (uf1 92), (uf1 93), (uf1 94), (uf1 95), (uf1 96), .int .i64 (((k : Nat) : Int) + 1), undef, undef, undef, undef, undef, undef, undef, undef, undef, undef, undef, undef, undef, undef, undef, undef, undef, undef, undef, undef, undef, undef, undef, undef, undef, undef, undef, undef, undef, undef, undef, undef, undef, undef, undef, undef, undef, undef, undef, undef, undef, undef, undef, undef, undef, undef, undef, undef, undef, undef, undef, undef, undef, undef, undef, undef], defers := [] } (by kernel_rfl) ?_
                  refine x_then ?_
                  replace H := H.pick [1, 2, 3, 4, 5] [.blk p #[.int .i64 r, .int .i64 s, .int .i64 b, .int .i64 o, .int .i64 c, .int .i64 y, .int .i64 z, .slice (some ⟨gl, 0, none⟩) sn cl, .slice (some ⟨gd, 0, none⟩) pg cd, .slice (some ⟨gs, 0, none⟩) ns cs, .int .i64 ((pu : Nat) : Int), .int .i64 ((ru : Nat) : Int)] 181, .row (.slice (some ⟨gl, 0, none⟩) sn cl) 3 1 sn (List.map (Value.int .i64) L), .row (.slice (some ⟨gd, 0, none⟩) pg cd) 4 1 pg (List.map Value.bool D), .row (.slice (some ⟨gs, 0, none⟩) ns cs) 3 1 ns (List.map (Value.int .i64) S), .blk g1 #[.int .i64 r, .int .i64 s, .int .i64 b, .int .i64 o, .int .i64 c, .int .i64 y, .int .i64 z] 69] (by decide) (by kernel_rfl)
                  exact ⟨(k + 1, L, D, S, pu, ru), (by dsimp only; omega), (nthV [.pointer (some ⟨g8, 0, none⟩), (uf3 0), (uf3 1), .int .i64 0, .bool false, (uf1 5), (uf1 6), .bool true, .pointer (some ⟨ga, oa + k * 3, none⟩), .agg #[.int .i64 ((O.getD k (0, 0, 0)).1), .int .i64 ((O.getD k (0, 0, 0)).2.1), .int .i64 ((O.getD k (0, 0, 0)).2.2)], (uf3 2), (uf3 3), (uf3 4), (uf3 5), (uf3 6), (uf3 7), (uf3 8), (uf3 9), (uf3 10), (uf3 11), (uf3 12), (uf3 13), (uf3 14), (uf3 15), (uf3 16), (uf3 17), (uf3 18), (uf3 19), (uf3 20), (uf3 21), (uf3 22), (uf3 23), (uf3 24), (uf3 25), (uf3 26), (uf3 27), (uf3 28), (uf3 29), (uf3 30), (uf3 31), (uf3 32), (uf3 33), (uf3 34), (uf3 35), (uf3 36), (uf3 37), (uf3 38), (uf3 39), (uf3 40), (uf3 41), (uf3 42), (uf3 43), (uf3 44), (uf3 45), (uf3 46), (uf3 47), (uf3 48), (uf3 49), .tuple #[.int .i64 0, .bool false], .pointer (some ⟨p, 0, none⟩), .pointer (some ⟨g8, 1, none⟩), .int .i64 ((O.getD k (0, 0, 0)).2.1), .tuple #[.int .i64 0, .bool false], .int .i64 0, .bool false, .pointer (some ⟨g8, 0, none⟩), .int .i64 ((O.getD k (0, 0, 0)).1), .bool true, .bool true, .bool false, .bool true, .bool true, .bool true, .pointer (some ⟨g8, 1, none⟩), .int .i64 ((O.getD k (0, 0, 0)).2.1), .bool true, .bool true, .bool true, .pointer (some ⟨g8, 1, none⟩), .int .i64 ((O.getD k (0, 0, 0)).2.1), .pointer (some ⟨g1, 0, none⟩), .pointer (some ⟨g1, 0, none⟩), .int .i64 r, .bool false, .bool false, (uf1 85), (uf1 86), (uf1 87), (uf1 88), (uf1 89), (uf1 90), (uf1 91), (uf1 92), (uf1 93), (uf1 94), (uf1 95), (uf1 96), .int .i64 (((k : Nat) : Int) + 1)]), (by kernel_rfl), H, (by omega), U⟩
                · skip
                  have h17p := of_decide_eq_true h17
                  refine x_t (by kernel_rfl) ?_
                  refine x_seq ?_
                  refine x_region ?_
                  refine x_val (.pointer (some ⟨p, 0, none⟩)) (by kernel_rfl) rfl (by kernel_rfl) ?_
                  cases h18 : decide (((ru : Nat) : Int) = s)
                  · skip
                    have h18p := of_decide_eq_false h18
                    refine x_callH (.tuple #[.int .i64 (r + ((ru : Nat) : Int)), .int .i64 0]) [.blk p #[.int .i64 r, .int .i64 s, .int .i64 b, .int .i64 o, .int .i64 c, .int .i64 y, .int .i64 z, .slice (some ⟨gl, 0, none⟩) sn cl, .slice (some ⟨gd, 0, none⟩) pg cd, .slice (some ⟨gs, 0, none⟩) ns cs, .int .i64 ((pu : Nat) : Int), .int .i64 (((ru + 1) : Nat) : Int)] 181, .row (.slice (some ⟨gl, 0, none⟩) sn cl) 3 1 sn (List.map (Value.int .i64) L), .row (.slice (some ⟨gd, 0, none⟩) pg cd) 4 1 pg (List.map Value.bool D), .row (.slice (some ⟨gs, 0, none⟩) ns cs) 3 1 ns (List.map (Value.int .i64) S), .blk g8 #[.int .i64 ((O.getD k (0, 0, 0)).1), .int .i64 ((O.getD k (0, 0, 0)).2.1), .int .i64 ((O.getD k (0, 0, 0)).2.2)] 103, .blk g1 #[.int .i64 r, .int .i64 s, .int .i64 b, .int .i64 o, .int .i64 c, .int .i64 y, .int .i64 z] 69] (by kernel_rfl) rfl (by kernel_rfl) (Hs.use (A := [.blk p #[.int .i64 r, .int .i64 s, .int .i64 b, .int .i64 o, .int .i64 c, .int .i64 y, .int .i64 z, .slice (some ⟨gl, 0, none⟩) sn cl, .slice (some ⟨gd, 0, none⟩) pg cd, .slice (some ⟨gs, 0, none⟩) ns cs, .int .i64 ((pu : Nat) : Int), .int .i64 ((ru : Nat) : Int)] 181, .row (.slice (some ⟨gl, 0, none⟩) sn cl) 3 1 sn (List.map (Value.int .i64) L), .row (.slice (some ⟨gd, 0, none⟩) pg cd) 4 1 pg (List.map Value.bool D), .row (.slice (some ⟨gs, 0, none⟩) ns cs) 3 1 ns (List.map (Value.int .i64) S)]) (R := [.blk g8 #[.int .i64 ((O.getD k (0, 0, 0)).1), .int .i64 ((O.getD k (0, 0, 0)).2.1), .int .i64 ((O.getD k (0, 0, 0)).2.2)] 103, .blk g1 #[.int .i64 r, .int .i64 s, .int .i64 b, .int .i64 o, .int .i64 c, .int .i64 y, .int .i64 z] 69]) (H.pick [1, 2, 3, 4, 0, 5] _ (by decide) (by kernel_rfl)) (fun h => TakeSpare_yes hL U.mok (by omega) _ h)) ?_
                    clear H
                    intro v37 H
                    refine x_val (.tuple #[.int .i64 (r + ((ru : Nat) : Int)), .int .i64 0]) (by kernel_rfl) rfl (by kernel_rfl) ?_
                    refine x_val (.int .i64 (r + ((ru : Nat) : Int))) (by kernel_rfl) rfl (by kernel_rfl) ?_
                    refine x_val (.int .i64 0) (by kernel_rfl) rfl (by kernel_rfl) ?_
                    refine x_val (.int .i64 (r + ((ru : Nat) : Int))) (by kernel_rfl) rfl (by kernel_rfl) ?_
                    refine x_val (.int .i64 0) (by kernel_rfl) rfl (by kernel_rfl) ?_
                    refine x_nil ?_
                    refine x_frame' { tmps := #[.agg #[.int .i64 r, .int .i64 s, .int .i64 b, .int .i64 o, .int .i64 c, .int .i64 y, .int .i64 z], .slice ad nA cA, .pointer (some ⟨g1, 0, none⟩), undef, .bool false, .pointer (some ⟨p, 0, none⟩), .int .i64 0, undef, .pointer (some ⟨g8, 0, none⟩), (uf3 0), (uf3 1), .int .i64 0, .bool false, .int .i64 (r + ((ru : Nat) : Int)), .int .i64 0, undef, undef, undef, undef, undef, undef, undef, undef, undef, undef, .bool true, .bool false, .agg #[.int .i64 r, .int .i64 s, .int .i64 b, .int .i64 o, .int .i64 c, .int .i64 y, .int .i64 z], .bool true, .bool false, .bool false, .slice ad nA cA, .int .i64 ((nA : Nat) : Int), .bool false, .bool false, .tuple #[.pointer (some ⟨p, 0, none⟩), .int .i64 0], .agg #[.int .i64 r, .int .i64 s, .int .i64 b, .int .i64 o, .int .i64 c, .int .i64 y, .int .i64 z], .tuple #[.pointer (some ⟨p, 0, none⟩), .int .i64 0], .pointer (some ⟨p, 0, none⟩), .int .i64 0, .int .i64 0, .bool false, .bool false, .pointer (some ⟨p, 0, none⟩), .bool false, .bool false, undef, undef, .slice ad nA cA, .int .i64 ((nA : Nat) : Int), .int .i64 ((k : Nat) : Int), .bool true, .pointer (some ⟨ga, oa + k * 3, none⟩), .agg #[.int .i64 ((O.getD k (0, 0, 0)).1), .int .i64 ((O.getD k (0, 0, 0)).2.1), .int .i64 ((O.getD k (0, 0, 0)).2.2)], (uf3 2), (uf3 3), (uf3 4), (uf3 5), (uf3 6), (uf3 7), (uf3 8), (uf3 9), (uf3 10), (uf3 11), (uf3 12), (uf3 13), (uf3 14), (uf3 15), (uf3 16), (uf3 17), (uf3 18), (uf3 19), (uf3 20), (uf3 21), (uf3 22), (uf3 23), (uf3 24), (uf3 25), (uf3 26), (uf3 27), (uf3 28), (uf3 29), (uf3 30), (uf3 31), (uf3 32), (uf3 33), (uf3 34), (uf3 35), (uf3 36), (uf3 37), (uf3 38), (uf3 39), (uf3 40), (uf3 41), (uf3 42), (uf3 43), (uf3 44), (uf3 45), (uf3 46), (uf3 47), (uf3 48), (uf3 49), .tuple #[.int .i64 0, .bool false], .pointer (some ⟨p, 0, none⟩), .pointer (some ⟨g8, 1, none⟩), .int .i64 ((O.getD k (0, 0, 0)).2.1), .tuple #[.int .i64 0, .bool false], .int .i64 0, .bool false, .pointer (some ⟨g8, 0, none⟩), .int .i64 ((O.getD k (0, 0, 0)).1), .bool true, .bool true, .bool false, .bool true, .bool true, .bool true, .pointer (some ⟨g8, 1, none⟩), .int .i64 ((O.getD k (0, 0, 0)).2.1), .bool true, .bool true, .bool true, .pointer (some ⟨g8, 1, none⟩), .int .i64 ((O.getD k (0, 0, 0)).2.1), .pointer (some ⟨g1, 0, none⟩), .pointer (some ⟨g1, 0, none⟩), .int .i64 r, .bool true, .bool true, .tuple #[.int .i64 (r + ((ru : Nat) : Int)), .int .i64 0], .pointer (some ⟨p, 0, none⟩), .tuple #[.int .i64 (r + ((ru : Nat) : Int)), .int .i64 0], .int .i64 (r + ((ru : Nat) : Int)), .int .i64 0, (uf1 90), (uf1 91), (uf1 92), (uf1 93), (uf1 94), (uf1 95), (uf1 96), (uf1 97), undef, undef, undef, undef, undef, undef, undef, undef, undef, undef, undef, undef, undef, undef, undef, undef, undef, undef, undef, undef, undef, undef, undef, undef, undef, undef, undef, undef, undef, undef, undef, undef, undef, undef, undef, undef, undef, undef, undef, undef, undef, undef, undef, undef, undef, undef, undef, undef, undef, undef, undef, undef, undef, undef, undef, undef], defers := [] } (by kernel_rfl) ?_
                    refine x_then ?_
                    refine x_seq ?_
                    refine x_region ?_
                    refine x_val (.int .i64 0) (by kernel_rfl) rfl (by kernel_rfl) ?_
                    refine x_val (.bool true) (by kernel_rfl) rfl (by kernel_rfl) ?_
                    refine x_nil ?_
                    refine x_then ?_
                    refine x_t (by kernel_rfl) ?_
                    refine x_region ?_
                    refine x_val (.pointer (some ⟨p, 0, none⟩)) (by kernel_rfl) rfl (by kernel_rfl) ?_
                    refine x_val (.pointer (some ⟨g8, 1, none⟩)) (by kernel_rfl) rfl (by kernel_rfl) ?_
                    refine x_load1 H 4 g8 1 #[.int .i64 ((O.getD k (0, 0, 0)).1), .int .i64 ((O.getD k (0, 0, 0)).2.1), .int .i64 ((O.getD k (0, 0, 0)).2.2)] 103 (.int .i64 ((O.getD k (0, 0, 0)).2.1)) (by kernel_rfl) (by kernel_rfl) (by kernel_rfl) rfl (by kernel_rfl) ?_
                    refine x_val (.int .i64 (r + ((ru : Nat) : Int))) (by kernel_rfl) rfl (by kernel_rfl) ?_
                    obtain ⟨qn, eq⟩ := Int.eq_ofNat_of_zero_le (show 0 ≤ (O.getD k (0, 0, 0)).2.1 by omega)
                    have hqn : qn < ns := by omega
                    have hsq := spB_no (q := qn) (by rw [← eq]; exact h14) hqn
                    have hzr : ((ru : Nat) : Int) < s := by have := U.hr; omega
                    have hM1 : MapOk z s sn pg ns _ _ _ _ (ru + 1) := ⟨U.st.hL, U.st.hD, U.hS, U.st.hp, by omega⟩
                    have Ur := U.rank r1' hqn hsq hzr
                    refine x_callH (.int .i64 0) [.blk p #[.int .i64 r, .int .i64 s, .int .i64 b, .int .i64 o, .int .i64 c, .int .i64 y, .int .i64 z, .slice (some ⟨gl, 0, none⟩) sn cl, .slice (some ⟨gd, 0, none⟩) pg cd, .slice (some ⟨gs, 0, none⟩) ns cs, .int .i64 ((pu : Nat) : Int), .int .i64 (((ru + 1) : Nat) : Int)] 181, .row (.slice (some ⟨gl, 0, none⟩) sn cl) 3 1 sn (List.map (Value.int .i64) L), .row (.slice (some ⟨gd, 0, none⟩) pg cd) 4 1 pg (List.map Value.bool D), .row (.slice (some ⟨gs, 0, none⟩) ns cs) 3 1 ns (List.map (Value.int .i64) (S.set qn (r + (ru : Int)))), .blk g8 #[.int .i64 ((O.getD k (0, 0, 0)).1), .int .i64 ((O.getD k (0, 0, 0)).2.1), .int .i64 ((O.getD k (0, 0, 0)).2.2)] 103, .blk g1 #[.int .i64 r, .int .i64 s, .int .i64 b, .int .i64 o, .int .i64 c, .int .i64 y, .int .i64 z] 69] (by kernel_rfl) rfl (by kernel_rfl) (Hs.use (A := [.blk p #[.int .i64 r, .int .i64 s, .int .i64 b, .int .i64 o, .int .i64 c, .int .i64 y, .int .i64 z, .slice (some ⟨gl, 0, none⟩) sn cl, .slice (some ⟨gd, 0, none⟩) pg cd, .slice (some ⟨gs, 0, none⟩) ns cs, .int .i64 ((pu : Nat) : Int), .int .i64 (((ru + 1) : Nat) : Int)] 181, .row (.slice (some ⟨gl, 0, none⟩) sn cl) 3 1 sn (List.map (Value.int .i64) L), .row (.slice (some ⟨gd, 0, none⟩) pg cd) 4 1 pg (List.map Value.bool D), .row (.slice (some ⟨gs, 0, none⟩) ns cs) 3 1 ns (List.map (Value.int .i64) S)]) (R := [.blk g8 #[.int .i64 ((O.getD k (0, 0, 0)).1), .int .i64 ((O.getD k (0, 0, 0)).2.1), .int .i64 ((O.getD k (0, 0, 0)).2.2)] 103, .blk g1 #[.int .i64 r, .int .i64 s, .int .i64 b, .int .i64 o, .int .i64 c, .int .i64 y, .int .i64 z] 69]) (H.pick [0, 1, 2, 3, 4, 5] _ (by decide) (by kernel_rfl)) (fun h => Replace_at hL hM1 _ eq (r + ((ru : Nat) : Int)) hqn (by omega) (by omega) hsq _ h)) ?_
                    clear H
                    intro v38 H
                    refine x_nil ?_
                    refine x_blk ?_
                    refine x_then ?_
                    refine x_region ?_
                    refine x_ar (((k : Nat) : Int) + 1) ⟨by omega, by omega⟩ (by kernel_rfl) rfl (by kernel_rfl) ?_
                    refine x_val (.int .i64 (((k : Nat) : Int) + 1)) (by kernel_rfl) rfl (by kernel_rfl) ?_
                    refine x_nil ?_
                    refine x_then ?_
                    replace H := H.pick [0, 1, 2, 3, 5] [.blk p #[.int .i64 r, .int .i64 s, .int .i64 b, .int .i64 o, .int .i64 c, .int .i64 y, .int .i64 z, .slice (some ⟨gl, 0, none⟩) sn cl, .slice (some ⟨gd, 0, none⟩) pg cd, .slice (some ⟨gs, 0, none⟩) ns cs, .int .i64 ((pu : Nat) : Int), .int .i64 (((ru + 1) : Nat) : Int)] 181, .row (.slice (some ⟨gl, 0, none⟩) sn cl) 3 1 sn (List.map (Value.int .i64) L), .row (.slice (some ⟨gd, 0, none⟩) pg cd) 4 1 pg (List.map Value.bool D), .row (.slice (some ⟨gs, 0, none⟩) ns cs) 3 1 ns (List.map (Value.int .i64) (S.set qn (r + (ru : Int)))), .blk g1 #[.int .i64 r, .int .i64 s, .int .i64 b, .int .i64 o, .int .i64 c, .int .i64 y, .int .i64 z] 69] (by decide) (by kernel_rfl)
                    exact ⟨(k + 1, L, D, (S.set qn (r + (ru : Int))), pu, (ru + 1)), (by dsimp only; omega), (nthV [.pointer (some ⟨g8, 0, none⟩), (uf3 0), (uf3 1), .int .i64 0, .bool false, .int .i64 (r + ((ru : Nat) : Int)), .int .i64 0, .bool true, .pointer (some ⟨ga, oa + k * 3, none⟩), .agg #[.int .i64 ((O.getD k (0, 0, 0)).1), .int .i64 ((O.getD k (0, 0, 0)).2.1), .int .i64 ((O.getD k (0, 0, 0)).2.2)], (uf3 2), (uf3 3), (uf3 4), (uf3 5), (uf3 6), (uf3 7), (uf3 8), (uf3 9), (uf3 10), (uf3 11), (uf3 12), (uf3 13), (uf3 14), (uf3 15), (uf3 16), (uf3 17), (uf3 18), (uf3 19), (uf3 20), (uf3 21), (uf3 22), (uf3 23), (uf3 24), (uf3 25), (uf3 26), (uf3 27), (uf3 28), (uf3 29), (uf3 30), (uf3 31), (uf3 32), (uf3 33), (uf3 34), (uf3 35), (uf3 36), (uf3 37), (uf3 38), (uf3 39), (uf3 40), (uf3 41), (uf3 42), (uf3 43), (uf3 44), (uf3 45), (uf3 46), (uf3 47), (uf3 48), (uf3 49), .tuple #[.int .i64 0, .bool false], .pointer (some ⟨p, 0, none⟩), .pointer (some ⟨g8, 1, none⟩), .int .i64 ((O.getD k (0, 0, 0)).2.1), .tuple #[.int .i64 0, .bool false], .int .i64 0, .bool false, .pointer (some ⟨g8, 0, none⟩), .int .i64 ((O.getD k (0, 0, 0)).1), .bool true, .bool true, .bool false, .bool true, .bool true, .bool true, .pointer (some ⟨g8, 1, none⟩), .int .i64 ((O.getD k (0, 0, 0)).2.1), .bool true, .bool true, .bool true, .pointer (some ⟨g8, 1, none⟩), .int .i64 ((O.getD k (0, 0, 0)).2.1), .pointer (some ⟨g1, 0, none⟩), .pointer (some ⟨g1, 0, none⟩), .int .i64 r, .bool true, .bool true, .tuple #[.int .i64 (r + ((ru : Nat) : Int)), .int .i64 0], .pointer (some ⟨p, 0, none⟩), .tuple #[.int .i64 (r + ((ru : Nat) : Int)), .int .i64 0], .int .i64 (r + ((ru : Nat) : Int)), .int .i64 0, .int .i64 0, .bool true, .pointer (some ⟨p, 0, none⟩), .pointer (some ⟨g8, 1, none⟩), .int .i64 ((O.getD k (0, 0, 0)).2.1), .int .i64 (r + ((ru : Nat) : Int)), .int .i64 0, .int .i64 (((k : Nat) : Int) + 1)]), (by kernel_rfl), H, (by omega), Ur⟩
                  · skip
                    have h18p := of_decide_eq_true h18
                    refine x_callH (.tuple #[.int .i64 0, .int .i64 52]) [.blk p #[.int .i64 r, .int .i64 s, .int .i64 b, .int .i64 o, .int .i64 c, .int .i64 y, .int .i64 z, .slice (some ⟨gl, 0, none⟩) sn cl, .slice (some ⟨gd, 0, none⟩) pg cd, .slice (some ⟨gs, 0, none⟩) ns cs, .int .i64 ((pu : Nat) : Int), .int .i64 ((ru : Nat) : Int)] 181, .row (.slice (some ⟨gl, 0, none⟩) sn cl) 3 1 sn (List.map (Value.int .i64) L), .row (.slice (some ⟨gd, 0, none⟩) pg cd) 4 1 pg (List.map Value.bool D), .row (.slice (some ⟨gs, 0, none⟩) ns cs) 3 1 ns (List.map (Value.int .i64) S), .blk g8 #[.int .i64 ((O.getD k (0, 0, 0)).1), .int .i64 ((O.getD k (0, 0, 0)).2.1), .int .i64 ((O.getD k (0, 0, 0)).2.2)] 103, .blk g1 #[.int .i64 r, .int .i64 s, .int .i64 b, .int .i64 o, .int .i64 c, .int .i64 y, .int .i64 z] 69] (by kernel_rfl) rfl (by kernel_rfl) (Hs.use (A := [.blk p #[.int .i64 r, .int .i64 s, .int .i64 b, .int .i64 o, .int .i64 c, .int .i64 y, .int .i64 z, .slice (some ⟨gl, 0, none⟩) sn cl, .slice (some ⟨gd, 0, none⟩) pg cd, .slice (some ⟨gs, 0, none⟩) ns cs, .int .i64 ((pu : Nat) : Int), .int .i64 ((ru : Nat) : Int)] 181, .row (.slice (some ⟨gl, 0, none⟩) sn cl) 3 1 sn (List.map (Value.int .i64) L), .row (.slice (some ⟨gd, 0, none⟩) pg cd) 4 1 pg (List.map Value.bool D), .row (.slice (some ⟨gs, 0, none⟩) ns cs) 3 1 ns (List.map (Value.int .i64) S)]) (R := [.blk g8 #[.int .i64 ((O.getD k (0, 0, 0)).1), .int .i64 ((O.getD k (0, 0, 0)).2.1), .int .i64 ((O.getD k (0, 0, 0)).2.2)] 103, .blk g1 #[.int .i64 r, .int .i64 s, .int .i64 b, .int .i64 o, .int .i64 c, .int .i64 y, .int .i64 z] 69]) (H.pick [1, 2, 3, 4, 0, 5] _ (by decide) (by kernel_rfl)) (fun h => TakeSpare_no hL U.mok (by omega) _ h)) ?_
                    clear H
                    intro v39 H
                    refine x_val (.tuple #[.int .i64 0, .int .i64 52]) (by kernel_rfl) rfl (by kernel_rfl) ?_
                    refine x_val (.int .i64 0) (by kernel_rfl) rfl (by kernel_rfl) ?_
                    refine x_val (.int .i64 52) (by kernel_rfl) rfl (by kernel_rfl) ?_
                    refine x_val (.int .i64 0) (by kernel_rfl) rfl (by kernel_rfl) ?_
                    refine x_val (.int .i64 52) (by kernel_rfl) rfl (by kernel_rfl) ?_
                    refine x_nil ?_
                    refine x_frame' { tmps := #[.agg #[.int .i64 r, .int .i64 s, .int .i64 b, .int .i64 o, .int .i64 c, .int .i64 y, .int .i64 z], .slice ad nA cA, .pointer (some ⟨g1, 0, none⟩), undef, .bool false, .pointer (some ⟨p, 0, none⟩), .int .i64 0, undef, .pointer (some ⟨g8, 0, none⟩), (uf3 0), (uf3 1), .int .i64 0, .bool false, .int .i64 0, .int .i64 52, undef, undef, undef, undef, undef, undef, undef, undef, undef, undef, .bool true, .bool false, .agg #[.int .i64 r, .int .i64 s, .int .i64 b, .int .i64 o, .int .i64 c, .int .i64 y, .int .i64 z], .bool true, .bool false, .bool false, .slice ad nA cA, .int .i64 ((nA : Nat) : Int), .bool false, .bool false, .tuple #[.pointer (some ⟨p, 0, none⟩), .int .i64 0], .agg #[.int .i64 r, .int .i64 s, .int .i64 b, .int .i64 o, .int .i64 c, .int .i64 y, .int .i64 z], .tuple #[.pointer (some ⟨p, 0, none⟩), .int .i64 0], .pointer (some ⟨p, 0, none⟩), .int .i64 0, .int .i64 0, .bool false, .bool false, .pointer (some ⟨p, 0, none⟩), .bool false, .bool false, undef, undef, .slice ad nA cA, .int .i64 ((nA : Nat) : Int), .int .i64 ((k : Nat) : Int), .bool true, .pointer (some ⟨ga, oa + k * 3, none⟩), .agg #[.int .i64 ((O.getD k (0, 0, 0)).1), .int .i64 ((O.getD k (0, 0, 0)).2.1), .int .i64 ((O.getD k (0, 0, 0)).2.2)], (uf3 2), (uf3 3), (uf3 4), (uf3 5), (uf3 6), (uf3 7), (uf3 8), (uf3 9), (uf3 10), (uf3 11), (uf3 12), (uf3 13), (uf3 14), (uf3 15), (uf3 16), (uf3 17), (uf3 18), (uf3 19), (uf3 20), (uf3 21), (uf3 22), (uf3 23), (uf3 24), (uf3 25), (uf3 26), (uf3 27), (uf3 28), (uf3 29), (uf3 30), (uf3 31), (uf3 32), (uf3 33), (uf3 34), (uf3 35), (uf3 36), (uf3 37), (uf3 38), (uf3 39), (uf3 40), (uf3 41), (uf3 42), (uf3 43), (uf3 44), (uf3 45), (uf3 46), (uf3 47), (uf3 48), (uf3 49), .tuple #[.int .i64 0, .bool false], .pointer (some ⟨p, 0, none⟩), .pointer (some ⟨g8, 1, none⟩), .int .i64 ((O.getD k (0, 0, 0)).2.1), .tuple #[.int .i64 0, .bool false], .int .i64 0, .bool false, .pointer (some ⟨g8, 0, none⟩), .int .i64 ((O.getD k (0, 0, 0)).1), .bool true, .bool true, .bool false, .bool true, .bool true, .bool true, .pointer (some ⟨g8, 1, none⟩), .int .i64 ((O.getD k (0, 0, 0)).2.1), .bool true, .bool true, .bool true, .pointer (some ⟨g8, 1, none⟩), .int .i64 ((O.getD k (0, 0, 0)).2.1), .pointer (some ⟨g1, 0, none⟩), .pointer (some ⟨g1, 0, none⟩), .int .i64 r, .bool true, .bool true, .tuple #[.int .i64 0, .int .i64 52], .pointer (some ⟨p, 0, none⟩), .tuple #[.int .i64 0, .int .i64 52], .int .i64 0, .int .i64 52, (uf1 90), (uf1 91), (uf1 92), (uf1 93), (uf1 94), (uf1 95), (uf1 96), (uf1 97), undef, undef, undef, undef, undef, undef, undef, undef, undef, undef, undef, undef, undef, undef, undef, undef, undef, undef, undef, undef, undef, undef, undef, undef, undef, undef, undef, undef, undef, undef, undef, undef, undef, undef, undef, undef, undef, undef, undef, undef, undef, undef, undef, undef, undef, undef, undef, undef, undef, undef, undef, undef, undef, undef, undef, undef], defers := [] } (by kernel_rfl) ?_
                    refine x_then ?_
                    refine x_seq ?_
                    refine x_region ?_
                    refine x_val (.int .i64 52) (by kernel_rfl) rfl (by kernel_rfl) ?_
                    refine x_val (.bool false) (by kernel_rfl) rfl (by kernel_rfl) ?_
                    refine x_nil ?_
                    refine x_then ?_
                    refine x_f (by kernel_rfl) ?_
                    refine x_skipc ?_
                    refine x_blk ?_
                    refine x_then ?_
                    refine x_region ?_
                    refine x_ar (((k : Nat) : Int) + 1) ⟨by omega, by omega⟩ (by kernel_rfl) rfl (by kernel_rfl) ?_
                    refine x_val (.int .i64 (((k : Nat) : Int) + 1)) (by kernel_rfl) rfl (by kernel_rfl) ?_
                    refine x_nil ?_
                    refine x_then ?_
                    replace H := H.pick [0, 1, 2, 3, 5] [.blk p #[.int .i64 r, .int .i64 s, .int .i64 b, .int .i64 o, .int .i64 c, .int .i64 y, .int .i64 z, .slice (some ⟨gl, 0, none⟩) sn cl, .slice (some ⟨gd, 0, none⟩) pg cd, .slice (some ⟨gs, 0, none⟩) ns cs, .int .i64 ((pu : Nat) : Int), .int .i64 ((ru : Nat) : Int)] 181, .row (.slice (some ⟨gl, 0, none⟩) sn cl) 3 1 sn (List.map (Value.int .i64) L), .row (.slice (some ⟨gd, 0, none⟩) pg cd) 4 1 pg (List.map Value.bool D), .row (.slice (some ⟨gs, 0, none⟩) ns cs) 3 1 ns (List.map (Value.int .i64) S), .blk g1 #[.int .i64 r, .int .i64 s, .int .i64 b, .int .i64 o, .int .i64 c, .int .i64 y, .int .i64 z] 69] (by decide) (by kernel_rfl)
                    exact ⟨(k + 1, L, D, S, pu, ru), (by dsimp only; omega), (nthV [.pointer (some ⟨g8, 0, none⟩), (uf3 0), (uf3 1), .int .i64 0, .bool false, .int .i64 0, .int .i64 52, .bool true, .pointer (some ⟨ga, oa + k * 3, none⟩), .agg #[.int .i64 ((O.getD k (0, 0, 0)).1), .int .i64 ((O.getD k (0, 0, 0)).2.1), .int .i64 ((O.getD k (0, 0, 0)).2.2)], (uf3 2), (uf3 3), (uf3 4), (uf3 5), (uf3 6), (uf3 7), (uf3 8), (uf3 9), (uf3 10), (uf3 11), (uf3 12), (uf3 13), (uf3 14), (uf3 15), (uf3 16), (uf3 17), (uf3 18), (uf3 19), (uf3 20), (uf3 21), (uf3 22), (uf3 23), (uf3 24), (uf3 25), (uf3 26), (uf3 27), (uf3 28), (uf3 29), (uf3 30), (uf3 31), (uf3 32), (uf3 33), (uf3 34), (uf3 35), (uf3 36), (uf3 37), (uf3 38), (uf3 39), (uf3 40), (uf3 41), (uf3 42), (uf3 43), (uf3 44), (uf3 45), (uf3 46), (uf3 47), (uf3 48), (uf3 49), .tuple #[.int .i64 0, .bool false], .pointer (some ⟨p, 0, none⟩), .pointer (some ⟨g8, 1, none⟩), .int .i64 ((O.getD k (0, 0, 0)).2.1), .tuple #[.int .i64 0, .bool false], .int .i64 0, .bool false, .pointer (some ⟨g8, 0, none⟩), .int .i64 ((O.getD k (0, 0, 0)).1), .bool true, .bool true, .bool false, .bool true, .bool true, .bool true, .pointer (some ⟨g8, 1, none⟩), .int .i64 ((O.getD k (0, 0, 0)).2.1), .bool true, .bool true, .bool true, .pointer (some ⟨g8, 1, none⟩), .int .i64 ((O.getD k (0, 0, 0)).2.1), .pointer (some ⟨g1, 0, none⟩), .pointer (some ⟨g1, 0, none⟩), .int .i64 r, .bool true, .bool true, .tuple #[.int .i64 0, .int .i64 52], .pointer (some ⟨p, 0, none⟩), .tuple #[.int .i64 0, .int .i64 52], .int .i64 0, .int .i64 52, .int .i64 52, .bool false, (uf1 92), (uf1 93), (uf1 94), (uf1 95), (uf1 96), .int .i64 (((k : Nat) : Int) + 1)]), (by kernel_rfl), H, (by omega), U⟩
          · skip
            refine x_callB (.tuple #[.int .i64 (S.getD ((O.getD k (0, 0, 0)).2.1).toNat 0), .bool true]) H (by kernel_rfl) rfl (by kernel_rfl) (Spare_atYes hL U ((O.getD k (0, 0, 0)).2.1) h14 _ (H.roOf [1, 2, 3, 4] [.blk p #[.int .i64 r, .int .i64 s, .int .i64 b, .int .i64 o, .int .i64 c, .int .i64 y, .int .i64 z, .slice (some ⟨gl, 0, none⟩) sn cl, .slice (some ⟨gd, 0, none⟩) pg cd, .slice (some ⟨gs, 0, none⟩) ns cs, .int .i64 ((pu : Nat) : Int), .int .i64 ((ru : Nat) : Int)] 181, .row (.slice (some ⟨gl, 0, none⟩) sn cl) 3 1 sn (List.map (Value.int .i64) L), .row (.slice (some ⟨gd, 0, none⟩) pg cd) 4 1 pg (List.map Value.bool D), .row (.slice (some ⟨gs, 0, none⟩) ns cs) 3 1 ns (List.map (Value.int .i64) S)] (by kernel_rfl))) ?_
            clear H
            intro v40 H
            refine x_val (.tuple #[.int .i64 (S.getD ((O.getD k (0, 0, 0)).2.1).toNat 0), .bool true]) (by kernel_rfl) rfl (by kernel_rfl) ?_
            refine x_val (.int .i64 (S.getD ((O.getD k (0, 0, 0)).2.1).toNat 0)) (by kernel_rfl) rfl (by kernel_rfl) ?_
            refine x_val (.bool true) (by kernel_rfl) rfl (by kernel_rfl) ?_
            refine x_val (.int .i64 (S.getD ((O.getD k (0, 0, 0)).2.1).toNat 0)) (by kernel_rfl) rfl (by kernel_rfl) ?_
            refine x_val (.bool true) (by kernel_rfl) rfl (by kernel_rfl) ?_
            refine x_nil ?_
            refine x_then ?_
            refine x_seq ?_
            refine x_region ?_
            refine x_val (.pointer (some ⟨g8, 0, none⟩)) (by kernel_rfl) rfl (by kernel_rfl) ?_
            refine x_load1 H 0 g8 0 #[.int .i64 ((O.getD k (0, 0, 0)).1), .int .i64 ((O.getD k (0, 0, 0)).2.1), .int .i64 ((O.getD k (0, 0, 0)).2.2)] 103 (.int .i64 ((O.getD k (0, 0, 0)).1)) (by kernel_rfl) (by kernel_rfl) (by kernel_rfl) rfl (by kernel_rfl) ?_
            refine x_val (.bool (decide (((O.getD k (0, 0, 0)).1) = 4))) (by kernel_rfl) rfl (by kernel_rfl) ?_
            refine x_val (.bool (decide (((O.getD k (0, 0, 0)).1) = 4))) (by kernel_rfl) rfl (by kernel_rfl) ?_
            cases h19 : decide (((O.getD k (0, 0, 0)).1) = 4)
            · skip
              have h19p := of_decide_eq_false h19
              refine x_skip (by kernel_rfl) ?_
              refine x_skip (by kernel_rfl) ?_
              refine x_val (.bool false) (by kernel_rfl) rfl (by kernel_rfl) ?_
              refine x_val (.bool false) (by kernel_rfl) rfl (by kernel_rfl) ?_
              refine x_skip (by kernel_rfl) ?_
              refine x_skip (by kernel_rfl) ?_
              refine x_skip (by kernel_rfl) ?_
              refine x_val (.bool false) (by kernel_rfl) rfl (by kernel_rfl) ?_
              refine x_val (.bool false) (by kernel_rfl) rfl (by kernel_rfl) ?_
              refine x_skip (by kernel_rfl) ?_
              refine x_skip (by kernel_rfl) ?_
              refine x_skip (by kernel_rfl) ?_
              refine x_skip (by kernel_rfl) ?_
              refine x_skip (by kernel_rfl) ?_
              refine x_skip (by kernel_rfl) ?_
              refine x_val (.bool false) (by kernel_rfl) rfl (by kernel_rfl) ?_
              refine x_nil ?_
              refine x_then ?_
              refine x_f (by kernel_rfl) ?_
              refine x_skipc ?_
              refine x_blk ?_
              refine x_then ?_
              refine x_region ?_
              refine x_ar (((k : Nat) : Int) + 1) ⟨by omega, by omega⟩ (by kernel_rfl) rfl (by kernel_rfl) ?_
              refine x_val (.int .i64 (((k : Nat) : Int) + 1)) (by kernel_rfl) rfl (by kernel_rfl) ?_
              refine x_nil ?_
              refine x_frame' { tmps := #[.agg #[.int .i64 r, .int .i64 s, .int .i64 b, .int .i64 o, .int .i64 c, .int .i64 y, .int .i64 z], .slice ad nA cA, .pointer (some ⟨g1, 0, none⟩), undef, .bool false, .pointer (some ⟨p, 0, none⟩), .int .i64 0, undef, .pointer (some ⟨g8, 0, none⟩), (uf3 0), (uf3 1), .int .i64 (S.getD ((O.getD k (0, 0, 0)).2.1).toNat 0), .bool true, (uf1 5), (uf1 6), undef, undef, undef, undef, undef, undef, undef, undef, undef, undef, .bool true, .bool false, .agg #[.int .i64 r, .int .i64 s, .int .i64 b, .int .i64 o, .int .i64 c, .int .i64 y, .int .i64 z], .bool true, .bool false, .bool false, .slice ad nA cA, .int .i64 ((nA : Nat) : Int), .bool false, .bool false, .tuple #[.pointer (some ⟨p, 0, none⟩), .int .i64 0], .agg #[.int .i64 r, .int .i64 s, .int .i64 b, .int .i64 o, .int .i64 c, .int .i64 y, .int .i64 z], .tuple #[.pointer (some ⟨p, 0, none⟩), .int .i64 0], .pointer (some ⟨p, 0, none⟩), .int .i64 0, .int .i64 0, .bool false, .bool false, .pointer (some ⟨p, 0, none⟩), .bool false, .bool false, undef, undef, .slice ad nA cA, .int .i64 ((nA : Nat) : Int), .int .i64 (((k : Nat) : Int) + 1), .bool true, .pointer (some ⟨ga, oa + k * 3, none⟩), .agg #[.int .i64 ((O.getD k (0, 0, 0)).1), .int .i64 ((O.getD k (0, 0, 0)).2.1), .int .i64 ((O.getD k (0, 0, 0)).2.2)], (uf3 2), (uf3 3), (uf3 4), (uf3 5), (uf3 6), (uf3 7), (uf3 8), (uf3 9), (uf3 10), (uf3 11), (uf3 12), (uf3 13), (uf3 14), (uf3 15), (uf3 16), (uf3 17), (uf3 18), (uf3 19), (uf3 20), (uf3 21), (uf3 22), (uf3 23), (uf3 24), (uf3 25), (uf3 26), (uf3 27), (uf3 28), (uf3 29), (uf3 30), (uf3 31), (uf3 32), (uf3 33), (uf3 34), (uf3 35), (uf3 36), (uf3 37), (uf3 38), (uf3 39), (uf3 40), (uf3 41), (uf3 42), (uf3 43), (uf3 44), (uf3 45), (uf3 46), (uf3 47), (uf3 48), (uf3 49), .tuple #[.int .i64 (S.getD ((O.getD k (0, 0, 0)).2.1).toNat 0), .bool true], .pointer (some ⟨p, 0, none⟩), .pointer (some ⟨g8, 1, none⟩), .int .i64 ((O.getD k (0, 0, 0)).2.1), .tuple #[.int .i64 (S.getD ((O.getD k (0, 0, 0)).2.1).toNat 0), .bool true], .int .i64 (S.getD ((O.getD k (0, 0, 0)).2.1).toNat 0), .bool true, .pointer (some ⟨g8, 0, none⟩), .int .i64 ((O.getD k (0, 0, 0)).1), .bool false, .bool false, undef, undef, .bool false, .bool false, undef, undef, undef, .bool false, .bool false, undef, undef, undef, undef, undef, undef, .bool false, (uf1 85), (uf1 86), (uf1 87), (uf1 88), (uf1 89), (uf1 90), (uf1 91), (uf1 92), (uf1 93), (uf1 94), (uf1 95), (uf1 96), .int .i64 (((k : Nat) : Int) + 1), undef, undef, undef, undef, undef, undef, undef, undef, undef, undef, undef, undef, undef, undef, undef, undef, undef, undef, undef, undef, undef, undef, undef, undef, undef, undef, undef, undef, undef, undef, undef, undef, undef, undef, undef, undef, undef, undef, undef, undef, undef, undef, undef, undef, undef, undef, undef, undef, undef, undef, undef, undef, undef, undef, undef, undef], defers := [] } (by kernel_rfl) ?_
              refine x_then ?_
              replace H := H.pick [1, 2, 3, 4, 5] [.blk p #[.int .i64 r, .int .i64 s, .int .i64 b, .int .i64 o, .int .i64 c, .int .i64 y, .int .i64 z, .slice (some ⟨gl, 0, none⟩) sn cl, .slice (some ⟨gd, 0, none⟩) pg cd, .slice (some ⟨gs, 0, none⟩) ns cs, .int .i64 ((pu : Nat) : Int), .int .i64 ((ru : Nat) : Int)] 181, .row (.slice (some ⟨gl, 0, none⟩) sn cl) 3 1 sn (List.map (Value.int .i64) L), .row (.slice (some ⟨gd, 0, none⟩) pg cd) 4 1 pg (List.map Value.bool D), .row (.slice (some ⟨gs, 0, none⟩) ns cs) 3 1 ns (List.map (Value.int .i64) S), .blk g1 #[.int .i64 r, .int .i64 s, .int .i64 b, .int .i64 o, .int .i64 c, .int .i64 y, .int .i64 z] 69] (by decide) (by kernel_rfl)
              exact ⟨(k + 1, L, D, S, pu, ru), (by dsimp only; omega), (nthV [.pointer (some ⟨g8, 0, none⟩), (uf3 0), (uf3 1), .int .i64 (S.getD ((O.getD k (0, 0, 0)).2.1).toNat 0), .bool true, (uf1 5), (uf1 6), .bool true, .pointer (some ⟨ga, oa + k * 3, none⟩), .agg #[.int .i64 ((O.getD k (0, 0, 0)).1), .int .i64 ((O.getD k (0, 0, 0)).2.1), .int .i64 ((O.getD k (0, 0, 0)).2.2)], (uf3 2), (uf3 3), (uf3 4), (uf3 5), (uf3 6), (uf3 7), (uf3 8), (uf3 9), (uf3 10), (uf3 11), (uf3 12), (uf3 13), (uf3 14), (uf3 15), (uf3 16), (uf3 17), (uf3 18), (uf3 19), (uf3 20), (uf3 21), (uf3 22), (uf3 23), (uf3 24), (uf3 25), (uf3 26), (uf3 27), (uf3 28), (uf3 29), (uf3 30), (uf3 31), (uf3 32), (uf3 33), (uf3 34), (uf3 35), (uf3 36), (uf3 37), (uf3 38), (uf3 39), (uf3 40), (uf3 41), (uf3 42), (uf3 43), (uf3 44), (uf3 45), (uf3 46), (uf3 47), (uf3 48), (uf3 49), .tuple #[.int .i64 (S.getD ((O.getD k (0, 0, 0)).2.1).toNat 0), .bool true], .pointer (some ⟨p, 0, none⟩), .pointer (some ⟨g8, 1, none⟩), .int .i64 ((O.getD k (0, 0, 0)).2.1), .tuple #[.int .i64 (S.getD ((O.getD k (0, 0, 0)).2.1).toNat 0), .bool true], .int .i64 (S.getD ((O.getD k (0, 0, 0)).2.1).toNat 0), .bool true, .pointer (some ⟨g8, 0, none⟩), .int .i64 ((O.getD k (0, 0, 0)).1), .bool false, .bool false, undef, undef, .bool false, .bool false, undef, undef, undef, .bool false, .bool false, undef, undef, undef, undef, undef, undef, .bool false, (uf1 85), (uf1 86), (uf1 87), (uf1 88), (uf1 89), (uf1 90), (uf1 91), (uf1 92), (uf1 93), (uf1 94), (uf1 95), (uf1 96), .int .i64 (((k : Nat) : Int) + 1)]), (by kernel_rfl), H, (by omega), U⟩
            · skip
              have h19p := of_decide_eq_true h19
              refine x_val (.bool true) (by kernel_rfl) rfl (by kernel_rfl) ?_
              refine x_val (.bool false) (by kernel_rfl) rfl (by kernel_rfl) ?_
              refine x_val (.bool false) (by kernel_rfl) rfl (by kernel_rfl) ?_
              refine x_val (.bool false) (by kernel_rfl) rfl (by kernel_rfl) ?_
              refine x_skip (by kernel_rfl) ?_
              refine x_skip (by kernel_rfl) ?_
              refine x_skip (by kernel_rfl) ?_
              refine x_val (.bool false) (by kernel_rfl) rfl (by kernel_rfl) ?_
              refine x_val (.bool false) (by kernel_rfl) rfl (by kernel_rfl) ?_
              refine x_skip (by kernel_rfl) ?_
              refine x_skip (by kernel_rfl) ?_
              refine x_skip (by kernel_rfl) ?_
              refine x_skip (by kernel_rfl) ?_
              refine x_skip (by kernel_rfl) ?_
              refine x_skip (by kernel_rfl) ?_
              refine x_val (.bool false) (by kernel_rfl) rfl (by kernel_rfl) ?_
              refine x_nil ?_
              refine x_then ?_
              refine x_f (by kernel_rfl) ?_
              refine x_skipc ?_
              refine x_blk ?_
              refine x_then ?_
              refine x_region ?_
              refine x_ar (((k : Nat) : Int) + 1) ⟨by omega, by omega⟩ (by kernel_rfl) rfl (by kernel_rfl) ?_
              refine x_val (.int .i64 (((k : Nat) : Int) + 1)) (by kernel_rfl) rfl (by kernel_rfl) ?_
              refine x_nil ?_
              refine x_frame' { tmps := #[.agg #[.int .i64 r, .int .i64 s, .int .i64 b, .int .i64 o, .int .i64 c, .int .i64 y, .int .i64 z], .slice ad nA cA, .pointer (some ⟨g1, 0, none⟩), undef, .bool false, .pointer (some ⟨p, 0, none⟩), .int .i64 0, undef, .pointer (some ⟨g8, 0, none⟩), (uf3 0), (uf3 1), .int .i64 (S.getD ((O.getD k (0, 0, 0)).2.1).toNat 0), .bool true, (uf1 5), (uf1 6), undef, undef, undef, undef, undef, undef, undef, undef, undef, undef, .bool true, .bool false, .agg #[.int .i64 r, .int .i64 s, .int .i64 b, .int .i64 o, .int .i64 c, .int .i64 y, .int .i64 z], .bool true, .bool false, .bool false, .slice ad nA cA, .int .i64 ((nA : Nat) : Int), .bool false, .bool false, .tuple #[.pointer (some ⟨p, 0, none⟩), .int .i64 0], .agg #[.int .i64 r, .int .i64 s, .int .i64 b, .int .i64 o, .int .i64 c, .int .i64 y, .int .i64 z], .tuple #[.pointer (some ⟨p, 0, none⟩), .int .i64 0], .pointer (some ⟨p, 0, none⟩), .int .i64 0, .int .i64 0, .bool false, .bool false, .pointer (some ⟨p, 0, none⟩), .bool false, .bool false, undef, undef, .slice ad nA cA, .int .i64 ((nA : Nat) : Int), .int .i64 (((k : Nat) : Int) + 1), .bool true, .pointer (some ⟨ga, oa + k * 3, none⟩), .agg #[.int .i64 ((O.getD k (0, 0, 0)).1), .int .i64 ((O.getD k (0, 0, 0)).2.1), .int .i64 ((O.getD k (0, 0, 0)).2.2)], (uf3 2), (uf3 3), (uf3 4), (uf3 5), (uf3 6), (uf3 7), (uf3 8), (uf3 9), (uf3 10), (uf3 11), (uf3 12), (uf3 13), (uf3 14), (uf3 15), (uf3 16), (uf3 17), (uf3 18), (uf3 19), (uf3 20), (uf3 21), (uf3 22), (uf3 23), (uf3 24), (uf3 25), (uf3 26), (uf3 27), (uf3 28), (uf3 29), (uf3 30), (uf3 31), (uf3 32), (uf3 33), (uf3 34), (uf3 35), (uf3 36), (uf3 37), (uf3 38), (uf3 39), (uf3 40), (uf3 41), (uf3 42), (uf3 43), (uf3 44), (uf3 45), (uf3 46), (uf3 47), (uf3 48), (uf3 49), .tuple #[.int .i64 (S.getD ((O.getD k (0, 0, 0)).2.1).toNat 0), .bool true], .pointer (some ⟨p, 0, none⟩), .pointer (some ⟨g8, 1, none⟩), .int .i64 ((O.getD k (0, 0, 0)).2.1), .tuple #[.int .i64 (S.getD ((O.getD k (0, 0, 0)).2.1).toNat 0), .bool true], .int .i64 (S.getD ((O.getD k (0, 0, 0)).2.1).toNat 0), .bool true, .pointer (some ⟨g8, 0, none⟩), .int .i64 ((O.getD k (0, 0, 0)).1), .bool true, .bool true, .bool true, .bool false, .bool false, .bool false, undef, undef, undef, .bool false, .bool false, undef, undef, undef, undef, undef, undef, .bool false, (uf1 85), (uf1 86), (uf1 87), (uf1 88), (uf1 89), (uf1 90), (uf1 91), (uf1 92), (uf1 93), (uf1 94), (uf1 95), (uf1 96), .int .i64 (((k : Nat) : Int) + 1), undef, undef, undef, undef, undef, undef, undef, undef, undef, undef, undef, undef, undef, undef, undef, undef, undef, undef, undef, undef, undef, undef, undef, undef, undef, undef, undef, undef, undef, undef, undef, undef, undef, undef, undef, undef, undef, undef, undef, undef, undef, undef, undef, undef, undef, undef, undef, undef, undef, undef, undef, undef, undef, undef, undef, undef], defers := [] } (by kernel_rfl) ?_
              refine x_then ?_
              replace H := H.pick [1, 2, 3, 4, 5] [.blk p #[.int .i64 r, .int .i64 s, .int .i64 b, .int .i64 o, .int .i64 c, .int .i64 y, .int .i64 z, .slice (some ⟨gl, 0, none⟩) sn cl, .slice (some ⟨gd, 0, none⟩) pg cd, .slice (some ⟨gs, 0, none⟩) ns cs, .int .i64 ((pu : Nat) : Int), .int .i64 ((ru : Nat) : Int)] 181, .row (.slice (some ⟨gl, 0, none⟩) sn cl) 3 1 sn (List.map (Value.int .i64) L), .row (.slice (some ⟨gd, 0, none⟩) pg cd) 4 1 pg (List.map Value.bool D), .row (.slice (some ⟨gs, 0, none⟩) ns cs) 3 1 ns (List.map (Value.int .i64) S), .blk g1 #[.int .i64 r, .int .i64 s, .int .i64 b, .int .i64 o, .int .i64 c, .int .i64 y, .int .i64 z] 69] (by decide) (by kernel_rfl)
              exact ⟨(k + 1, L, D, S, pu, ru), (by dsimp only; omega), (nthV [.pointer (some ⟨g8, 0, none⟩), (uf3 0), (uf3 1), .int .i64 (S.getD ((O.getD k (0, 0, 0)).2.1).toNat 0), .bool true, (uf1 5), (uf1 6), .bool true, .pointer (some ⟨ga, oa + k * 3, none⟩), .agg #[.int .i64 ((O.getD k (0, 0, 0)).1), .int .i64 ((O.getD k (0, 0, 0)).2.1), .int .i64 ((O.getD k (0, 0, 0)).2.2)], (uf3 2), (uf3 3), (uf3 4), (uf3 5), (uf3 6), (uf3 7), (uf3 8), (uf3 9), (uf3 10), (uf3 11), (uf3 12), (uf3 13), (uf3 14), (uf3 15), (uf3 16), (uf3 17), (uf3 18), (uf3 19), (uf3 20), (uf3 21), (uf3 22), (uf3 23), (uf3 24), (uf3 25), (uf3 26), (uf3 27), (uf3 28), (uf3 29), (uf3 30), (uf3 31), (uf3 32), (uf3 33), (uf3 34), (uf3 35), (uf3 36), (uf3 37), (uf3 38), (uf3 39), (uf3 40), (uf3 41), (uf3 42), (uf3 43), (uf3 44), (uf3 45), (uf3 46), (uf3 47), (uf3 48), (uf3 49), .tuple #[.int .i64 (S.getD ((O.getD k (0, 0, 0)).2.1).toNat 0), .bool true], .pointer (some ⟨p, 0, none⟩), .pointer (some ⟨g8, 1, none⟩), .int .i64 ((O.getD k (0, 0, 0)).2.1), .tuple #[.int .i64 (S.getD ((O.getD k (0, 0, 0)).2.1).toNat 0), .bool true], .int .i64 (S.getD ((O.getD k (0, 0, 0)).2.1).toNat 0), .bool true, .pointer (some ⟨g8, 0, none⟩), .int .i64 ((O.getD k (0, 0, 0)).1), .bool true, .bool true, .bool true, .bool false, .bool false, .bool false, undef, undef, undef, .bool false, .bool false, undef, undef, undef, undef, undef, undef, .bool false, (uf1 85), (uf1 86), (uf1 87), (uf1 88), (uf1 89), (uf1 90), (uf1 91), (uf1 92), (uf1 93), (uf1 94), (uf1 95), (uf1 96), .int .i64 (((k : Nat) : Int) + 1)]), (by kernel_rfl), H, (by omega), U⟩
    · skip
      have h2p := of_decide_eq_true h2
      refine x_t (by kernel_rfl) ?_
      refine x_seq ?_
      refine x_region ?_
      refine x_val (.bool true) (by kernel_rfl) rfl (by kernel_rfl) ?_
      refine x_nil ?_
      refine x_then ?_
      refine x_retc ?_
      refine x_then_ret ?_
      refine x_ret (.bool true) (by kernel_rfl) (by kernel_rfl) ?_
      exact ⟨rfl, H.below⟩

end Go.Proofs.Ytgpalgbdacoagaa
