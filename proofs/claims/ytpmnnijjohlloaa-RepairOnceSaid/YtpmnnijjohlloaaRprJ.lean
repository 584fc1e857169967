/- The laws of repairs: small, anchor, started, step. -/
import Derived.Test.YtpmnnijjohlloaaRprH
import Derived.Test.YtpmnnijjohlloaaPxZ
namespace Go.Proofs.Ytpmnnijjohlloaa
open Go Go.RowKit
set_option linter.unusedVariables false
set_option linter.unusedSimpArgs false
def D21.new : D21 := ⟨.slice none 0 0, .slice none 0 0, .slice none 0 0, [], [], [], none, 0, 0⟩
section
variable {r s b o c y z : Int} {sn pg ns : Nat} {x : Rp}
theorem Rp.askV_len (a : Ent) : (x.askV r s z sn ns a).length ≤ 1 := by
  unfold Rp.askV
  split
  · simp
  · split
    · simp
    · split <;> simp
theorem Rp.drain_len : ∀ (Q : List Ent) (x : Rp), (Rp.drain r s z sn ns x Q).2.length ≤ Q.length
  | [], x => by rw [Rp.drain]; exact Nat.le_refl _
  | a :: q, x => by
    rw [Rp.drain]
    split
    · split
      · have := Rp.drain_len q x; rw [List.length_cons]; omega
      · have := Rp.drain_len q (x.start r s z sn a); simp only [List.length_cons]; omega
    · exact Nat.zero_le _
theorem Rp.step_len (h : x.Q.length ≤ 256) : (x.step r s z sn pg ns b o c).2.length ≤ 257 := by
  unfold Rp.step
  split
  · exact Nat.zero_le _
  · split
    · have := Rp.drain_len (r := r) (s := s) (z := z) (sn := sn) (ns := ns) x.next.Q ((x.next).done r sn pg ns)
      have e : x.next.Q = x.Q := rfl
      unfold Rp.fin; rw [e] at this ⊢; simp only [List.length_cons]; omega
    · exact Nat.zero_le _
end
theorem layR : Lay 1 0 1 4 1 0 1 4 3 1 := ⟨by decide, by decide, by decide, by decide, by decide, by decide, by decide, by decide, by decide, by decide, by decide, by decide, by decide, by decide, by decide, by decide, by decide, by decide, by decide, by decide, by decide, by decide⟩
set_option maxRecDepth 100000 in
set_option maxHeartbeats 4000000 in
theorem small21_any (r s b o c y z : Int) (hr : r ≤ 9223372036854775807) (hb : b ≤ 9223372036854775807) (ho : o ≤ 9223372036854775807) (hc : c ≤ 9223372036854775807) (w0 : World) :
    Calls Try.prog 37 #[.agg #[.int .i64 r, .int .i64 s, .int .i64 b, .int .i64 o, .int .i64 c, .int .i64 y, .int .i64 z]] w0 fun e w' => ∃ t : Bool, e = .returned (.bool t) ∧ Below w0.heap.size w0 w' := by
  refine z_enter Try.func37 rfl ?_
  have H := Hs.nil w0
  refine x_seq <| x_region <| z_box H #[.int .i64 r, .int .i64 s, .int .i64 b, .int .i64 o, .int .i64 c, .int .i64 y, .int .i64 z] 25 (fun v1 g1 H => ?_)
  refine x_b H [.m] <| x_nil <| x_then <| x_seq <| x_region <| x_b H [.m, .n 0 0 5 23] <| z_box H #[.int .i64 0, .int .i64 0, .int .i64 0, .int .i64 0, .int .i64 0] 23 (fun v2 g2 H => ?_)
  refine z_store H 0 0 [.int .i64 r, .int .i64 s, .int .i64 b, .int .i64 o, .int .i64 c] (fun v3 H => ?_)
  refine x_nil <| x_then <| x_seq <| x_region <| x_b H [.n 0 0 5 23] <| z_callB (v := .bool (geomOk r s b o c)) H (G7Right _ _ _ _ _ _) fun v4 H => x_b H [.v (.bool (!(geomOk r s b o c))), .v (.bool (!(geomOk r s b o c)))] ?_
  cases h1 : geomOk r s b o c
  · skip
    refine x_b H [.k, .k, .k, .k, .k, .k, .k, .k, .k, .k, .k, .k, .k, .k, .k, .m, .m] <| x_nil <| x_then <| x_retc <| x_ret (.bool true) (by kernel_rfl) (by kernel_rfl) ?_
    exact ⟨_, rfl, H.below⟩
  obtain ⟨⟨d1, d2⟩, ⟨d3, d4⟩, ⟨d5, d6⟩, ⟨d7, d8⟩, ⟨d9, d10⟩, _⟩ := geom_bd h1
  obtain ⟨x1, x2⟩ := mul_bd (p := 8) (q := 16) (show 0 ≤ r + s by omega) (by omega) (show 0 ≤ b by omega) (by omega)
  obtain ⟨x3, x4⟩ := mul_bd (p := 128) (q := 1024) (show 0 ≤ (r + s) * b by omega) (by omega) (show 0 ≤ o by omega) (by omega)
  obtain ⟨x5, x6⟩ := mul_bd (p := 131072) (q := 64) (show 0 ≤ (r + s) * b * o by omega) (by omega) (show 0 ≤ c by omega) (by omega)
  refine x_b H [.m, .l 0 0, .m, .l 0 1] <| z_ar (r + s) <| x_b H [.m, .l 0 2] <| z_ar ((r + s) * b) <| x_b H [.m, .l 0 3] <| z_ar (((r + s) * b) * o) <| x_b H [.m, .l 0 4] ?_
  refine z_ar ((((r + s) * b) * o) * c) <| x_b H [.v (.bool (decide (((((r + s) * b) * o) * c) ≤ 300))), .v (.bool (decide (((((r + s) * b) * o) * c) ≤ 300))), .v (.bool (decide (((((r + s) * b) * o) * c) ≤ 300)))] <| x_nil <| x_then <| x_retc <| x_ret (.bool (decide (((((r + s) * b) * o) * c) ≤ 300))) (by kernel_rfl) (by kernel_rfl) ?_
  exact ⟨_, rfl, H.below⟩
set_option maxRecDepth 100000 in
set_option maxHeartbeats 4000000 in
theorem anchor21 (w0 : World) :
    Calls Try.prog 36 #[] w0 fun e w' => e = .returned (.bool true) ∧ Below w0.heap.size w0 w' := by
  refine z_enter Try.func36 rfl ?_
  have H := Hs.nil w0
  obtain ⟨X0, eX0⟩ : ∃ X, X = (Rp.new 3 4 1) := ⟨_, rfl⟩
  have hx0 : RpOk 1 0 1 4 1 1 3 4 1 X0 := by rw [eX0]; exact RpOk.new layR
  have hk0 : RgOk (List.replicate 256 ((0, 0) : Ent)) 0 0 X0.Q := by rw [eX0]; exact RgOk.new
  have hx1 := hx0.ask layR (1, 0)
  have hx2 := hx1.ask layR (1, 1)
  refine x_seq <| x_region <| x_b H [.m] <| x_nil <| x_then <| x_seq <| x_region ?_
  refine x_b H [.m, .m] <| z_call (RNew_yes layR _) ?_
  rintro _ v1 ⟨⟨p, gl, cl, gd, cd, gs, cs⟩, ⟨q, gq, cq⟩, rp, rfl, hN'⟩
  refine ⟨_, rfl, ?_⟩
  replace H := H.more hN'
  clear hN'
  rw [← eX0] at H
  refine x_b H [.m, .m, .m, .m, .m] <| x_nil <| x_then <| x_seq <| x_seq <| x_region <| x_b H [.m, .m, .m, .m, .m, .m] ?_
  refine x_nil <| x_then <| x_f (by kernel_rfl) <| x_skipc <| x_then <| x_seq <| x_region ?_
  refine x_b H [.m, .m] <| z_call (H.useEP [0, 1, 2, 3, 4, 5, 6] (fun h => ask_of layR hx0 hk0 (1, 0) _ h)) ?_
  rintro _ v2 ⟨⟨u1, ls1, ra1, qn1⟩, rfl, H', hk1⟩
  refine ⟨_, rfl, ?_⟩
  clear H
  have H := hsCast H' (L2 := [.row (u1) 81 3 (List.length (Rp.askV 1 0 1 3 1 X0 (1, 0))) (List.flatMap int3L (Rp.askV 1 0 1 3 1 X0 (1, 0))), .blk rp #[.pointer (some ⟨p, 0, none⟩), .int .i64 (((Rp.ask 1 0 1 3 1 X0 (1, 0)).j).1), .int .i64 (((Rp.ask 1 0 1 3 1 X0 (1, 0)).j).2.1), .int .i64 (((Rp.ask 1 0 1 3 1 X0 (1, 0)).j).2.2.1), .int .i64 (((Rp.ask 1 0 1 3 1 X0 (1, 0)).j).2.2.2), .pointer (some ⟨q, 0, none⟩)] 133, .blk p #[.int .i64 1, .int .i64 0, .int .i64 1, .int .i64 4, .int .i64 1, .int .i64 0, .int .i64 1, .slice (some ⟨gl, 0, none⟩) 3 cl, .slice (some ⟨gd, 0, none⟩) 4 cd, .slice (some ⟨gs, 0, none⟩) 1 cs, .int .i64 (((Rp.ask 1 0 1 3 1 X0 (1, 0)).pu : Nat) : Int), .int .i64 (((Rp.ask 1 0 1 3 1 X0 (1, 0)).ru : Nat) : Int)] 118, .row (.slice (some ⟨gl, 0, none⟩) 3 cl) 3 1 3 (List.map (Value.int .i64) ((Rp.ask 1 0 1 3 1 X0 (1, 0)).L)), .row (.slice (some ⟨gd, 0, none⟩) 4 cd) 4 1 4 (List.map Value.bool ((Rp.ask 1 0 1 3 1 X0 (1, 0)).D)), .row (.slice (some ⟨gs, 0, none⟩) 1 cs) 3 1 1 (List.map (Value.int .i64) ((Rp.ask 1 0 1 3 1 X0 (1, 0)).S)), .blk q #[.slice (some ⟨gq, 0, none⟩) 256 cq, .int .i64 (ra1 : Int), .int .i64 (qn1 : Int)] 170, .row (.slice (some ⟨gq, 0, none⟩) 256 cq) 72 2 256 (List.flatMap entL ls1)]) (by kernel_rfl)
  clear H'
  obtain ⟨E1, eE1⟩ : ∃ l : List Int3, l = (Rp.askV 1 0 1 3 1 X0 (1, 0)) := ⟨_, rfl⟩
  rw [← eE1] at H
  replace eE1 : E1 = [(3, 0, 3)] := eE1.trans (by rw [eX0]; decide +kernel)
  obtain ⟨gu1, cu1, rfl, -⟩ := rowSome (H.ok 0 _ rfl) (by rw [eE1]; decide)
  replace H := hsCast H (L2 := [.row (.slice (some ⟨gu1, 0, none⟩) (List.length E1) cu1) 81 3 (List.length E1) (List.flatMap int3L E1), .blk rp #[.pointer (some ⟨p, 0, none⟩), .int .i64 (((Rp.ask 1 0 1 3 1 X0 (1, 0)).j).1), .int .i64 (((Rp.ask 1 0 1 3 1 X0 (1, 0)).j).2.1), .int .i64 (((Rp.ask 1 0 1 3 1 X0 (1, 0)).j).2.2.1), .int .i64 (((Rp.ask 1 0 1 3 1 X0 (1, 0)).j).2.2.2), .pointer (some ⟨q, 0, none⟩)] 133, .blk p #[.int .i64 1, .int .i64 0, .int .i64 1, .int .i64 4, .int .i64 1, .int .i64 0, .int .i64 1, .slice (some ⟨gl, 0, none⟩) 3 cl, .slice (some ⟨gd, 0, none⟩) 4 cd, .slice (some ⟨gs, 0, none⟩) 1 cs, .int .i64 (((Rp.ask 1 0 1 3 1 X0 (1, 0)).pu : Nat) : Int), .int .i64 (((Rp.ask 1 0 1 3 1 X0 (1, 0)).ru : Nat) : Int)] 118, .row (.slice (some ⟨gl, 0, none⟩) 3 cl) 3 1 3 (List.map (Value.int .i64) ((Rp.ask 1 0 1 3 1 X0 (1, 0)).L)), .row (.slice (some ⟨gd, 0, none⟩) 4 cd) 4 1 4 (List.map Value.bool ((Rp.ask 1 0 1 3 1 X0 (1, 0)).D)), .row (.slice (some ⟨gs, 0, none⟩) 1 cs) 3 1 1 (List.map (Value.int .i64) ((Rp.ask 1 0 1 3 1 X0 (1, 0)).S)), .blk q #[.slice (some ⟨gq, 0, none⟩) 256 cq, .int .i64 (ra1 : Int), .int .i64 (qn1 : Int)] 170, .row (.slice (some ⟨gq, 0, none⟩) 256 cq) 72 2 256 (List.flatMap entL ls1)]) (by kernel_rfl)
  refine x_b H [.m, .m] <| z_call (H.useEP [1, 2, 3, 4, 5, 6, 7] (fun h => ask_of layR hx1 hk1 (1, 1) _ h)) ?_
  rintro _ v3 ⟨⟨u2, ls2, ra2, qn2⟩, rfl, H', hk2⟩
  refine ⟨_, rfl, ?_⟩
  clear H
  have H := hsCast H' (L2 := [.row (u2) 81 3 (List.length (Rp.askV 1 0 1 3 1 (Rp.ask 1 0 1 3 1 X0 (1, 0)) (1, 1))) (List.flatMap int3L (Rp.askV 1 0 1 3 1 (Rp.ask 1 0 1 3 1 X0 (1, 0)) (1, 1))), .blk rp #[.pointer (some ⟨p, 0, none⟩), .int .i64 (((Rp.ask 1 0 1 3 1 (Rp.ask 1 0 1 3 1 X0 (1, 0)) (1, 1)).j).1), .int .i64 (((Rp.ask 1 0 1 3 1 (Rp.ask 1 0 1 3 1 X0 (1, 0)) (1, 1)).j).2.1), .int .i64 (((Rp.ask 1 0 1 3 1 (Rp.ask 1 0 1 3 1 X0 (1, 0)) (1, 1)).j).2.2.1), .int .i64 (((Rp.ask 1 0 1 3 1 (Rp.ask 1 0 1 3 1 X0 (1, 0)) (1, 1)).j).2.2.2), .pointer (some ⟨q, 0, none⟩)] 133, .blk p #[.int .i64 1, .int .i64 0, .int .i64 1, .int .i64 4, .int .i64 1, .int .i64 0, .int .i64 1, .slice (some ⟨gl, 0, none⟩) 3 cl, .slice (some ⟨gd, 0, none⟩) 4 cd, .slice (some ⟨gs, 0, none⟩) 1 cs, .int .i64 (((Rp.ask 1 0 1 3 1 (Rp.ask 1 0 1 3 1 X0 (1, 0)) (1, 1)).pu : Nat) : Int), .int .i64 (((Rp.ask 1 0 1 3 1 (Rp.ask 1 0 1 3 1 X0 (1, 0)) (1, 1)).ru : Nat) : Int)] 118, .row (.slice (some ⟨gl, 0, none⟩) 3 cl) 3 1 3 (List.map (Value.int .i64) ((Rp.ask 1 0 1 3 1 (Rp.ask 1 0 1 3 1 X0 (1, 0)) (1, 1)).L)), .row (.slice (some ⟨gd, 0, none⟩) 4 cd) 4 1 4 (List.map Value.bool ((Rp.ask 1 0 1 3 1 (Rp.ask 1 0 1 3 1 X0 (1, 0)) (1, 1)).D)), .row (.slice (some ⟨gs, 0, none⟩) 1 cs) 3 1 1 (List.map (Value.int .i64) ((Rp.ask 1 0 1 3 1 (Rp.ask 1 0 1 3 1 X0 (1, 0)) (1, 1)).S)), .blk q #[.slice (some ⟨gq, 0, none⟩) 256 cq, .int .i64 (ra2 : Int), .int .i64 (qn2 : Int)] 170, .row (.slice (some ⟨gq, 0, none⟩) 256 cq) 72 2 256 (List.flatMap entL ls2), .row (.slice (some ⟨gu1, 0, none⟩) (List.length E1) cu1) 81 3 (List.length E1) (List.flatMap int3L E1)]) (by kernel_rfl)
  clear H'
  obtain ⟨E2, eE2⟩ : ∃ l : List Int3, l = (Rp.askV 1 0 1 3 1 (Rp.ask 1 0 1 3 1 X0 (1, 0)) (1, 1)) := ⟨_, rfl⟩
  rw [← eE2] at H
  replace eE2 : E2 = [] := eE2.trans (by rw [eX0]; decide +kernel)
  replace H := hsCast H (L2 := [.row (u2) 81 3 (List.length E2) (List.flatMap int3L E2), .blk rp #[.pointer (some ⟨p, 0, none⟩), .int .i64 (((Rp.ask 1 0 1 3 1 (Rp.ask 1 0 1 3 1 X0 (1, 0)) (1, 1)).j).1), .int .i64 (((Rp.ask 1 0 1 3 1 (Rp.ask 1 0 1 3 1 X0 (1, 0)) (1, 1)).j).2.1), .int .i64 (((Rp.ask 1 0 1 3 1 (Rp.ask 1 0 1 3 1 X0 (1, 0)) (1, 1)).j).2.2.1), .int .i64 (((Rp.ask 1 0 1 3 1 (Rp.ask 1 0 1 3 1 X0 (1, 0)) (1, 1)).j).2.2.2), .pointer (some ⟨q, 0, none⟩)] 133, .blk p #[.int .i64 1, .int .i64 0, .int .i64 1, .int .i64 4, .int .i64 1, .int .i64 0, .int .i64 1, .slice (some ⟨gl, 0, none⟩) 3 cl, .slice (some ⟨gd, 0, none⟩) 4 cd, .slice (some ⟨gs, 0, none⟩) 1 cs, .int .i64 (((Rp.ask 1 0 1 3 1 (Rp.ask 1 0 1 3 1 X0 (1, 0)) (1, 1)).pu : Nat) : Int), .int .i64 (((Rp.ask 1 0 1 3 1 (Rp.ask 1 0 1 3 1 X0 (1, 0)) (1, 1)).ru : Nat) : Int)] 118, .row (.slice (some ⟨gl, 0, none⟩) 3 cl) 3 1 3 (List.map (Value.int .i64) ((Rp.ask 1 0 1 3 1 (Rp.ask 1 0 1 3 1 X0 (1, 0)) (1, 1)).L)), .row (.slice (some ⟨gd, 0, none⟩) 4 cd) 4 1 4 (List.map Value.bool ((Rp.ask 1 0 1 3 1 (Rp.ask 1 0 1 3 1 X0 (1, 0)) (1, 1)).D)), .row (.slice (some ⟨gs, 0, none⟩) 1 cs) 3 1 1 (List.map (Value.int .i64) ((Rp.ask 1 0 1 3 1 (Rp.ask 1 0 1 3 1 X0 (1, 0)) (1, 1)).S)), .blk q #[.slice (some ⟨gq, 0, none⟩) 256 cq, .int .i64 (ra2 : Int), .int .i64 (qn2 : Int)] 170, .row (.slice (some ⟨gq, 0, none⟩) 256 cq) 72 2 256 (List.flatMap entL ls2), .row (.slice (some ⟨gu1, 0, none⟩) (List.length E1) cu1) 81 3 (List.length E1) (List.flatMap int3L E1)]) (by kernel_rfl)
  refine x_b H [.m, .m] <| x_nil <| x_then <| x_seq <| x_region <| x_b H [.m] <| z_call (H.useEP [1, 2, 3, 4, 5, 6, 7] (fun h => (by have q := step_of layR hx2 hk2 _ h; rw [if_neg (by rw [eX0]; decide +kernel)] at q; exact q))) ?_
  rintro _ v4 ⟨⟨u3, ls3, ra3, qn3⟩, rfl, H', hk3⟩
  refine ⟨_, rfl, ?_⟩
  clear H
  have H := hsCast H' (L2 := [.row (u3) 81 3 (List.length (((Rp.step 1 0 1 3 4 1 1 4 1 (Rp.ask 1 0 1 3 1 (Rp.ask 1 0 1 3 1 X0 (1, 0)) (1, 1)))).2)) (List.flatMap int3L (((Rp.step 1 0 1 3 4 1 1 4 1 (Rp.ask 1 0 1 3 1 (Rp.ask 1 0 1 3 1 X0 (1, 0)) (1, 1)))).2)), .blk rp #[.pointer (some ⟨p, 0, none⟩), .int .i64 ((((Rp.step 1 0 1 3 4 1 1 4 1 (Rp.ask 1 0 1 3 1 (Rp.ask 1 0 1 3 1 X0 (1, 0)) (1, 1))).1).j).1), .int .i64 ((((Rp.step 1 0 1 3 4 1 1 4 1 (Rp.ask 1 0 1 3 1 (Rp.ask 1 0 1 3 1 X0 (1, 0)) (1, 1))).1).j).2.1), .int .i64 ((((Rp.step 1 0 1 3 4 1 1 4 1 (Rp.ask 1 0 1 3 1 (Rp.ask 1 0 1 3 1 X0 (1, 0)) (1, 1))).1).j).2.2.1), .int .i64 ((((Rp.step 1 0 1 3 4 1 1 4 1 (Rp.ask 1 0 1 3 1 (Rp.ask 1 0 1 3 1 X0 (1, 0)) (1, 1))).1).j).2.2.2), .pointer (some ⟨q, 0, none⟩)] 133, .blk p #[.int .i64 1, .int .i64 0, .int .i64 1, .int .i64 4, .int .i64 1, .int .i64 0, .int .i64 1, .slice (some ⟨gl, 0, none⟩) 3 cl, .slice (some ⟨gd, 0, none⟩) 4 cd, .slice (some ⟨gs, 0, none⟩) 1 cs, .int .i64 ((((Rp.step 1 0 1 3 4 1 1 4 1 (Rp.ask 1 0 1 3 1 (Rp.ask 1 0 1 3 1 X0 (1, 0)) (1, 1))).1).pu : Nat) : Int), .int .i64 ((((Rp.step 1 0 1 3 4 1 1 4 1 (Rp.ask 1 0 1 3 1 (Rp.ask 1 0 1 3 1 X0 (1, 0)) (1, 1))).1).ru : Nat) : Int)] 118, .row (.slice (some ⟨gl, 0, none⟩) 3 cl) 3 1 3 (List.map (Value.int .i64) (((Rp.step 1 0 1 3 4 1 1 4 1 (Rp.ask 1 0 1 3 1 (Rp.ask 1 0 1 3 1 X0 (1, 0)) (1, 1))).1).L)), .row (.slice (some ⟨gd, 0, none⟩) 4 cd) 4 1 4 (List.map Value.bool (((Rp.step 1 0 1 3 4 1 1 4 1 (Rp.ask 1 0 1 3 1 (Rp.ask 1 0 1 3 1 X0 (1, 0)) (1, 1))).1).D)), .row (.slice (some ⟨gs, 0, none⟩) 1 cs) 3 1 1 (List.map (Value.int .i64) (((Rp.step 1 0 1 3 4 1 1 4 1 (Rp.ask 1 0 1 3 1 (Rp.ask 1 0 1 3 1 X0 (1, 0)) (1, 1))).1).S)), .blk q #[.slice (some ⟨gq, 0, none⟩) 256 cq, .int .i64 (ra3 : Int), .int .i64 (qn3 : Int)] 170, .row (.slice (some ⟨gq, 0, none⟩) 256 cq) 72 2 256 (List.flatMap entL ls3), .row (u2) 81 3 (List.length E2) (List.flatMap int3L E2), .row (.slice (some ⟨gu1, 0, none⟩) (List.length E1) cu1) 81 3 (List.length E1) (List.flatMap int3L E1)]) (by kernel_rfl)
  clear H'
  obtain ⟨E3, eE3⟩ : ∃ l : List Int3, l = ((Rp.step 1 0 1 3 4 1 1 4 1 (Rp.ask 1 0 1 3 1 (Rp.ask 1 0 1 3 1 X0 (1, 0)) (1, 1)))).2 := ⟨_, rfl⟩
  rw [← eE3] at H
  replace eE3 : E3 = [(6, 0, 3), (5, 1, 0)] := eE3.trans (by rw [eX0]; decide +kernel)
  obtain ⟨gu3, cu3, rfl, -⟩ := rowSome (H.ok 0 _ rfl) (by rw [eE3]; decide)
  replace H := hsCast H (L2 := [.row (.slice (some ⟨gu3, 0, none⟩) (List.length E3) cu3) 81 3 (List.length E3) (List.flatMap int3L E3), .blk rp #[.pointer (some ⟨p, 0, none⟩), .int .i64 ((((Rp.step 1 0 1 3 4 1 1 4 1 (Rp.ask 1 0 1 3 1 (Rp.ask 1 0 1 3 1 X0 (1, 0)) (1, 1))).1).j).1), .int .i64 ((((Rp.step 1 0 1 3 4 1 1 4 1 (Rp.ask 1 0 1 3 1 (Rp.ask 1 0 1 3 1 X0 (1, 0)) (1, 1))).1).j).2.1), .int .i64 ((((Rp.step 1 0 1 3 4 1 1 4 1 (Rp.ask 1 0 1 3 1 (Rp.ask 1 0 1 3 1 X0 (1, 0)) (1, 1))).1).j).2.2.1), .int .i64 ((((Rp.step 1 0 1 3 4 1 1 4 1 (Rp.ask 1 0 1 3 1 (Rp.ask 1 0 1 3 1 X0 (1, 0)) (1, 1))).1).j).2.2.2), .pointer (some ⟨q, 0, none⟩)] 133, .blk p #[.int .i64 1, .int .i64 0, .int .i64 1, .int .i64 4, .int .i64 1, .int .i64 0, .int .i64 1, .slice (some ⟨gl, 0, none⟩) 3 cl, .slice (some ⟨gd, 0, none⟩) 4 cd, .slice (some ⟨gs, 0, none⟩) 1 cs, .int .i64 ((((Rp.step 1 0 1 3 4 1 1 4 1 (Rp.ask 1 0 1 3 1 (Rp.ask 1 0 1 3 1 X0 (1, 0)) (1, 1))).1).pu : Nat) : Int), .int .i64 ((((Rp.step 1 0 1 3 4 1 1 4 1 (Rp.ask 1 0 1 3 1 (Rp.ask 1 0 1 3 1 X0 (1, 0)) (1, 1))).1).ru : Nat) : Int)] 118, .row (.slice (some ⟨gl, 0, none⟩) 3 cl) 3 1 3 (List.map (Value.int .i64) (((Rp.step 1 0 1 3 4 1 1 4 1 (Rp.ask 1 0 1 3 1 (Rp.ask 1 0 1 3 1 X0 (1, 0)) (1, 1))).1).L)), .row (.slice (some ⟨gd, 0, none⟩) 4 cd) 4 1 4 (List.map Value.bool (((Rp.step 1 0 1 3 4 1 1 4 1 (Rp.ask 1 0 1 3 1 (Rp.ask 1 0 1 3 1 X0 (1, 0)) (1, 1))).1).D)), .row (.slice (some ⟨gs, 0, none⟩) 1 cs) 3 1 1 (List.map (Value.int .i64) (((Rp.step 1 0 1 3 4 1 1 4 1 (Rp.ask 1 0 1 3 1 (Rp.ask 1 0 1 3 1 X0 (1, 0)) (1, 1))).1).S)), .blk q #[.slice (some ⟨gq, 0, none⟩) 256 cq, .int .i64 (ra3 : Int), .int .i64 (qn3 : Int)] 170, .row (.slice (some ⟨gq, 0, none⟩) 256 cq) 72 2 256 (List.flatMap entL ls3), .row (u2) 81 3 (List.length E2) (List.flatMap int3L E2), .row (.slice (some ⟨gu1, 0, none⟩) (List.length E1) cu1) 81 3 (List.length E1) (List.flatMap int3L E1)]) (by kernel_rfl)
  refine x_b H [.m, .m, .m, .m, .m] <| x_nil <| x_then <| x_seq <| x_region <| x_b H [.m, .m, .m, .m, .m, .v (.bool (decide ((((List.length E1) : Nat) : Int) = 1))), .v (.bool (decide ((((List.length E1) : Nat) : Int) = 1))), .v (.bool (decide ((((List.length E1) : Nat) : Int) = 1)))] ?_
  cases h1 : decide ((((List.length E1) : Nat) : Int) = 1)
  · skip
    have h1p := of_decide_eq_false h1
    exact absurd h1 (by rw [eE1]; decide)
  have h1p := of_decide_eq_true h1
  refine x_b H [.m] <| x_lenR H 8 u2 75 81 3 (List.length E2) (List.flatMap int3L E2) rfl (by kernel_rfl) (by kernel_rfl) rfl (by kernel_rfl) <| x_b H [.v (.bool (decide ((((List.length E2) : Nat) : Int) = 0))), .v (.bool (decide ((((List.length E2) : Nat) : Int) = 0))), .v (.bool (decide ((((List.length E2) : Nat) : Int) = 0)))] ?_
  cases h2 : decide ((((List.length E2) : Nat) : Int) = 0)
  · skip
    have h2p := of_decide_eq_false h2
    exact absurd h2 (by rw [eE2]; decide)
  have h2p := of_decide_eq_true h2
  refine x_b H [.m, .m, .v (.bool (decide ((((List.length E3) : Nat) : Int) = 2))), .v (.bool (decide ((((List.length E3) : Nat) : Int) = 2))), .v (.bool (decide ((((List.length E3) : Nat) : Int) = 2)))] ?_
  cases h3 : decide ((((List.length E3) : Nat) : Int) = 2)
  · skip
    have h3p := of_decide_eq_false h3
    exact absurd h3 (by rw [eE3]; decide)
  have h3p := of_decide_eq_true h3
  refine x_b H [.m] <| x_ix (t := 75) gu1 0 0 (List.length E1) cu1 81 3 (0 * 3) (by rw [eE1]; decide) (by omega) (by kernel_rfl) (by kernel_rfl) (by kernel_rfl) rfl (by kernel_rfl) <| x_loadcn (t := 81) gu1 (0 * 3) [.int .i64 ((E1.getD 0 (0, 0, 0)).1), .int .i64 ((E1.getD 0 (0, 0, 0)).2.1), .int .i64 ((E1.getD 0 (0, 0, 0)).2.2)] (H.rowCells 9 rfl (0 * 3) (flatAt int3Len (0, 0, 0) _ (by omega))) (by kernel_rfl) rfl (by kernel_rfl) (by kernel_rfl) <| x_b H [.m] <| x_val (.bool (decide ((((E1.getD 0 (0, 0, 0)).1) : Int) = 3) && (decide ((((E1.getD 0 (0, 0, 0)).2.1) : Int) = 0) && (decide ((((E1.getD 0 (0, 0, 0)).2.2) : Int) = 3) && true)))) (by kernel_rfl) rfl (run_eqS (t := 81) (x := .tmp 50) (y := .tmp 51) (xs := #[.int .i64 ((E1.getD 0 (0, 0, 0)).1), .int .i64 ((E1.getD 0 (0, 0, 0)).2.1), .int .i64 ((E1.getD 0 (0, 0, 0)).2.2)]) (ys := #[.int .i64 3, .int .i64 0, .int .i64 3]) (B := decide ((((E1.getD 0 (0, 0, 0)).1) : Int) = 3) && (decide ((((E1.getD 0 (0, 0, 0)).2.1) : Int) = 0) && (decide ((((E1.getD 0 (0, 0, 0)).2.2) : Int) = 3) && true))) (by kernel_rfl) (by kernel_rfl) (by kernel_rfl)) ?_
  refine x_b H [.v (.bool (decide ((((E1.getD 0 (0, 0, 0)).1) : Int) = 3) && (decide ((((E1.getD 0 (0, 0, 0)).2.1) : Int) = 0) && (decide ((((E1.getD 0 (0, 0, 0)).2.2) : Int) = 3) && true)))), .v (.bool (decide ((((E1.getD 0 (0, 0, 0)).1) : Int) = 3) && (decide ((((E1.getD 0 (0, 0, 0)).2.1) : Int) = 0) && (decide ((((E1.getD 0 (0, 0, 0)).2.2) : Int) = 3) && true))))] ?_
  cases h4 : decide ((((E1.getD 0 (0, 0, 0)).1) : Int) = 3) && (decide ((((E1.getD 0 (0, 0, 0)).2.1) : Int) = 0) && (decide ((((E1.getD 0 (0, 0, 0)).2.2) : Int) = 3) && true))
  · skip
    exact absurd h4 (by rw [eE1]; decide)
  refine x_b H [.m] <| x_ix (t := 75) gu3 0 0 (List.length E3) cu3 81 3 (0 * 3) (by rw [eE3]; decide) (by omega) (by kernel_rfl) (by kernel_rfl) (by kernel_rfl) rfl (by kernel_rfl) <| x_loadcn (t := 81) gu3 (0 * 3) [.int .i64 ((E3.getD 0 (0, 0, 0)).1), .int .i64 ((E3.getD 0 (0, 0, 0)).2.1), .int .i64 ((E3.getD 0 (0, 0, 0)).2.2)] (H.rowCells 0 rfl (0 * 3) (flatAt int3Len (0, 0, 0) _ (by omega))) (by kernel_rfl) rfl (by kernel_rfl) (by kernel_rfl) <| x_b H [.m] <| x_val (.bool (decide ((((E3.getD 0 (0, 0, 0)).1) : Int) = 6) && (decide ((((E3.getD 0 (0, 0, 0)).2.1) : Int) = 0) && (decide ((((E3.getD 0 (0, 0, 0)).2.2) : Int) = 3) && true)))) (by kernel_rfl) rfl (run_eqS (t := 81) (x := .tmp 57) (y := .tmp 58) (xs := #[.int .i64 ((E3.getD 0 (0, 0, 0)).1), .int .i64 ((E3.getD 0 (0, 0, 0)).2.1), .int .i64 ((E3.getD 0 (0, 0, 0)).2.2)]) (ys := #[.int .i64 6, .int .i64 0, .int .i64 3]) (B := decide ((((E3.getD 0 (0, 0, 0)).1) : Int) = 6) && (decide ((((E3.getD 0 (0, 0, 0)).2.1) : Int) = 0) && (decide ((((E3.getD 0 (0, 0, 0)).2.2) : Int) = 3) && true))) (by kernel_rfl) (by kernel_rfl) (by kernel_rfl)) ?_
  refine x_b H [.v (.bool (decide ((((E3.getD 0 (0, 0, 0)).1) : Int) = 6) && (decide ((((E3.getD 0 (0, 0, 0)).2.1) : Int) = 0) && (decide ((((E3.getD 0 (0, 0, 0)).2.2) : Int) = 3) && true)))), .v (.bool (decide ((((E3.getD 0 (0, 0, 0)).1) : Int) = 6) && (decide ((((E3.getD 0 (0, 0, 0)).2.1) : Int) = 0) && (decide ((((E3.getD 0 (0, 0, 0)).2.2) : Int) = 3) && true))))] ?_
  cases h5 : decide ((((E3.getD 0 (0, 0, 0)).1) : Int) = 6) && (decide ((((E3.getD 0 (0, 0, 0)).2.1) : Int) = 0) && (decide ((((E3.getD 0 (0, 0, 0)).2.2) : Int) = 3) && true))
  · skip
    exact absurd h5 (by rw [eE3]; decide)
  refine x_b H [.m] <| x_ix (t := 75) gu3 0 1 (List.length E3) cu3 81 3 (1 * 3) (by rw [eE3]; decide) (by omega) (by kernel_rfl) (by kernel_rfl) (by kernel_rfl) rfl (by kernel_rfl) <| x_loadcn (t := 81) gu3 (1 * 3) [.int .i64 ((E3.getD 1 (0, 0, 0)).1), .int .i64 ((E3.getD 1 (0, 0, 0)).2.1), .int .i64 ((E3.getD 1 (0, 0, 0)).2.2)] (H.rowCells 0 rfl (1 * 3) (flatAt int3Len (0, 0, 0) _ (by omega))) (by kernel_rfl) rfl (by kernel_rfl) (by kernel_rfl) <| x_b H [.m] <| x_val (.bool (decide ((((E3.getD 1 (0, 0, 0)).1) : Int) = 5) && (decide ((((E3.getD 1 (0, 0, 0)).2.1) : Int) = 1) && (decide ((((E3.getD 1 (0, 0, 0)).2.2) : Int) = 0) && true)))) (by kernel_rfl) rfl (run_eqS (t := 81) (x := .tmp 64) (y := .tmp 65) (xs := #[.int .i64 ((E3.getD 1 (0, 0, 0)).1), .int .i64 ((E3.getD 1 (0, 0, 0)).2.1), .int .i64 ((E3.getD 1 (0, 0, 0)).2.2)]) (ys := #[.int .i64 5, .int .i64 1, .int .i64 0]) (B := decide ((((E3.getD 1 (0, 0, 0)).1) : Int) = 5) && (decide ((((E3.getD 1 (0, 0, 0)).2.1) : Int) = 1) && (decide ((((E3.getD 1 (0, 0, 0)).2.2) : Int) = 0) && true))) (by kernel_rfl) (by kernel_rfl) (by kernel_rfl)) ?_
  refine x_b H [.v (.bool (decide ((((E3.getD 1 (0, 0, 0)).1) : Int) = 5) && (decide ((((E3.getD 1 (0, 0, 0)).2.1) : Int) = 1) && (decide ((((E3.getD 1 (0, 0, 0)).2.2) : Int) = 0) && true)))), .v (.bool (decide ((((E3.getD 1 (0, 0, 0)).1) : Int) = 5) && (decide ((((E3.getD 1 (0, 0, 0)).2.1) : Int) = 1) && (decide ((((E3.getD 1 (0, 0, 0)).2.2) : Int) = 0) && true))))] <| x_nil <| z_fr 68 [(0, .bool (decide ((((E3.getD 1 (0, 0, 0)).1) : Int) = 5) && (decide ((((E3.getD 1 (0, 0, 0)).2.1) : Int) = 1) && (decide ((((E3.getD 1 (0, 0, 0)).2.2) : Int) = 0) && true))))] [] fun uf1 => x_then <| x_retc <| x_ret (.bool (decide ((((E3.getD 1 (0, 0, 0)).1) : Int) = 5) && (decide ((((E3.getD 1 (0, 0, 0)).2.1) : Int) = 1) && (decide ((((E3.getD 1 (0, 0, 0)).2.2) : Int) = 0) && true)))) (by kernel_rfl) (by kernel_rfl) ?_
  have eb : ((decide ((((E3.getD 1 (0, 0, 0)).1) : Int) = 5) && (decide ((((E3.getD 1 (0, 0, 0)).2.1) : Int) = 1) && (decide ((((E3.getD 1 (0, 0, 0)).2.2) : Int) = 0) && true)))) = true := by rw [eE3]; decide
  exact ⟨by rw [eb], H.below⟩
set_option maxRecDepth 100000 in
set_option maxHeartbeats 4000000 in
theorem started_yes {r s b o c y z : Int} {pg sn ns : Nat} (hL : Lay r s b o c y z pg sn ns) (w0 : World) :
    Calls Try.prog 38 #[.agg #[.int .i64 r, .int .i64 s, .int .i64 b, .int .i64 o, .int .i64 c, .int .i64 y, .int .i64 z]] w0 fun e w' => ∃ (m7 : Nat × Nat × Nat × Nat × Nat × Nat × Nat) (q3 : Nat × Nat × Nat) (rp : Nat) (lv : Value), e = .returned (.tuple #[.pointer (some ⟨rp, 0, none⟩), .agg #[.int .i64 r, .int .i64 s, .int .i64 b, .int .i64 o, .int .i64 c, .int .i64 y, .int .i64 z, lv, D21.new.pv, D21.new.kv, .int .i64 (((Rp.new sn pg ns).pu : Nat) : Int), .int .i64 (((Rp.new sn pg ns).ru : Nat) : Int), .int .i64 (((Rp.new sn pg ns).j).1), .int .i64 (((Rp.new sn pg ns).j).2.1), .int .i64 (((Rp.new sn pg ns).j).2.2.1), .int .i64 (((Rp.new sn pg ns).j).2.2.2), .slice D21.new.ad D21.new.n D21.new.c], .bool true]) ∧ Hs [] w0 w' [.blk rp #[.pointer (some ⟨m7.1, 0, none⟩), .int .i64 (((Rp.new sn pg ns).j).1), .int .i64 (((Rp.new sn pg ns).j).2.1), .int .i64 (((Rp.new sn pg ns).j).2.2.1), .int .i64 (((Rp.new sn pg ns).j).2.2.2), .pointer (some ⟨q3.1, 0, none⟩)] 133, .blk m7.1 #[.int .i64 r, .int .i64 s, .int .i64 b, .int .i64 o, .int .i64 c, .int .i64 y, .int .i64 z, .slice (some ⟨m7.2.1, 0, none⟩) sn m7.2.2.1, .slice (some ⟨m7.2.2.2.1, 0, none⟩) pg m7.2.2.2.2.1, .slice (some ⟨m7.2.2.2.2.2.1, 0, none⟩) ns m7.2.2.2.2.2.2, .int .i64 (((Rp.new sn pg ns).pu : Nat) : Int), .int .i64 (((Rp.new sn pg ns).ru : Nat) : Int)] 118, .row (.slice (some ⟨m7.2.1, 0, none⟩) sn m7.2.2.1) 3 1 sn (List.map (Value.int .i64) ((Rp.new sn pg ns).L)), .row (.slice (some ⟨m7.2.2.2.1, 0, none⟩) pg m7.2.2.2.2.1) 4 1 pg (List.map Value.bool ((Rp.new sn pg ns).D)), .row (.slice (some ⟨m7.2.2.2.2.2.1, 0, none⟩) ns m7.2.2.2.2.2.2) 3 1 ns (List.map (Value.int .i64) ((Rp.new sn pg ns).S)), .blk q3.1 #[.slice (some ⟨q3.2.1, 0, none⟩) 256 q3.2.2, .int .i64 ((0 : Nat) : Int), .int .i64 ((0 : Nat) : Int)] 170, .row (.slice (some ⟨q3.2.1, 0, none⟩) 256 q3.2.2) 72 2 256 (List.flatMap entL (List.replicate 256 ((0, 0) : Ent))), .row (lv) 3 1 pg (List.map (Value.int .i64) (layL y r b o pg)), .row (D21.new.pv) 156 2 (List.length D21.new.Pg) (List.flatMap entL D21.new.Pg), .row (D21.new.kv) 156 2 (List.length D21.new.Rk) (List.flatMap entL D21.new.Rk), .row (D21.new.fv) 147 2 (List.length D21.new.F) (List.flatMap entL D21.new.F)] := by
  refine z_enter Try.func38 rfl ?_
  have H := Hs.nil w0
  have hok := hL.ok
  refine x_seq <| x_region <| z_box H #[.int .i64 r, .int .i64 s, .int .i64 b, .int .i64 o, .int .i64 c, .int .i64 y, .int .i64 z] 25 (fun v1 g1 H => ?_)
  refine x_b H [.m] <| z_box H #[.int .i64 0, .int .i64 0, .int .i64 0, .int .i64 0, .int .i64 0, .int .i64 0, .int .i64 0, .slice none 0 0, .slice none 0 0, .slice none 0 0, .int .i64 0, .int .i64 0, .int .i64 0, .int .i64 0, .int .i64 0, .int .i64 0, .slice none 0 0] 68 (fun v2 g2 H => ?_)
  refine x_b H [.m] <| x_nil <| x_then <| x_seq <| x_region <| x_b H [.n 1 0 7 25] <| z_call (RNew_yes hL _) ?_
  rintro _ v3 ⟨⟨p, gl, cl, gd, cd, gs, cs⟩, ⟨q, gq, cq⟩, rp, rfl, hN'⟩
  refine ⟨_, rfl, ?_⟩
  replace H := H.more hN'
  clear hN'
  refine x_b H [.m, .m, .m, .m, .m] <| x_nil <| x_then <| x_seq <| x_region <| x_b H [.m, .n 8 0 5 23] <| z_box H #[.int .i64 0, .int .i64 0, .int .i64 0, .int .i64 0, .int .i64 0] 38 (fun v4 g3 H => ?_)
  refine z_store H 0 0 [.int .i64 r, .int .i64 s, .int .i64 b, .int .i64 o, .int .i64 c] (fun v5 H => ?_)
  refine x_nil <| x_then <| x_seq <| x_seq <| x_region <| x_b H [.n 0 0 5 38, .m, .l 9 5, .m, .l 9 6] <| z_callB (v := .bool (layoutOk r s b o c y z)) H (Right19 r s b o c y z _) fun v6 H => ?_
  refine x_b H [.v (.bool (!(layoutOk r s b o c y z))), .v (.bool (!(layoutOk r s b o c y z)))] ?_
  rw [hok]
  refine x_b H [.m, .m, .m, .m, .m, .m, .m] <| x_nil <| x_then <| x_f (by kernel_rfl) <| x_skipc <| x_then <| x_seq ?_
  refine x_region <| x_b H [.m, .n 0 0 5 38, .m, .l 9 5, .m, .l 9 6] <| z_call (New19 hL _) ?_
  rintro _ v7 ⟨u9, cu9, rfl, hN'⟩
  refine ⟨_, rfl, ?_⟩
  replace H := H.more hN'
  clear hN'
  refine x_b H [.m, .m] <| z_store H 9 0 [.int .i64 r, .int .i64 s, .int .i64 b, .int .i64 o, .int .i64 c, .int .i64 y, .int .i64 z, .slice (some ⟨u9, 0, none⟩) pg cu9, .slice none 0 0, .slice none 0 0, .int .i64 ((0 : Nat) : Int), .int .i64 ((0 : Nat) : Int), .int .i64 0, .int .i64 0, .int .i64 0, .int .i64 0, .slice none 0 0] (fun v8 H => ?_)
  refine x_b H [.m] <| x_nil <| z_fr 39 [(2, .pointer (some ⟨rp, 0, none⟩)), (3, .pointer (some ⟨g2, 0, none⟩)), (4, .bool true)] [] fun uf1 => x_then <| x_retc <| x_ret (.tuple #[.pointer (some ⟨rp, 0, none⟩), .agg #[.int .i64 r, .int .i64 s, .int .i64 b, .int .i64 o, .int .i64 c, .int .i64 y, .int .i64 z, .slice (some ⟨u9, 0, none⟩) pg cu9, .slice none 0 0, .slice none 0 0, .int .i64 ((0 : Nat) : Int), .int .i64 ((0 : Nat) : Int), .int .i64 0, .int .i64 0, .int .i64 0, .int .i64 0, .slice none 0 0], .bool true]) (by kernel_rfl) (x_results [.tmp 2, .cell 3 68, .tmp 4] [.pointer (some ⟨rp, 0, none⟩), .agg #[.int .i64 r, .int .i64 s, .int .i64 b, .int .i64 o, .int .i64 c, .int .i64 y, .int .i64 z, .slice (some ⟨u9, 0, none⟩) pg cu9, .slice none 0 0, .slice none 0 0, .int .i64 ((0 : Nat) : Int), .int .i64 ((0 : Nat) : Int), .int .i64 0, .int .i64 0, .int .i64 0, .int .i64 0, .slice none 0 0], .bool true] _ rfl (AllR.tmp (by kernel_rfl) (AllR.cell (by kernel_rfl) (ldR H 9 g2 0 #[.int .i64 r, .int .i64 s, .int .i64 b, .int .i64 o, .int .i64 c, .int .i64 y, .int .i64 z, .slice (some ⟨u9, 0, none⟩) pg cu9, .slice none 0 0, .slice none 0 0, .int .i64 ((0 : Nat) : Int), .int .i64 ((0 : Nat) : Int), .int .i64 0, .int .i64 0, .int .i64 0, .int .i64 0, .slice none 0 0] 68 [.int .i64 r, .int .i64 s, .int .i64 b, .int .i64 o, .int .i64 c, .int .i64 y, .int .i64 z, .slice (some ⟨u9, 0, none⟩) pg cu9, .slice none 0 0, .slice none 0 0, .int .i64 ((0 : Nat) : Int), .int .i64 ((0 : Nat) : Int), .int .i64 0, .int .i64 0, .int .i64 0, .int .i64 0, .slice none 0 0] (by kernel_rfl) (by kernel_rfl) (by kernel_rfl)) (AllR.tmp (by kernel_rfl) AllR.nil))) (by kernel_rfl)) ?_
  replace H := H.nilRow 147 2
  replace H := H.nilRow 156 2
  replace H := H.nilRow 156 2
  replace H := H.pk [5, 6, 7, 8, 9, 10, 11, 3, 0, 1, 2]
  exact ⟨(p, gl, cl, gd, cd, gs, cs), (q, gq, cq), rp, .slice (some ⟨u9, 0, none⟩) pg cu9, rfl, H⟩
set_option maxRecDepth 100000 in
set_option maxHeartbeats 4000000 in
theorem started_no (r s b o c y z : Int) (hbd : r ≤ 9223372036854775807 ∧ b ≤ 9223372036854775807 ∧ o ≤ 9223372036854775807 ∧ c ≤ 9223372036854775807) (hok : layoutOk r s b o c y z = false) (w0 : World) :
    Calls Try.prog 38 #[.agg #[.int .i64 r, .int .i64 s, .int .i64 b, .int .i64 o, .int .i64 c, .int .i64 y, .int .i64 z]] w0 fun e w' => e = .returned (.tuple #[.pointer none, .agg #[.int .i64 0, .int .i64 0, .int .i64 0, .int .i64 0, .int .i64 0, .int .i64 0, .int .i64 0, .slice none 0 0, .slice none 0 0, .slice none 0 0, .int .i64 0, .int .i64 0, .int .i64 0, .int .i64 0, .int .i64 0, .int .i64 0, .slice none 0 0], .bool false]) ∧ Below w0.heap.size w0 w' := by
  refine z_enter Try.func38 rfl ?_
  have H := Hs.nil w0
  refine x_seq <| x_region <| z_box H #[.int .i64 r, .int .i64 s, .int .i64 b, .int .i64 o, .int .i64 c, .int .i64 y, .int .i64 z] 25 (fun v1 g1 H => ?_)
  refine x_b H [.m] <| z_box H #[.int .i64 0, .int .i64 0, .int .i64 0, .int .i64 0, .int .i64 0, .int .i64 0, .int .i64 0, .slice none 0 0, .slice none 0 0, .slice none 0 0, .int .i64 0, .int .i64 0, .int .i64 0, .int .i64 0, .int .i64 0, .int .i64 0, .slice none 0 0] 68 (fun v2 g2 H => ?_)
  refine x_b H [.m] <| x_nil <| x_then <| x_seq <| x_region <| x_b H [.n 1 0 7 25] <| z_callB H (RNew_no r s b o c y z hbd hok _) fun v3 H => ?_
  refine x_b H [.m, .m, .m, .m, .m] <| x_nil <| x_then <| x_seq <| x_region <| x_b H [.m, .n 1 0 5 23] <| z_box H #[.int .i64 0, .int .i64 0, .int .i64 0, .int .i64 0, .int .i64 0] 38 (fun v4 g3 H => ?_)
  refine z_store H 0 0 [.int .i64 r, .int .i64 s, .int .i64 b, .int .i64 o, .int .i64 c] (fun v5 H => ?_)
  refine x_nil <| x_then <| x_seq <| x_seq <| x_region <| x_b H [.n 0 0 5 38, .m, .l 2 5, .m, .l 2 6] <| z_callB (v := .bool (layoutOk r s b o c y z)) H (Right19 r s b o c y z _) fun v6 H => ?_
  refine x_b H [.v (.bool (!(layoutOk r s b o c y z))), .v (.bool (!(layoutOk r s b o c y z)))] ?_
  rw [hok]
  refine x_b H [.k, .k, .m, .m, .k, .k, .m] <| x_nil <| x_then <| x_t (by kernel_rfl) <| x_seq <| x_region <| x_b H [.m, .m] ?_
  refine z_store H 1 0 [.int .i64 0, .int .i64 0, .int .i64 0, .int .i64 0, .int .i64 0, .int .i64 0, .int .i64 0, .slice none 0 0, .slice none 0 0, .slice none 0 0, .int .i64 0, .int .i64 0, .int .i64 0, .int .i64 0, .int .i64 0, .int .i64 0, .slice none 0 0] (fun v7 H => ?_)
  refine x_b H [.m] <| x_nil <| x_then <| x_retc <| x_then_ret <| x_ret (.tuple #[.pointer none, .agg #[.int .i64 0, .int .i64 0, .int .i64 0, .int .i64 0, .int .i64 0, .int .i64 0, .int .i64 0, .slice none 0 0, .slice none 0 0, .slice none 0 0, .int .i64 0, .int .i64 0, .int .i64 0, .int .i64 0, .int .i64 0, .int .i64 0, .slice none 0 0], .bool false]) (by kernel_rfl) (x_results [.tmp 2, .cell 3 68, .tmp 4] [.pointer none, .agg #[.int .i64 0, .int .i64 0, .int .i64 0, .int .i64 0, .int .i64 0, .int .i64 0, .int .i64 0, .slice none 0 0, .slice none 0 0, .slice none 0 0, .int .i64 0, .int .i64 0, .int .i64 0, .int .i64 0, .int .i64 0, .int .i64 0, .slice none 0 0], .bool false] _ rfl (AllR.tmp (by kernel_rfl) (AllR.cell (by kernel_rfl) (ldR H 1 g2 0 #[.int .i64 0, .int .i64 0, .int .i64 0, .int .i64 0, .int .i64 0, .int .i64 0, .int .i64 0, .slice none 0 0, .slice none 0 0, .slice none 0 0, .int .i64 0, .int .i64 0, .int .i64 0, .int .i64 0, .int .i64 0, .int .i64 0, .slice none 0 0] 68 [.int .i64 0, .int .i64 0, .int .i64 0, .int .i64 0, .int .i64 0, .int .i64 0, .int .i64 0, .slice none 0 0, .slice none 0 0, .slice none 0 0, .int .i64 0, .int .i64 0, .int .i64 0, .int .i64 0, .int .i64 0, .int .i64 0, .slice none 0 0] (by kernel_rfl) (by kernel_rfl) (by kernel_rfl)) (AllR.tmp (by kernel_rfl) AllR.nil))) (by kernel_rfl)) ?_
  exact ⟨rfl, H.below⟩
end Go.Proofs.Ytpmnnijjohlloaa
