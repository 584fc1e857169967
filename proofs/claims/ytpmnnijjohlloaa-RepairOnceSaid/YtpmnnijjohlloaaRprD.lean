/- Contracts of a job over a map. -/
import Derived.Test.YtpmnnijjohlloaaRprG
import Derived.Test.YtpmnnijjohlloaaPxZ
namespace Go.Proofs.Ytpmnnijjohlloaa
open Go Go.RowKit
set_option linter.unusedVariables false
set_option linter.unusedSimpArgs false
set_option maxRecDepth 100000 in
set_option maxHeartbeats 4000000 in
theorem PerRank_of {r s b o c : Int} (hg : geomOk r s b o c = true) (w0 : World) :
    Calls Try.prog 100 #[.agg #[.int .i64 r, .int .i64 s, .int .i64 b, .int .i64 o, .int .i64 c]] w0 fun e w' => e = .returned (.int .i64 (b * o * c)) ∧ Below w0.heap.size w0 w' := by
  refine z_enter Try.func100 rfl ?_
  have H := Hs.nil w0
  obtain ⟨⟨d1, d2⟩, ⟨d3, d4⟩, ⟨d5, d6⟩, ⟨d7, d8⟩, ⟨d9, d10⟩, _⟩ := geom_bd hg
  obtain ⟨u1, u2⟩ := mul_bd (x := b) (y := o) (p := 16) (q := 1024) (by omega) (by omega) (by omega) (by omega)
  obtain ⟨u3, u4⟩ := mul_bd (x := b * o) (y := c) (p := 16384) (q := 64) (by omega) (by omega) (by omega) (by omega)
  refine x_seq <| x_region <| z_box H #[.int .i64 r, .int .i64 s, .int .i64 b, .int .i64 o, .int .i64 c] 23 (fun v1 g1 H => ?_)
  refine x_b H [.m] <| x_nil <| x_then <| x_seq <| x_seq <| x_region <| x_b H [.n 0 0 5 23] ?_
  refine z_callB (v := .bool (geomOk r s b o c)) H (gRight_any _ _ _ _ _ (by omega) (by omega) (by omega) (by omega) _) fun v2 H => x_b H [.v (.bool (!(geomOk r s b o c)))] <| x_nil <| x_then ?_
  rw [hg]
  refine x_f (by kernel_rfl) <| x_skipc <| x_then <| x_seq <| x_region <| x_b H [.m, .l 0 2, .m, .l 0 3] <| z_ar (b * o) ?_
  refine x_b H [.m, .l 0 4] <| z_ar ((b * o) * c) <| x_b H [.m] <| x_nil <| x_then <| x_retc <| x_ret (.int .i64 ((b * o) * c)) (by kernel_rfl) (by kernel_rfl) ?_
  exact ⟨rfl, H.below⟩
set_option maxRecDepth 100000 in
set_option maxHeartbeats 4000000 in
theorem Count_any {r s b o c y z : Int} {pg sn ns : Nat} (hL : Lay r s b o c y z pg sn ns) (j : Job4) (w0 : World) :
    Calls Try.prog 51 #[.agg #[.int .i64 j.1, .int .i64 j.2.1, .int .i64 j.2.2.1, .int .i64 j.2.2.2], .agg #[.int .i64 r, .int .i64 s, .int .i64 b, .int .i64 o, .int .i64 c, .int .i64 y, .int .i64 z]] w0 fun e w' => e = .returned (.int .i64 (Rp.cnt b o c j)) ∧ Below w0.heap.size w0 w' := by
  refine z_enter Try.func51 rfl ?_
  have H := Hs.nil w0
  have hg := geom_of hL
  refine x_seq <| x_region <| z_box H #[.int .i64 j.1, .int .i64 j.2.1, .int .i64 j.2.2.1, .int .i64 j.2.2.2] 77 (fun v1 g1 H => ?_)
  refine z_box H #[.int .i64 r, .int .i64 s, .int .i64 b, .int .i64 o, .int .i64 c, .int .i64 y, .int .i64 z] 25 (fun v2 g2 H => ?_)
  refine x_b H [.m] <| x_nil <| x_then <| x_seq <| x_seq <| x_region <| x_b H [.m, .l 1 0] ?_
  refine x_nil <| x_then <| x_block <| x_seq <| x_region <| x_b H [.v (.bool (decide (j.1 = 1))), .v (.bool (decide (j.1 = 1)))] <| x_nil ?_
  refine x_then ?_
  cases h1 : decide (j.1 = 1)
  · skip
    have h1p := of_decide_eq_false h1
    refine x_f (by kernel_rfl) <| x_seq <| x_region <| x_b H [.v (.bool (decide (j.1 = 2))), .v (.bool (decide (j.1 = 2)))] <| x_nil <| x_then ?_
    cases h2 : decide (j.1 = 2)
    · skip
      have h2p := of_decide_eq_false h2
      refine x_f (by kernel_rfl) <| x_skipc <| x_blk <| x_then <| x_seq <| x_region <| x_b H [.m] ?_
      refine x_nil <| x_then <| x_retc <| x_ret (.int .i64 0) (by kernel_rfl) (by kernel_rfl) ?_
      exact ⟨by unfold Rp.cnt; rw [if_neg h1p, if_neg h2p], H.below⟩
    have h2p := of_decide_eq_true h2
    refine x_t (by kernel_rfl) <| x_seq <| x_region <| x_b H [.m, .n 0 0 5 23] <| z_callB H (PerRank_of hg _) fun v3 H => x_b H [.m] <| x_nil ?_
    refine x_then <| x_retc <| x_blk_ret <| x_then_ret <| x_ret (.int .i64 (b * o * c)) (by kernel_rfl) (by kernel_rfl) ?_
    exact ⟨by unfold Rp.cnt; rw [if_neg h1p, if_pos h2p], H.below⟩
  have h1p := of_decide_eq_true h1
  refine x_t (by kernel_rfl) <| x_seq <| x_region <| x_b H [.m, .m, .l 0 4, .m] <| x_nil <| x_then <| x_retc ?_
  refine x_blk_ret <| x_then_ret <| x_ret (.int .i64 c) (by kernel_rfl) (by kernel_rfl) ?_
  exact ⟨by unfold Rp.cnt; rw [if_pos h1p], H.below⟩
set_option maxRecDepth 100000 in
set_option maxHeartbeats 4000000 in
theorem Done_any {r s b o c y z : Int} {pg sn ns : Nat} (hL : Lay r s b o c y z pg sn ns) (j : Job4) (w0 : World) :
    Calls Try.prog 55 #[.agg #[.int .i64 j.1, .int .i64 j.2.1, .int .i64 j.2.2.1, .int .i64 j.2.2.2], .agg #[.int .i64 r, .int .i64 s, .int .i64 b, .int .i64 o, .int .i64 c, .int .i64 y, .int .i64 z]] w0 fun e w' => e = .returned (.bool (!(decide (j.1 = 0)) && decide (j.2.2.2 = (Rp.cnt b o c j)))) ∧ Below w0.heap.size w0 w' := by
  refine z_enter Try.func55 rfl ?_
  have H := Hs.nil w0
  refine x_seq <| x_region <| z_box H #[.int .i64 j.1, .int .i64 j.2.1, .int .i64 j.2.2.1, .int .i64 j.2.2.2] 77 (fun v1 g1 H => ?_)
  refine z_box H #[.int .i64 r, .int .i64 s, .int .i64 b, .int .i64 o, .int .i64 c, .int .i64 y, .int .i64 z] 25 (fun v2 g2 H => ?_)
  refine x_b H [.m] <| x_nil <| x_then <| x_seq <| z_region_whole H <| q_b [.m, .l 1 0, .v (.bool (!(decide (j.1 = 0)))), .v (.bool (!(decide (j.1 = 0))))] ?_
  cases h1 : decide (j.1 = 0)
  · skip
    have h1p := of_decide_eq_false h1
    refine q_b [.m, .l 1 3, .n 1 0 4 77, .n 0 0 7 25] <| q_callB (.int .i64 (Rp.cnt b o c j)) (by kernel_rfl) (fun _ => by kernel_rfl) (fun _ => (Count_any hL j _)) <| q_b [.v (.bool (decide (j.2.2.2 = (Rp.cnt b o c j)))), .v (.bool (decide (j.2.2.2 = (Rp.cnt b o c j)))), .v (.bool (decide (j.2.2.2 = (Rp.cnt b o c j))))] <| q_nil ?_
    clear H
    intro v3 H
    refine x_then <| x_retc <| x_ret (.bool (decide (j.2.2.2 = (Rp.cnt b o c j)))) (by kernel_rfl) (by kernel_rfl) ?_
    exact ⟨by first | rfl | (congr 2; simp [h1]) | (congr 2; simp_all), H.below⟩
  have h1p := of_decide_eq_true h1
  refine q_b [.k, .k, .k, .k, .k, .k, .m, .m] <| q_nil ?_
  clear H
  intro v4 H
  refine x_then <| x_retc <| x_ret (.bool false) (by kernel_rfl) (by kernel_rfl) ?_
  exact ⟨by first | rfl | (congr 2; simp [h1]) | (congr 2; simp_all), H.below⟩
end Go.Proofs.Ytpmnnijjohlloaa
