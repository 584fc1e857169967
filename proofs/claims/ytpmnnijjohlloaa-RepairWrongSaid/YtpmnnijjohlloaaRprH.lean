/- A repair held against the document's. -/
import Derived.Test.YtpmnnijjohlloaaRprF
import Derived.Test.YtpmnnijjohlloaaPxZ
namespace Go.Proofs.Ytpmnnijjohlloaa
open Go Go.RowKit
set_option linter.unusedVariables false
set_option linter.unusedSimpArgs false
set_option maxRecDepth 100000 in
set_option maxHeartbeats 4000000 in
theorem ev_nn {g1 c1 g2 c2 : Nat} {l : List Int3} (hl : l.length ≤ 4096)  (w0 : World) (hR : Ro w0 []) :
    Calls Try.prog 104 #[.slice none 0 0, .slice none 0 0] w0 fun e w' => e = .returned (.bool true) ∧ Below w0.heap.size w0 w' := by
  refine z_enter Try.func104 rfl ?_
  have H := Hs.nil w0
  have R0 := hR
  refine x_seq <| x_region <| x_b H [.m] <| x_nil <| x_then <| x_seq <| x_seq ?_
  refine x_region <| x_b H [.m, .m, .m, .m, .m] <| x_nil <| x_then <| x_f (by kernel_rfl) <| x_skipc <| x_then ?_
  refine x_seq <| x_seq <| x_region <| x_b H [.m, .m, .m] <| x_nil <| x_then <| x_block ?_
  refine x_loop (G := Unit) (fun (_ : Unit) a w' => ∃ uf1 : Nat → Value, a = frm 26 uf1 [(1, .slice none 0 0), (12, .slice none 0 0), (13, .int .i64 0), (14, .int .i64 0)] [] ∧ Hs [] w0 w' []) (fun _ => 0) () ⟨_, frm_of, H⟩ ?_
  clear H
  rintro _ _ v1 ⟨uf1, rfl, H⟩
  refine x_seq <| x_region <| x_b H [.m] <| x_nil <| x_then <| x_seq <| x_f (by kernel_rfl) ?_
  refine x_exit <| x_then_exit <| x_then_exit <| x_blk_exit <| x_then <| x_seq <| x_region ?_
  refine x_b H [.m] <| x_nil <| x_then <| x_retc <| x_ret (.bool true) (by kernel_rfl) (by kernel_rfl) ?_
  exact ⟨rfl, H.below⟩
set_option maxRecDepth 100000 in
set_option maxHeartbeats 4000000 in
theorem ev_ns {g1 c1 g2 c2 : Nat} {l : List Int3} (hl : l.length ≤ 4096) (h0 : l.length = 0) (w0 : World) (hR : Ro w0 [.row (.slice (some ⟨g2, 0, none⟩) (List.length l) c2) 165 3 (List.length l) (List.flatMap int3L l)]) :
    Calls Try.prog 104 #[.slice none 0 0, .slice (some ⟨g2, 0, none⟩) (List.length l) c2] w0 fun e w' => e = .returned (.bool true) ∧ Below w0.heap.size w0 w' := by
  refine z_enter Try.func104 rfl ?_
  have H := Hs.nil w0
  have R0 := hR
  refine x_seq <| x_region <| x_b H [.m] <| x_nil <| x_then <| x_seq <| x_seq ?_
  refine x_region <| x_b H [.m, .m, .m, .m, .v (.bool (!(decide (0 = (((List.length l) : Nat) : Int)))))] <| x_nil <| x_then ?_
  cases h1 : decide (0 = (((List.length l) : Nat) : Int))
  · skip
    have h1p := of_decide_eq_false h1
    exact absurd h1p (by omega)
  have h1p := of_decide_eq_true h1
  refine x_f (by kernel_rfl) <| x_skipc <| x_then <| x_seq <| x_seq <| x_region <| x_b H [.m, .m, .m] ?_
  refine x_nil <| x_then <| x_block <| x_loop (G := Unit) (fun (_ : Unit) a w' => ∃ uf1 : Nat → Value, a = frm 26 uf1 [(1, .slice (some ⟨g2, 0, none⟩) (List.length l) c2), (12, .slice none 0 0), (13, .int .i64 0), (14, .int .i64 0)] [] ∧ Hs [] w0 w' []) (fun _ => 0) () ⟨_, frm_of, H⟩ ?_
  clear H
  rintro _ _ v1 ⟨uf1, rfl, H⟩
  refine x_seq <| x_region <| x_b H [.m] <| x_nil <| x_then <| x_seq <| x_f (by kernel_rfl) ?_
  refine x_exit <| x_then_exit <| x_then_exit <| x_blk_exit <| x_then <| x_seq <| x_region ?_
  refine x_b H [.m] <| x_nil <| x_then <| x_retc <| x_ret (.bool true) (by kernel_rfl) (by kernel_rfl) ?_
  exact ⟨rfl, H.below⟩
set_option maxRecDepth 100000 in
set_option maxHeartbeats 4000000 in
theorem ev_sn {g1 c1 g2 c2 : Nat} {l : List Int3} (hl : l.length ≤ 4096) (h0 : l.length = 0) (w0 : World) (hR : Ro w0 [.row (.slice (some ⟨g1, 0, none⟩) (List.length l) c1) 81 3 (List.length l) (List.flatMap int3L l)]) :
    Calls Try.prog 104 #[.slice (some ⟨g1, 0, none⟩) (List.length l) c1, .slice none 0 0] w0 fun e w' => e = .returned (.bool true) ∧ Below w0.heap.size w0 w' := by
  refine z_enter Try.func104 rfl ?_
  have H := Hs.nil w0
  have R0 := hR
  refine x_seq <| x_region <| x_b H [.m] <| x_nil <| x_then <| x_seq <| x_seq ?_
  refine x_region <| x_b H [.m, .m, .m, .m, .v (.bool (!(decide ((((List.length l) : Nat) : Int) = 0))))] <| x_nil <| x_then ?_
  cases h1 : decide ((((List.length l) : Nat) : Int) = 0)
  · skip
    have h1p := of_decide_eq_false h1
    exact absurd h1p (by omega)
  have h1p := of_decide_eq_true h1
  refine x_f (by kernel_rfl) <| x_skipc <| x_then <| x_seq <| x_seq <| x_region <| x_b H [.m, .m, .m] ?_
  refine x_nil <| x_then <| x_block <| x_loop (G := Nat) (fun (k : Nat) a w' => ∃ uf1 : Nat → Value, a = frm 26 uf1 [(1, .slice none 0 0), (12, .slice (some ⟨g1, 0, none⟩) (List.length l) c1), (13, .int .i64 (((List.length l) : Nat) : Int)), (14, .int .i64 (k : Int))] [] ∧ Hs [] w0 w' [] ∧ (k ≤ l.length)) (fun (k : Nat) => l.length - k) 0 ⟨_, frm_of, H, (Nat.zero_le _)⟩ ?_
  clear H
  rintro k _ v1 ⟨uf1, rfl, H, r1⟩
  refine x_seq <| x_region <| x_b H [.v (.bool (decide ((k : Int) < (((List.length l) : Nat) : Int))))] <| x_nil <| x_then <| x_seq ?_
  cases h2 : decide ((k : Int) < (((List.length l) : Nat) : Int))
  · skip
    have h2p := of_decide_eq_false h2
    refine x_f (by kernel_rfl) <| x_exit <| x_then_exit <| x_then_exit <| x_blk_exit <| x_then <| x_seq ?_
    refine x_region <| x_b H [.m] <| x_nil <| x_then <| x_retc <| x_ret (.bool true) (by kernel_rfl) (by kernel_rfl) ?_
    exact ⟨rfl, H.below⟩
  have h2p := of_decide_eq_true h2
  exact absurd h2p (by omega)
set_option maxRecDepth 100000 in
set_option maxHeartbeats 4000000 in
theorem ev_ss {g1 c1 g2 c2 : Nat} {l : List Int3} (hl : l.length ≤ 4096)  (w0 : World) (hR : Ro w0 [.row (.slice (some ⟨g1, 0, none⟩) (List.length l) c1) 81 3 (List.length l) (List.flatMap int3L l), .row (.slice (some ⟨g2, 0, none⟩) (List.length l) c2) 165 3 (List.length l) (List.flatMap int3L l)]) :
    Calls Try.prog 104 #[.slice (some ⟨g1, 0, none⟩) (List.length l) c1, .slice (some ⟨g2, 0, none⟩) (List.length l) c2] w0 fun e w' => e = .returned (.bool true) ∧ Below w0.heap.size w0 w' := by
  refine z_enter Try.func104 rfl ?_
  have H := Hs.nil w0
  have R0 := hR
  refine x_seq <| x_region <| x_b H [.m] <| x_nil <| x_then <| x_seq <| x_seq ?_
  refine x_region <| x_b H [.m, .m, .m, .m] <| x_eq (.bool false) (show Value.bool (!decide ((((List.length l) : Nat) : Int) = (((List.length l) : Nat) : Int))) = Value.bool false by simp) (by kernel_rfl) rfl (by kernel_rfl) <| x_nil <| x_then <| x_f (by kernel_rfl) <| x_skipc ?_
  refine x_then <| x_seq <| x_seq <| x_region <| x_b H [.m, .m, .m] <| x_nil <| x_then ?_
  refine x_block <| x_loop (G := Nat) (fun (k : Nat) a w' => ∃ uf1 : Nat → Value, a = frm 26 uf1 [(1, .slice (some ⟨g2, 0, none⟩) (List.length l) c2), (12, .slice (some ⟨g1, 0, none⟩) (List.length l) c1), (13, .int .i64 (((List.length l) : Nat) : Int)), (14, .int .i64 (k : Int))] [] ∧ Hs [] w0 w' [] ∧ (k ≤ l.length)) (fun (k : Nat) => l.length - k) 0 ⟨_, frm_of, H, (Nat.zero_le _)⟩ ?_
  clear H
  rintro k _ v1 ⟨uf1, rfl, H, r1⟩
  refine x_seq <| x_region <| x_b H [.v (.bool (decide ((k : Int) < (((List.length l) : Nat) : Int))))] <| x_nil <| x_then <| x_seq ?_
  cases h1 : decide ((k : Int) < (((List.length l) : Nat) : Int))
  · skip
    have h1p := of_decide_eq_false h1
    refine x_f (by kernel_rfl) <| x_exit <| x_then_exit <| x_then_exit <| x_blk_exit <| x_then <| x_seq ?_
    refine x_region <| x_b H [.m] <| x_nil <| x_then <| x_retc <| x_ret (.bool true) (by kernel_rfl) (by kernel_rfl) ?_
    exact ⟨rfl, H.below⟩
  have h1p := of_decide_eq_true h1
  refine x_t (by kernel_rfl) <| x_skipc <| x_then <| x_seq <| x_block <| x_seq <| x_region ?_
  refine x_b H [.m] <| x_ix (t := 75) g1 0 k (List.length l) c1 81 3 (k * 3) (by omega) (by omega) (by kernel_rfl) (by kernel_rfl) (by kernel_rfl) rfl (by kernel_rfl) <| x_loadcn (t := 81) g1 (k * 3) [.int .i64 ((l.getD k (0, 0, 0)).1), .int .i64 ((l.getD k (0, 0, 0)).2.1), .int .i64 ((l.getD k (0, 0, 0)).2.2)] ((H.ro R0).rowCells 0 rfl (k * 3) (flatAt int3Len (0, 0, 0) _ (by omega))) (by kernel_rfl) rfl (by kernel_rfl) (by kernel_rfl) <| z_box H #[.int .i64 0, .int .i64 0, .int .i64 0] 81 (fun v2 g1 H => ?_)
  refine x_b H [.m] <| z_store H 0 0 [.int .i64 ((l.getD k (0, 0, 0)).1), .int .i64 ((l.getD k (0, 0, 0)).2.1), .int .i64 ((l.getD k (0, 0, 0)).2.2)] (fun v3 H => ?_)
  refine x_nil <| x_then <| x_seq <| z_region_whole H <| q_b [.n 0 0 3 81, .m, .m] <| q_ix (t := 144) g2 0 k (List.length l) c2 165 3 (k * 3) (by omega) (by omega) (by kernel_rfl) (by kernel_rfl) (by kernel_rfl) (fun _ => by kernel_rfl) <| q_loadcn (t := 165) g2 (k * 3) [.int .i64 ((l.getD k (0, 0, 0)).1), .int .i64 ((l.getD k (0, 0, 0)).2.1), .int .i64 ((l.getD k (0, 0, 0)).2.2)] (fun _ H => (H.ro R0).rowCells 1 rfl (k * 3) (flatAt int3Len (0, 0, 0) _ (by omega))) (by kernel_rfl) (by kernel_rfl) (by kernel_rfl) ?_
  have h2 : (decide ((((l.getD k (0, 0, 0)).1) : Int) = ((l.getD k (0, 0, 0)).1)) && (decide ((((l.getD k (0, 0, 0)).2.1) : Int) = ((l.getD k (0, 0, 0)).2.1)) && (decide ((((l.getD k (0, 0, 0)).2.2) : Int) = ((l.getD k (0, 0, 0)).2.2)) && true))) = true := by simp
  refine q_val (.bool false) (by kernel_rfl) (fun _ => ((run_neS (t := 165) (x := .tmp 19) (y := .tmp 23) (xs := #[.int .i64 ((l.getD k (0, 0, 0)).1), .int .i64 ((l.getD k (0, 0, 0)).2.1), .int .i64 ((l.getD k (0, 0, 0)).2.2)]) (ys := #[.int .i64 ((l.getD k (0, 0, 0)).1), .int .i64 ((l.getD k (0, 0, 0)).2.1), .int .i64 ((l.getD k (0, 0, 0)).2.2)]) (B := decide ((((l.getD k (0, 0, 0)).1) : Int) = ((l.getD k (0, 0, 0)).1)) && (decide ((((l.getD k (0, 0, 0)).2.1) : Int) = ((l.getD k (0, 0, 0)).2.1)) && (decide ((((l.getD k (0, 0, 0)).2.2) : Int) = ((l.getD k (0, 0, 0)).2.2)) && true))) (by kernel_rfl) (by kernel_rfl) (by kernel_rfl)).trans (by rw [h2]; try rfl))) <| q_nil ?_
  clear H
  intro v4 H
  refine x_then <| x_f (by kernel_rfl) <| x_skipc <| x_blk <| x_then <| x_region <| z_ar ((k : Int) + 1) ?_
  refine x_b H [.m] <| x_nil <| x_then ?_
  replace H := H.pk []
  exact ⟨(k + 1), (by omega), _, frm_of, H, (by omega)⟩
theorem events_of {u v : Value} {l : List Int3} (hl : l.length ≤ 4096) (w0 : World) (hR : Ro w0 [.row (u) 81 3 (List.length l) (List.flatMap int3L l), .row (v) 165 3 (List.length l) (List.flatMap int3L l)]) : Calls Try.prog 104 #[u, v] w0 fun e w' => e = .returned (.bool true) ∧ Below w0.heap.size w0 w' := by
  rcases rowForm (hR 0 _ rfl : w0.ownsRow 0 _ 3 u _ _) with ⟨rfl, h0⟩ | ⟨g1, c1, rfl, hc1, _⟩ <;> rcases rowForm (hR 1 _ rfl : w0.ownsRow 0 _ 3 v _ _) with ⟨rfl, h1⟩ | ⟨g2, c2, rfl, hc2, _⟩
  · exact ev_nn (g1 := 0) (c1 := 0) (g2 := 0) (c2 := 0) hl w0 (hR.pick [] _ rfl)
  · exact ev_ns (g1 := 0) (c1 := 0) hl h0 w0 (hR.pick [1] _ rfl)
  · exact ev_sn (g2 := 0) (c2 := 0) hl h1 w0 (hR.pick [0] _ rfl)
  · exact ev_ss hl w0 hR
end Go.Proofs.Ytpmnnijjohlloaa
