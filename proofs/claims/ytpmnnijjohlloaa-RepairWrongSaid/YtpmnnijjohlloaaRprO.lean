/- Where all lines are routed; the law RepairMoves, walked. -/
import Derived.Test.YtpmnnijjohlloaaRprS
import Derived.Test.YtpmnnijjohlloaaRprT
import Derived.Test.YtpmnnijjohlloaaRemapE
import Derived.Test.YtpmnnijjohlloaaRprJ
import Derived.Test.YtpmnnijjohlloaaRat3
import Derived.Test.YtpmnnijjohlloaaPxZ
namespace Go.Proofs.Ytpmnnijjohlloaa
open Go Go.RowKit
set_option linter.unusedVariables false
set_option linter.unusedSimpArgs false
set_option maxRecDepth 100000 in
set_option maxHeartbeats 4000000 in
theorem has21_s {g cap : Nat} (l : List Int) (hl : l.length ≤ 1000000000) (v : Int) (w0 : World) (hR : Ro w0 [.row (.slice (some ⟨g, 0, none⟩) (List.length l) cap) 3 1 (List.length l) (List.map (Value.int .i64) l)]) :
    Calls Try.prog 43 #[.slice (some ⟨g, 0, none⟩) (List.length l) cap, .int .i64 v] w0 fun e w' => e = .returned (.bool (decide (v ∈ l))) ∧ Below w0.heap.size w0 w' := by
  refine z_enter Try.func43 rfl ?_
  have H := Hs.nil w0
  have R0 := hR
  refine x_seq <| x_region <| x_b H [.m] <| x_nil <| x_then <| x_seq <| x_seq ?_
  refine x_region <| x_b H [.m, .m, .m] <| x_nil <| x_then <| x_block <| x_loop (G := Nat) (fun (k : Nat) a w' => ∃ uf1 : Nat → Value, a = frm 17 uf1 [(1, .int .i64 v), (7, .slice (some ⟨g, 0, none⟩) (List.length l) cap), (8, .int .i64 (((List.length l) : Nat) : Int)), (9, .int .i64 (k : Int))] [] ∧ Hs [] w0 w' [] ∧ (k ≤ l.length) ∧ (∀ j, j < k → ¬ l.getD j 0 = v)) (fun (k : Nat) => l.length - k) 0 ⟨_, frm_of, H, (Nat.zero_le _), (fun j hj => absurd hj (Nat.not_lt_zero _))⟩ ?_
  clear H
  rintro k _ v1 ⟨uf1, rfl, H, r1, r2⟩
  refine x_seq <| x_region <| x_b H [.v (.bool (decide ((k : Int) < (((List.length l) : Nat) : Int))))] <| x_nil <| x_then <| x_seq ?_
  cases h1 : decide ((k : Int) < (((List.length l) : Nat) : Int))
  · skip
    have h1p := of_decide_eq_false h1
    refine x_f (by kernel_rfl) <| x_exit <| x_then_exit <| x_then_exit <| x_blk_exit <| x_then <| x_seq ?_
    refine x_region <| x_b H [.m] <| x_nil <| x_then <| x_retc <| x_ret (.bool false) (by kernel_rfl) (by kernel_rfl) ?_
    have e : decide (v ∈ l) = false := decide_eq_false fun hm => by obtain ⟨j, hj, e⟩ := List.getElem_of_mem hm; exact r2 j (by omega) (by simp [List.getD, hj, e])
    exact ⟨by rw [e], H.below⟩
  have h1p := of_decide_eq_true h1
  refine x_t (by kernel_rfl) <| x_skipc <| x_then <| x_seq <| x_block <| x_seq <| x_region ?_
  refine x_ix (t := 40) g 0 k (List.length l) cap 3 1 k (by omega) (by omega) (by kernel_rfl) (by kernel_rfl) (by kernel_rfl) rfl (by kernel_rfl) <| x_loadc g k (.int .i64 (l.getD k 0)) ((H.ro R0).rowCell 0 rfl k (mapAt 0 (by omega))) (by kernel_rfl) rfl (by kernel_rfl) <| x_b H [.m] <| x_nil <| x_then <| x_seq <| x_region ?_
  refine x_b H [.m, .m, .v (.bool (decide (v = (l.getD k 0))))] <| x_nil <| x_then ?_
  cases h2 : decide (v = (l.getD k 0))
  · skip
    have h2p := of_decide_eq_false h2
    refine x_f (by kernel_rfl) <| x_skipc <| x_blk <| x_then <| x_region <| z_ar ((k : Int) + 1) <| x_b H [.m] ?_
    refine x_nil <| x_then ?_
    exact ⟨(k + 1), (by omega), _, frm_of, H, (by omega), (fun j hj => by by_cases e : j = k; (subst e; intro e; exact absurd e.symm h2p); exact r2 j (by omega))⟩
  have h2p := of_decide_eq_true h2
  refine x_t (by kernel_rfl) <| x_seq <| x_region <| x_b H [.m] <| x_nil <| x_then <| x_retc ?_
  refine x_blk_ret <| x_then_ret <| x_then_ret <| x_blk_ret <| x_then_ret <| x_ret (.bool true) (by kernel_rfl) (by kernel_rfl) ?_
  have e : decide (v ∈ l) = true := decide_eq_true (by rw [h2p]; exact getD_mem (by omega) 0)
  exact ⟨by rw [e], H.below⟩
set_option maxRecDepth 100000 in
set_option maxHeartbeats 4000000 in
theorem has21_n (v : Int) (w0 : World) :
    Calls Try.prog 43 #[.slice none 0 0, .int .i64 v] w0 fun e w' => e = .returned (.bool false) ∧ Below w0.heap.size w0 w' := by
  refine z_enter Try.func43 rfl ?_
  have H := Hs.nil w0
  refine x_seq <| x_region <| x_b H [.m] <| x_nil <| x_then <| x_seq <| x_seq ?_
  refine x_region <| x_b H [.m, .m, .m] <| x_nil <| x_then <| x_block <| x_loop (G := Unit) (fun (_ : Unit) a w' => ∃ uf1 : Nat → Value, a = frm 17 uf1 [(1, .int .i64 v), (7, .slice none 0 0), (8, .int .i64 0), (9, .int .i64 0)] [] ∧ Hs [] w0 w' []) (fun _ => 0) () ⟨_, frm_of, H⟩ ?_
  clear H
  rintro _ _ v1 ⟨uf1, rfl, H⟩
  refine x_seq <| x_region <| x_b H [.m] <| x_nil <| x_then <| x_seq <| x_f (by kernel_rfl) ?_
  refine x_exit <| x_then_exit <| x_then_exit <| x_blk_exit <| x_then <| x_seq <| x_region ?_
  refine x_b H [.m] <| x_nil <| x_then <| x_retc <| x_ret (.bool false) (by kernel_rfl) (by kernel_rfl) ?_
  exact ⟨rfl, H.below⟩
theorem has21_any {u : Value} (l : List Int) (hl : l.length ≤ 1000000000) (v : Int) (w0 : World) (hR : Ro w0 [.row (u) 3 1 (List.length l) (List.map (Value.int .i64) l)]) : Calls Try.prog 43 #[u, .int .i64 v] w0 fun e w' => e = .returned (.bool (decide (v ∈ l))) ∧ Below w0.heap.size w0 w' := by
  rcases rowForm (hR 0 _ rfl : w0.ownsRow 0 _ 1 u _ _) with ⟨rfl, h0⟩ | ⟨g1, c1, rfl, hc1, _⟩
  · have e : decide (v ∈ l) = false := decide_eq_false fun hm => by
      have := List.length_pos_of_mem hm; omega
    rw [e]; exact has21_n v w0
  · exact has21_s l hl v w0 hR
end Go.Proofs.Ytpmnnijjohlloaa
