/- A text's lines, one by one. -/
import Derived.Test.YtjbaabffilejeaaDoorLnP
import Derived.Test.YtjbaabffilejeaaDoorPxZ
namespace Go.Proofs.YtjbaabffilejeaaDoor
open Go Go.RowKit
set_option linter.unusedVariables false
set_option linter.unusedSimpArgs false
set_option maxRecDepth 100000 in
set_option maxHeartbeats 4000000 in
theorem LinesIt_of (l : List UInt8) (w0 : World) :
    Calls Tryd.prog 48 #[S l] w0 fun e w' => ∃ q, e = .returned (.func (.func 64) #[] #[.pointer (some ⟨q, 0, none⟩)]) ∧ Hs [] w0 w' [.blk q #[S l] 9] := by
  refine z_enter Tryd.func48 rfl ?_
  have H := Hs.nil w0
  refine x_seq <| x_region <| z_box H #[S l] 9 (fun v1 g1 H => ?_)
  refine x_b H [.m] <| x_nil <| x_then <| x_seq <| x_region <| x_b H [.m, .m] <| x_nil ?_
  refine x_then <| x_retc <| x_ret (.func (.func 64) #[] #[.pointer (some ⟨g1, 0, none⟩)]) (by kernel_rfl) (by kernel_rfl) ?_
  exact ⟨_, rfl, H⟩
set_option maxRecDepth 100000 in
set_option maxHeartbeats 2000000 in
theorem lines_it {q : Nat} {bs : List (List UInt8)} (hn : noNl bs) (hl : (unl bs).length ≤ 900000) (W0 : World) {M : List Nat} {wz : World} (hR : Hs M wz W0 [.blk q #[S (unl bs)] 9]) :
    SeqQ Tryd.prog q 9 [] 64 #[.pointer (some ⟨q, 0, none⟩)] (fun x : List UInt8 => #[S (x ++ [10])]) bs W0 := fun l0 J Jx W hW hJ hY h0 => callsFW.2 (by
  have H00 : Hs [q] W W [.blk q #[S (unl bs)] 9] := hR.shift (fun g hg => hW g hg)
  refine z_enter Tryd.func64 rfl ?_
  have H := H00
  refine x_block <| x_loop (G := List (List UInt8) × List (List UInt8) × World) (fun gh a w' => match gh with | (r, pre, wb) => ∃ uf1 : Nat → Value, a = frm 25 uf1 [(0, .func (.yield l0) #[] #[]), (1, .pointer (some ⟨q, 0, none⟩))] [] ∧ Hs [q] wb w' [.blk q #[S (unl r)] 9] ∧ (bs = pre ++ r) ∧ (J pre wb)) (fun gh => match gh with | (r, pre, wb) => r.length) (bs, [], W) ⟨_, frm_of, H, rfl, h0⟩ ?_
  clear H
  rintro ⟨r, pre, wb⟩ _ v1 ⟨uf1, rfl, H, r1, r2⟩
  have hJ1 := r2
  rcases r with _ | ⟨b, r⟩
  · skip
    replace H : Hs [q] wb _ [.blk q #[S ([] : List UInt8)] 9] := hsAs H (by kernel_rfl)
    refine x_seq <| x_seq <| x_region <| x_b H [.l 0 0, .m, .m] <| x_nil <| x_then <| x_f (by kernel_rfl) ?_
    refine x_exit <| x_then_exit <| x_then_exit <| x_blk_exit <| x_end (.tuple #[]) (by kernel_rfl) (by kernel_rfl) ?_
    have q := hJ _ _ _ hJ1 H.fr ⟨_, H.blk 0 rfl⟩
    exact ⟨⟨_, rfl⟩, .inl (by rw [r1, List.append_nil]; exact q)⟩
  · skip
    replace H : Hs [q] wb _ [.blk q #[S ((b ++ [10]) ++ unl r)] 9] := hsAs H (by kernel_rfl)
    have hn0 : ¬ (10 : UInt8) ∈ b := hn b (by rw [r1]; simp)
    have hbl : b.length ≤ 899999 := by have q := hl; rw [r1, unl_app, unl_cons] at q; simp only [List.length_append, List.length_cons, List.length_nil] at q; omega
    refine x_seq <| x_seq <| x_region <| x_b H [.l 0 0, .m, .v (.bool (decide (0 < ((((b ++ [10]) ++ unl r).length : Nat) : Int))))] <| x_nil <| x_then ?_
    cases h1 : decide (0 < ((((b ++ [10]) ++ unl r).length : Nat) : Int))
    · skip
      have h1p := of_decide_eq_false h1
      exact absurd h1p (by simp; omega)
    have h1p := of_decide_eq_true h1
    refine x_t (by kernel_rfl) <| x_skipc <| x_then <| x_block <| x_seq <| x_region <| x_b H [.m] ?_
    refine x_nil <| x_then <| x_seq <| x_seq <| x_region <| x_b H [.l 0 0] <| z_callB H (IxNl (r := unl r) hn0) fun v2 H => ?_
    refine x_b H [.m] <| x_nil <| x_then <| x_seq <| x_region <| x_b H [.m, .v (.bool (decide (0 ≤ ((b.length : Nat) : Int))))] <| x_nil ?_
    refine x_then ?_
    cases h2 : decide (0 ≤ ((b.length : Nat) : Int))
    · skip
      have h2p := of_decide_eq_false h2
      exact absurd h2p (by omega)
    have h2p := of_decide_eq_true h2
    refine x_t (by kernel_rfl) <| z_region_head H 9 ?_
    simp only [List.take_succ_cons, List.take_zero, List.drop_succ_cons, List.drop_zero]
    refine q_b [.l 0 0, .m] <| q_eq (.int .i64 ((b.length + 1 : Nat) : Int)) (add1 (by omega)) (by kernel_rfl) (fun _ => by kernel_rfl) <| q_val (S (b ++ [10])) (by kernel_rfl) (fun _ => (Eq.trans (by kernel_rfl) (strToE (h := b.length + 1) (P := Tryd.prog) (t := 9) (l := ((b ++ [10]) ++ unl r)) (by kernel_rfl) (by simp) (by rw [List.take_left' (by simp)])))) <| q_b [.l 0 0, .m] <| q_eq (.int .i64 ((b.length + 1 : Nat) : Int)) (add1 (by omega)) (by kernel_rfl) (fun _ => by kernel_rfl) <| q_val (S (unl r)) (by kernel_rfl) (fun _ => (Eq.trans (by kernel_rfl) (strFromE (k := b.length + 1) (P := Tryd.prog) (t := 9) (l := ((b ++ [10]) ++ unl r)) (by kernel_rfl) (by simp) (by rw [List.drop_left' (by simp)])))) <| q_b [.m] ?_
    refine q_nil ?_
    clear H
    intro v3 H
    refine z_store H 0 0 [S (unl r)] (fun v4 H => ?_)
    refine x_nil <| x_then <| x_seq <| x_region <| x_b H [.m, .m] ?_
    have HJ2 := hJ _ _ _ hJ1 H.fr ⟨_, H.blk 0 rfl⟩
    refine x_yield (hY _ b _ (pre_one (xs := bs) (ys := r) r1) HJ2) (by kernel_rfl) rfl (by kernel_rfl) ?_
    rintro e v2 (⟨rfl, hJ3, hKp⟩ | ⟨rfl, hJx3⟩)
    · skip
      refine ⟨_, rfl, ?_⟩
      replace H := H.shift (fun g hg => hKp g hg)
      refine x_b H [.m] <| x_nil <| x_then <| x_f (by kernel_rfl) <| x_skipc <| x_blk <| x_then ?_
      exact ⟨(r, (pre ++ [b]), v2), (by simp), _, frm_of, H, (by rw [r1]; simp), hJ3⟩
    · skip
      refine ⟨_, rfl, ?_⟩
      clear H
      have H := Hs.nil v2
      refine x_b H [.m] <| x_nil <| x_then <| x_t (by kernel_rfl) <| x_retc <| x_blk_ret <| x_then_ret ?_
      refine x_blk_ret <| x_ret (.tuple #[]) (by kernel_rfl) (by kernel_rfl) ?_
      exact ⟨⟨_, rfl⟩, .inr ⟨_, pre_one (ys := _) r1, hJx3⟩⟩)
end Go.Proofs.YtjbaabffilejeaaDoor
