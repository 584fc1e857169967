/- Contracts of a ring of asks. -/
import Derived.Test.YtpmnnijjohlloaaGreatRprQ
import Derived.Test.YtpmnnijjohlloaaGreatPxE
import Derived.Test.YtpmnnijjohlloaaGreatPxZ
namespace Go.Proofs.YtpmnnijjohlloaaGreat
open Go Go.RowKit
set_option linter.unusedVariables false
set_option linter.unusedSimpArgs false
set_option maxRecDepth 100000 in
set_option maxHeartbeats 4000000 in
theorem Rplace {q gq cq : Nat} {ls : List Ent} {ra qn : Nat} (hl : ls.length = 256) (ha : ra < 256) (i : Nat) (hi : i ≤ 4096) (w0 : World) (hR : Ro w0 [.blk q #[.slice (some ⟨gq, 0, none⟩) 256 cq, .int .i64 ((ra : Nat) : Int), .int .i64 ((qn : Nat) : Int)] 123, .row (.slice (some ⟨gq, 0, none⟩) 256 cq) 52 2 256 (List.flatMap entL ls)]) :
    Calls Tryz.prog 70 #[.pointer (some ⟨q, 0, none⟩), .int .i64 ((i : Nat) : Int)] w0 fun e w' => e = .returned (.int .i64 ((((ra + i) % 256) : Nat) : Int)) ∧ Below w0.heap.size w0 w' := by
  refine z_enter Tryz.func70 rfl ?_
  have H := Hs.nil w0
  have R0 := hR
  refine x_seq <| x_region <| x_b H [.m] <| x_nil <| x_then <| x_seq <| z_region_whole H ?_
  refine q_b [.m, .m, .m] <| q_loadc q 1 (.int .i64 (ra : Int)) (fun _ H => (H.ro R0).cell 0 rfl 1 rfl) (by kernel_rfl) (fun _ => by kernel_rfl) <| q_b [.m] <| q_ar ((ra : Int) + (i : Int)) ⟨by omega, by omega⟩ (by kernel_rfl) (fun _ => by kernel_rfl) <| q_b [.m, .m, .m] <| q_loadc q 0 (.slice (some ⟨gq, 0, none⟩) 256 cq) (fun _ H => (H.ro R0).cell 0 rfl 0 rfl) (by kernel_rfl) (fun _ => by kernel_rfl) <| q_b [.m] ?_
  refine q_eq (.int .i64 (((ra : Int) + (i : Int)) % 256)) (e_rem ((ra : Int) + (i : Int)) 256 (by omega)) (by kernel_rfl) (fun _ => by kernel_rfl) <| q_b [.m] <| q_nil ?_
  clear H
  intro v1 H
  refine x_then <| x_retc <| x_ret (.int .i64 (((ra : Int) + (i : Int)) % 256)) (by kernel_rfl) (by kernel_rfl) ?_
  exact ⟨rfl, H.below⟩
set_option maxRecDepth 100000 in
set_option maxHeartbeats 4000000 in
theorem RNew (w0 : World) :
    Calls Tryz.prog 40 #[.int .i64 256] w0 fun e w' => ∃ q gq cq, e = .returned (.tuple #[.pointer (some ⟨q, 0, none⟩), .int .i64 0]) ∧ Hs [] w0 w' [.blk q #[.slice (some ⟨gq, 0, none⟩) 256 cq, .int .i64 ((0 : Nat) : Int), .int .i64 ((0 : Nat) : Int)] 123, .row (.slice (some ⟨gq, 0, none⟩) 256 cq) 52 2 256 (List.flatMap entL (List.replicate 256 ((0, 0) : Ent)))] := by
  refine z_enter Tryz.func40 rfl ?_
  have H := Hs.nil w0
  refine x_seq <| x_region <| x_b H [.m, .m] <| x_nil <| x_then <| x_seq <| x_seq ?_
  refine x_region <| x_b H [.m, .m, .m, .m, .m, .m] <| x_nil <| x_then <| x_f (by kernel_rfl) <| x_skipc <| x_then ?_
  refine x_seq <| x_region <| x_b H [.m] <| x_makeN H 48 52 2 16 256 (.agg #[.int .i64 0, .int .i64 0]) entL (0, 0) (by kernel_rfl) (by kernel_rfl) rfl (entLen _) (by decide) (by unfold maxLen; omega) (by omega) (by kernel_rfl) rfl (by kernel_rfl) ?_
  clear H
  intro v1 g1 H
  refine x_b H [.m] <| z_box H #[.slice (some ⟨g1, 0, none⟩) 256 256, .int .i64 0, .int .i64 0] 123 (fun v2 g2 H => ?_)
  refine x_b H [.m, .m] <| x_nil <| x_then <| x_retc <| x_ret (.tuple #[.pointer (some ⟨g2, 0, none⟩), .int .i64 0]) (by kernel_rfl) (by kernel_rfl) ?_
  exact ⟨g2, g1, 256, rfl, H.pick [0, 1] _ (by decide) (by kernel_rfl)⟩
set_option maxRecDepth 100000 in
set_option maxHeartbeats 4000000 in
theorem RAll (q : Nat) (w0 : World) :
    Calls Tryz.prog 27 #[.pointer (some ⟨q, 0, none⟩)] w0 fun e w' => ∃ qp, e = .returned (.func (.func 69) #[] #[.pointer (some ⟨qp, 0, none⟩)]) ∧ Hs [] w0 w' [.blk qp #[.pointer (some ⟨q, 0, none⟩)] 72] := by
  refine z_enter Tryz.func27 rfl ?_
  have H := Hs.nil w0
  refine x_seq <| x_region <| z_box H #[.pointer (some ⟨q, 0, none⟩)] 72 (fun v1 g1 H => ?_)
  refine x_b H [.m] <| x_nil <| x_then <| x_seq <| x_region <| x_b H [.m, .m] <| x_nil ?_
  refine x_then <| x_retc <| x_ret (.func (.func 69) #[] #[.pointer (some ⟨g1, 0, none⟩)]) (by kernel_rfl) (by kernel_rfl) ?_
  exact ⟨_, rfl, H⟩
set_option maxRecDepth 100000 in
set_option maxHeartbeats 2000000 in
theorem rvals {qp : Nat} {q gq cq : Nat} {ls : List Ent} {ra qn : Nat} {Q : List Ent} (hk : RgOk ls ra qn Q) (W0 : World) (hR : Ro W0 [.blk qp #[.pointer (some ⟨q, 0, none⟩)] 72, .blk q #[.slice (some ⟨gq, 0, none⟩) 256 cq, .int .i64 ((ra : Nat) : Int), .int .i64 ((qn : Nat) : Int)] 123, .row (.slice (some ⟨gq, 0, none⟩) 256 cq) 52 2 256 (List.flatMap entL ls)]) :
    SeqStopsK (FW none) 0 Tryz.prog 69 #[.pointer (some ⟨qp, 0, none⟩)] (fun x : QEnt => #[.int .i64 ((x.1 : Nat) : Int), .agg #[.int .i64 x.2.1, .int .i64 x.2.2]]) (KpOf [.blk qp #[.pointer (some ⟨q, 0, none⟩)] 72, .blk q #[.slice (some ⟨gq, 0, none⟩) 256 cq, .int .i64 ((ra : Nat) : Int), .int .i64 ((qn : Nat) : Int)] 123, .row (.slice (some ⟨gq, 0, none⟩) 256 cq) 52 2 256 (List.flatMap entL ls)]) (fun ys => ys = idxQ Q) (fun pre => pre <+: idxQ Q) (idxQ Q).length W0 := fun l J Jx W hW hJ hJx hY h0 => callsFW.2 (by
  refine z_enter Tryz.func69 rfl ?_
  have H := Hs.nil W
  have R0 : Ro W [.blk qp #[.pointer (some ⟨q, 0, none⟩)] 72, .blk q #[.slice (some ⟨gq, 0, none⟩) 256 cq, .int .i64 (ra : Int), .int .i64 (qn : Int)] 123, .row (.slice (some ⟨gq, 0, none⟩) 256 cq) 52 2 256 (List.flatMap entL ls)] := fun i r hi => Res.keep (hR i r hi) fun g hg => hW.block g (Res.lt (hR i r hi) g hg)
  have hlQ := idxQ_len Q
  have hQn := hk.hQ
  have hn4 := hk.hn
  have hl4 := hk.len
  refine x_seq <| x_region <| x_loadc qp 0 (.pointer (some ⟨q, 0, none⟩)) ((H.ro R0).cell 0 rfl 0 rfl) (by kernel_rfl) rfl (by kernel_rfl) <| x_b H [.m, .m] <| x_loadc q 2 (.int .i64 (qn : Int)) ((H.ro R0).cell 1 rfl 2 rfl) (by kernel_rfl) rfl (by kernel_rfl) <| x_b H [.m] <| x_nil ?_
  refine x_then <| x_block <| x_loop (G := Nat × World) (fun gh a w' => match gh with | (k, wb) => ∃ uf1 : Nat → Value, a = frm 25 uf1 [(0, .func (.yield l) #[] #[]), (1, .pointer (some ⟨qp, 0, none⟩)), (7, .int .i64 (qn : Int)), (8, .int .i64 (k : Int))] [] ∧ Hs [] wb w' [] ∧ (k ≤ qn) ∧ (J ((idxQ Q).take k) wb) ∧ (Ro wb [.blk qp #[.pointer (some ⟨q, 0, none⟩)] 72, .blk q #[.slice (some ⟨gq, 0, none⟩) 256 cq, .int .i64 (ra : Int), .int .i64 (qn : Int)] 123, .row (.slice (some ⟨gq, 0, none⟩) 256 cq) 52 2 256 (List.flatMap entL ls)])) (fun gh => match gh with | (k, wb) => qn - k) (0, W) ⟨_, frm_of, H, (Nat.zero_le _), (by simpa using h0), R0⟩ ?_
  clear H
  rintro ⟨k, wb⟩ _ v1 ⟨uf1, rfl, H, r1, r2, r3⟩
  have hJ1 := r2
  have R0 := r3
  refine x_seq <| x_region <| x_b H [.v (.bool (decide ((k : Int) < (qn : Int))))] <| x_nil <| x_then <| x_seq ?_
  cases h1 : decide ((k : Int) < (qn : Int))
  · skip
    have h1p := of_decide_eq_false h1
    refine x_f (by kernel_rfl) <| x_exit <| x_then_exit <| x_then_exit <| x_blk_exit <| x_end (.tuple #[]) (by kernel_rfl) (by kernel_rfl) ?_
    have hk1 : k = (idxQ Q).length := by omega
    have HJ2 := hJ _ _ _ none hJ1 (below_grown H.below) (fun r e => by cases e)
    rw [hk1, List.take_length] at HJ2
    exact ⟨⟨_, rfl⟩, .inl ⟨_, rfl, HJ2⟩⟩
  have h1p := of_decide_eq_true h1
  refine x_t (by kernel_rfl) <| x_skipc <| x_then <| x_seq <| x_block <| x_seq <| x_region ?_
  refine x_b H [.m, .m] <| x_nil <| x_then <| x_seq <| z_region_head H 11 <| q_b [.m, .m] <| q_loadc qp 0 (.pointer (some ⟨q, 0, none⟩)) (fun _ H => (H.ro R0).cell 0 rfl 0 rfl) (by kernel_rfl) (fun _ => by kernel_rfl) ?_
  refine q_b [.m, .m] <| q_loadc q 0 (.slice (some ⟨gq, 0, none⟩) 256 cq) (fun _ H => (H.ro R0).cell 1 rfl 0 rfl) (by kernel_rfl) (fun _ => by kernel_rfl) <| q_loadc qp 0 (.pointer (some ⟨q, 0, none⟩)) (fun _ H => (H.ro R0).cell 0 rfl 0 rfl) (by kernel_rfl) (fun _ => by kernel_rfl) <| q_b [.m] <| q_callR (.int .i64 ((((ra + k) % 256) : Nat) : Int)) (by kernel_rfl) (fun _ => by kernel_rfl) (fun _ H => (Rplace hk.len hk.ha k (by omega) _ ((H.ro R0).pick [1, 2] [.blk q #[.slice (some ⟨gq, 0, none⟩) 256 cq, .int .i64 (ra : Int), .int .i64 (qn : Int)] 123, .row (.slice (some ⟨gq, 0, none⟩) 256 cq) 52 2 256 (List.flatMap entL ls)] (by kernel_rfl)))) <| q_ix (t := 48) gq 0 ((ra + k) % 256) 256 cq 52 2 (((ra + k) % 256) * 2) (by omega) (by omega) (by kernel_rfl) (by kernel_rfl) (by kernel_rfl) (fun _ => by kernel_rfl) <| q_loadcn (t := 52) gq (((ra + k) % 256) * 2) [.int .i64 ((ls.getD ((ra + k) % 256) (0, 0)).1), .int .i64 ((ls.getD ((ra + k) % 256) (0, 0)).2)] (fun _ H => (H.ro R0).rowCells 2 rfl (((ra + k) % 256) * 2) (flatAt entLen (0, 0) _ (by omega))) (by kernel_rfl) (by kernel_rfl) (by kernel_rfl) ?_
  refine q_nil ?_
  clear H
  intro v2 H
  have HJ2 := hJ _ _ _ none hJ1 (below_grown H.below) (fun r e => by cases e)
  refine x_yield (hY _ ((idxQ Q).getD k (0, (0, 0))) _ HJ2 (by rw [List.length_take]; omega)) (by kernel_rfl) (by rfl) (by rw [idxQ_get _ _ (by omega), ← hk.el k (by omega)]; kernel_rfl) ?_
  rintro e v2 (⟨rfl, hJ3, hKp⟩ | ⟨rfl, hJx3⟩)
  · skip
    refine ⟨_, rfl, ?_⟩
    have R3 := hKp (H.ro R0)
    clear H
    have H := Hs.nil v2
    refine x_b H [.m] <| x_nil <| x_then <| x_f (by kernel_rfl) <| x_skipc <| x_blk <| x_then ?_
    refine x_region <| z_ar ((k : Int) + 1) <| x_b H [.m] <| x_nil <| x_then ?_
    exact ⟨(k + 1, v2), (by dsimp only; omega), _, frm_of, H, (by omega), (by rw [takeNext _ _ k (by omega)]; exact hJ3), R3⟩
  · skip
    refine ⟨_, rfl, ?_⟩
    clear H
    have H := Hs.nil v2
    refine x_b H [.m] <| x_nil <| x_then <| x_t (by kernel_rfl) <| x_retc <| x_blk_ret <| x_then_ret ?_
    refine x_then_ret <| x_blk_ret <| x_ret (.tuple #[]) (by kernel_rfl) (by kernel_rfl) ?_
    exact ⟨⟨_, rfl⟩, .inr ⟨_, by rw [← takeNext _ _ k (by omega)]; exact List.take_prefix _ _, hJx3⟩⟩)
set_option maxRecDepth 100000 in
set_option maxHeartbeats 4000000 in
theorem RHas {q gq cq : Nat} {ls : List Ent} {ra qn : Nat} {Q : List Ent} (hk : RgOk ls ra qn Q) (aq : Ent) (w0 : World) (H0 : Hs (fps [.blk q #[.slice (some ⟨gq, 0, none⟩) 256 cq, .int .i64 ((ra : Nat) : Int), .int .i64 ((qn : Nat) : Int)] 123, .row (.slice (some ⟨gq, 0, none⟩) 256 cq) 52 2 256 (List.flatMap entL ls)]) w0 w0 [.blk q #[.slice (some ⟨gq, 0, none⟩) 256 cq, .int .i64 ((ra : Nat) : Int), .int .i64 ((qn : Nat) : Int)] 123, .row (.slice (some ⟨gq, 0, none⟩) 256 cq) 52 2 256 (List.flatMap entL ls)]) :
    Calls Tryz.prog 59 #[.pointer (some ⟨q, 0, none⟩), .agg #[.int .i64 aq.1, .int .i64 aq.2]] w0 fun e w' => e = .returned (.bool (decide (aq ∈ Q))) ∧ Hs (fps [.blk q #[.slice (some ⟨gq, 0, none⟩) 256 cq, .int .i64 ((ra : Nat) : Int), .int .i64 ((qn : Nat) : Int)] 123, .row (.slice (some ⟨gq, 0, none⟩) 256 cq) 52 2 256 (List.flatMap entL ls)]) w0 w' [.blk q #[.slice (some ⟨gq, 0, none⟩) 256 cq, .int .i64 ((ra : Nat) : Int), .int .i64 ((qn : Nat) : Int)] 123, .row (.slice (some ⟨gq, 0, none⟩) 256 cq) 52 2 256 (List.flatMap entL ls)] := by
  refine x_enterM Tryz.func59 rfl #[.pointer (some ⟨q, 0, none⟩), .agg #[.int .i64 aq.1, .int .i64 aq.2], undef, undef, undef, undef, undef, undef, undef, undef, undef, undef, undef, undef] (by kernel_rfl) ?_
  have H := H0
  refine x_seq <| x_region <| z_box H #[.int .i64 aq.1, .int .i64 aq.2] 52 (fun v1 g1 H => ?_)
  refine z_box H #[.bool false] 4 (fun v2 g2 H => ?_)
  refine x_nil <| x_then <| x_seq <| x_seq <| x_region <| x_b H [.m] <| z_call (RAll q _) ?_
  rintro _ v3 ⟨qp, rfl, hN'⟩
  refine ⟨_, rfl, ?_⟩
  replace H := H.more hN'
  clear hN'
  refine x_nil <| x_then <| x_block ?_
  replace H := H.pk [0, 3, 4, 2, 1]
  refine x_rangeB (α := QEnt) (G := Bool) (idxQ Q) (fun x => #[.int .i64 ((x.1 : Nat) : Int), .agg #[.int .i64 x.2.1, .int .i64 x.2.2]]) [.blk qp #[.pointer (some ⟨q, 0, none⟩)] 72, .blk q #[.slice (some ⟨gq, 0, none⟩) 256 cq, .int .i64 (ra : Int), .int .i64 (qn : Int)] 123, .row (.slice (some ⟨gq, 0, none⟩) 256 cq) 52 2 256 (List.flatMap entL ls)] [0, 1, 2] (fps [.blk qp #[.pointer (some ⟨q, 0, none⟩)] 72, .blk q #[.slice (some ⟨gq, 0, none⟩) 256 cq, .int .i64 (ra : Int), .int .i64 (qn : Int)] 123, .row (.slice (some ⟨gq, 0, none⟩) 256 cq) 52 2 256 (List.flatMap entL ls), .blk g1 #[.int .i64 aq.1, .int .i64 aq.2] 52, .blk g2 #[.bool false] 4]) (fun pre (bb : Bool) => bb = false ∧ ∀ y ∈ pre, ¬ aq = y.2) (fun pre (bb : Bool) => [.blk qp #[.pointer (some ⟨q, 0, none⟩)] 72, .blk q #[.slice (some ⟨gq, 0, none⟩) 256 cq, .int .i64 (ra : Int), .int .i64 (qn : Int)] 123, .row (.slice (some ⟨gq, 0, none⟩) 256 cq) 52 2 256 (List.flatMap entL ls), .blk g1 #[.int .i64 aq.1, .int .i64 aq.2] 52, .blk g2 #[.bool bb] 4]) (fun cd pre (bb : Bool) => (cd = .ret ∧ (bb = true ∧ ∃ y ∈ pre, aq = y.2))) (fun x b => [.blk b #[.int .i64 x.2.1, .int .i64 x.2.2] 52]) (fun x b => { tmps := #[.pointer (some ⟨q, 0, none⟩), .agg #[.int .i64 aq.1, .int .i64 aq.2], undef, .pointer (some ⟨g1, 0, none⟩), .pointer (some ⟨g2, 0, none⟩), undef, .pointer (some ⟨b, 0, none⟩), .pointer (some ⟨q, 0, none⟩), .func (.func 69) #[] #[.pointer (some ⟨qp, 0, none⟩)], .int .i64 ((x.1 : Nat) : Int), .agg #[.int .i64 x.2.1, .int .i64 x.2.2], undef, undef, undef], defers := [] }) false (by kernel_rfl) (enters_of Tryz.func69 (by kernel_rfl) rfl) (rvals hk _ (H.roOf [0, 1, 2] _ (by kernel_rfl))) (fun _ => rfl) rfl (by rintro _ bb; rfl) (by rintro _ bb; rfl) (by rintro _ bb; rfl) (fun _ _ => rfl) (fun _ _ => rfl) H (⟨rfl, fun y hy => by simp at hy⟩) ?_ ?_ ?_ ?_
  · skip
    clear H
    rintro lrnd pre x bb W1 hI H
    refine x_at (b := { tmps := #[.pointer (some ⟨q, 0, none⟩), .agg #[.int .i64 aq.1, .int .i64 aq.2], undef, .pointer (some ⟨g1, 0, none⟩), .pointer (some ⟨g2, 0, none⟩), undef, undef, .pointer (some ⟨q, 0, none⟩), .func (.func 69) #[] #[.pointer (some ⟨qp, 0, none⟩)], .int .i64 ((x.1 : Nat) : Int), .agg #[.int .i64 x.2.1, .int .i64 x.2.2], undef, undef, undef], defers := [] }) (by kernel_rfl) <| x_region <| z_box H #[.int .i64 0, .int .i64 0] 52 (fun v4 g3 H => ?_)
    refine z_store H 0 0 [.int .i64 x.2.1, .int .i64 x.2.2] (fun v5 H => ?_)
    refine x_nil <| x_then ?_
    exact ⟨g3, (by kernel_rfl), H⟩
  · skip
    clear H
    rintro lrnd pre x bb b W1 hI hlen H
    refine x_block <| x_seq <| x_region <| x_b H [.n 4 0 2 52, .n 0 0 2 52] <| x_val (.bool (decide ((aq.1 : Int) = x.2.1) && (decide ((aq.2 : Int) = x.2.2) && true))) (by kernel_rfl) rfl (run_eqS (t := 52) (x := .tmp 11) (y := .tmp 12) (xs := #[.int .i64 aq.1, .int .i64 aq.2]) (ys := #[.int .i64 x.2.1, .int .i64 x.2.2]) (B := decide ((aq.1 : Int) = x.2.1) && (decide ((aq.2 : Int) = x.2.2) && true)) (by kernel_rfl) (by kernel_rfl) (by kernel_rfl)) <| x_nil <| x_then ?_
    cases h1 : decide ((aq.1 : Int) = x.2.1) && (decide ((aq.2 : Int) = x.2.2) && true)
    · skip
      refine x_f (by kernel_rfl) <| x_skipc <| x_blk ?_
      replace H := H.pk [1, 2, 3, 4, 5]
      exact ⟨bb, ⟨hI.1, fun y hy => by rcases List.mem_append.1 hy with hy | hy; exact hI.2 y hy; rw [List.mem_singleton] at hy; subst hy; intro e; have z := h1; rw [e] at z; simp at z⟩, H⟩
    refine x_t (by kernel_rfl) <| x_seq <| x_region <| z_store H 5 0 [.bool true] (fun v6 H => ?_)
    refine x_nil <| x_then <| x_retc <| x_blk_ret ?_
    replace H := H.pk [1, 2, 3, 4, 5]
    exact ⟨true, ⟨rfl, ⟨rfl, x, by simp, by have z := h1; simp only [Bool.and_eq_true, decide_eq_true_eq, and_true] at z; exact Prod.ext z.1 z.2⟩⟩, H⟩
  · skip
    clear H
    rintro Dq_ bb W1 hI H
    refine x_blk <| x_then <| x_seq <| x_region <| z_store H 5 0 [.bool false] (fun v7 H => ?_)
    refine x_nil <| x_then <| x_retc <| x_retM1 [0, 1, 2, 3, 4, 5] [.blk qp #[.pointer (some ⟨q, 0, none⟩)] 72, .blk q #[.slice (some ⟨gq, 0, none⟩) 256 cq, .int .i64 (ra : Int), .int .i64 (qn : Int)] 123, .row (.slice (some ⟨gq, 0, none⟩) 256 cq) 52 2 256 (List.flatMap entL ls), .blk g1 #[.int .i64 aq.1, .int .i64 aq.2] 52, .blk g2 #[.bool false] 4] (.bool false) H (by kernel_rfl) rfl (by decide) (fun _ H => (x_rescell1 H 4 g2 0 #[.bool false] 4 (.bool false) (fun x => x) (by kernel_rfl) (by kernel_rfl) (by kernel_rfl))) ?_
    clear H
    intro v8 H
    replace H := H.pk [1, 2]
    have e : decide (aq ∈ Q) = false := decide_eq_false fun hm => by obtain ⟨y, hy, e2⟩ := mem_idxQ hm; exact hI.2 y hy e2.symm
    exact ⟨by rw [e], H⟩
  · skip
    clear H
    rintro Dq_ cq_ pre bb W1 hpre hJ H
    rcases hJ with ⟨rfl, hJ⟩
    · skip
      obtain ⟨hb1, y, hy, he⟩ := hJ
      refine x_retc <| x_blk_ret <| x_then_ret <| x_retM1 [0, 1, 2, 3, 4, 5] [.blk qp #[.pointer (some ⟨q, 0, none⟩)] 72, .blk q #[.slice (some ⟨gq, 0, none⟩) 256 cq, .int .i64 (ra : Int), .int .i64 (qn : Int)] 123, .row (.slice (some ⟨gq, 0, none⟩) 256 cq) 52 2 256 (List.flatMap entL ls), .blk g1 #[.int .i64 aq.1, .int .i64 aq.2] 52, .blk g2 #[.bool bb] 4] (.bool bb) H (by kernel_rfl) rfl (by decide) (fun _ H => (x_rescell1 H 4 g2 0 #[.bool bb] 4 (.bool bb) (fun x => x) (by kernel_rfl) (by kernel_rfl) (by kernel_rfl))) ?_
      clear H
      intro v9 H
      replace H := H.pk [1, 2]
      have e : decide (aq ∈ Q) = true := decide_eq_true (by rw [he]; exact idxQ_mem (hpre.subset hy))
      exact ⟨by rw [e, hb1], H⟩
set_option maxRecDepth 100000 in
set_option maxHeartbeats 4000000 in
theorem RPush_full {q gq cq : Nat} {ls : List Ent} {ra qn : Nat} {Q : List Ent} (hk : RgOk ls ra qn Q) (hf : qn = 256) (aq : Ent) (w0 : World) (H0 : Hs (fps [.blk q #[.slice (some ⟨gq, 0, none⟩) 256 cq, .int .i64 ((ra : Nat) : Int), .int .i64 ((qn : Nat) : Int)] 123, .row (.slice (some ⟨gq, 0, none⟩) 256 cq) 52 2 256 (List.flatMap entL ls)]) w0 w0 [.blk q #[.slice (some ⟨gq, 0, none⟩) 256 cq, .int .i64 ((ra : Nat) : Int), .int .i64 ((qn : Nat) : Int)] 123, .row (.slice (some ⟨gq, 0, none⟩) 256 cq) 52 2 256 (List.flatMap entL ls)]) :
    Calls Tryz.prog 60 #[.pointer (some ⟨q, 0, none⟩), .agg #[.int .i64 aq.1, .int .i64 aq.2]] w0 fun e w' => e = .returned (.int .i64 14) ∧ Hs (fps [.blk q #[.slice (some ⟨gq, 0, none⟩) 256 cq, .int .i64 ((ra : Nat) : Int), .int .i64 ((qn : Nat) : Int)] 123, .row (.slice (some ⟨gq, 0, none⟩) 256 cq) 52 2 256 (List.flatMap entL ls)]) w0 w' [.blk q #[.slice (some ⟨gq, 0, none⟩) 256 cq, .int .i64 ((ra : Nat) : Int), .int .i64 ((qn : Nat) : Int)] 123, .row (.slice (some ⟨gq, 0, none⟩) 256 cq) 52 2 256 (List.flatMap entL ls)] := by
  refine z_enter Tryz.func60 rfl ?_
  have H := H0
  have hQn := hk.hQ
  have hn4 := hk.hn
  have hl4 := hk.len
  have ha4 := hk.ha
  refine x_seq <| x_region <| z_box H #[.int .i64 aq.1, .int .i64 aq.2] 52 (fun v1 g1 H => ?_)
  refine x_b H [.m] <| x_nil <| x_then <| x_seq <| x_seq <| z_region_whole H <| q_b [.m, .m, .m, .l 1 2, .m, .m, .m, .l 1 0, .m, .v (.bool (decide ((qn : Int) = 256)))] ?_
  refine q_nil ?_
  clear H
  intro v2 H
  refine x_then ?_
  cases h1 : decide ((qn : Int) = 256)
  · skip
    have h1p := of_decide_eq_false h1
    exact absurd h1p (by omega)
  have h1p := of_decide_eq_true h1
  refine x_t (by kernel_rfl) <| x_seq <| x_region <| x_b H [.m] <| x_nil <| x_then <| x_retc ?_
  refine x_then_ret <| x_ret (.int .i64 14) (by kernel_rfl) (by kernel_rfl) ?_
  replace H := H.pk [1, 2]
  exact ⟨rfl, H⟩
set_option maxRecDepth 100000 in
set_option maxHeartbeats 4000000 in
theorem RPush_ok {q gq cq : Nat} {ls : List Ent} {ra qn : Nat} {Q : List Ent} (hk : RgOk ls ra qn Q) (hf : qn < 256) (aq : Ent) (w0 : World) (H0 : Hs (fps [.blk q #[.slice (some ⟨gq, 0, none⟩) 256 cq, .int .i64 ((ra : Nat) : Int), .int .i64 ((qn : Nat) : Int)] 123, .row (.slice (some ⟨gq, 0, none⟩) 256 cq) 52 2 256 (List.flatMap entL ls)]) w0 w0 [.blk q #[.slice (some ⟨gq, 0, none⟩) 256 cq, .int .i64 ((ra : Nat) : Int), .int .i64 ((qn : Nat) : Int)] 123, .row (.slice (some ⟨gq, 0, none⟩) 256 cq) 52 2 256 (List.flatMap entL ls)]) :
    Calls Tryz.prog 60 #[.pointer (some ⟨q, 0, none⟩), .agg #[.int .i64 aq.1, .int .i64 aq.2]] w0 fun e w' => e = .returned (.int .i64 0) ∧ Hs (fps [.blk q #[.slice (some ⟨gq, 0, none⟩) 256 cq, .int .i64 ((ra : Nat) : Int), .int .i64 ((qn : Nat) : Int)] 123, .row (.slice (some ⟨gq, 0, none⟩) 256 cq) 52 2 256 (List.flatMap entL ls)]) w0 w' [.blk q #[.slice (some ⟨gq, 0, none⟩) 256 cq, .int .i64 ((ra : Nat) : Int), .int .i64 (((qn + 1) : Nat) : Int)] 123, .row (.slice (some ⟨gq, 0, none⟩) 256 cq) 52 2 256 (List.flatMap entL (ls.set ((ra + qn) % 256) aq))] := by
  refine z_enter Tryz.func60 rfl ?_
  have H := H0
  have hQn := hk.hQ
  have hn4 := hk.hn
  have hl4 := hk.len
  have ha4 := hk.ha
  refine x_seq <| x_region <| z_box H #[.int .i64 aq.1, .int .i64 aq.2] 52 (fun v1 g1 H => ?_)
  refine x_b H [.m] <| x_nil <| x_then <| x_seq <| x_seq <| z_region_whole H <| q_b [.m, .m, .m, .l 1 2, .m, .m, .m, .l 1 0, .m, .v (.bool (decide ((qn : Int) = 256)))] ?_
  refine q_nil ?_
  clear H
  intro v2 H
  refine x_then ?_
  cases h1 : decide ((qn : Int) = 256)
  · skip
    have h1p := of_decide_eq_false h1
    refine x_f (by kernel_rfl) <| x_skipc <| x_then <| x_seq <| z_region_head H 12 ?_
    simp only [List.take_succ_cons, List.take_zero, List.drop_succ_cons, List.drop_zero]
    refine q_b [.m, .m, .m, .l 1 0, .m, .m, .m, .m, .l 1 2] <| q_callR (.int .i64 ((((ra + qn) % 256) : Nat) : Int)) (by kernel_rfl) (fun _ => by kernel_rfl) (fun _ H => (Rplace hk.len hk.ha qn (by omega) _ (H.ro1 [1, 2]))) <| q_b [.n 0 0 2 52] <| q_ix (t := 48) gq 0 ((ra + qn) % 256) 256 cq 52 2 (((ra + qn) % 256) * 2) (by omega) (by omega) (by kernel_rfl) (by kernel_rfl) (by kernel_rfl) (fun _ => by kernel_rfl) <| q_nil ?_
    clear H
    intro v3 H
    refine x_storeRow (t := 52) (v := .agg #[.int .i64 aq.1, .int .i64 aq.2]) H 2 gq (((ra + qn) % 256) * 2) 256 cq 52 2 (List.flatMap entL ls) [.int .i64 aq.1, .int .i64 aq.2] (List.flatMap entL (ls.set ((ra + qn) % 256) aq)) [.blk g1 #[.int .i64 aq.1, .int .i64 aq.2] 52, .blk q #[.slice (some ⟨gq, 0, none⟩) 256 cq, .int .i64 (ra : Int), .int .i64 (qn : Int)] 123, .row (.slice (some ⟨gq, 0, none⟩) 256 cq) 52 2 256 (List.flatMap entL (ls.set ((ra + qn) % 256) aq))] rfl (by simp only [List.length_cons, List.length_nil]; omega) (by kernel_rfl) (setFlat entLen (by omega) aq) rfl (by kernel_rfl) rfl (by kernel_rfl) (by kernel_rfl) (by kernel_rfl) ?_
    clear H
    intro v4 H
    refine x_nil <| x_then <| x_seq <| x_region <| x_b H [.m, .m, .m, .l 1 2] <| x_eq (.int .i64 (((qn + 1) : Nat) : Int)) (show Value.int .i64 (IntKind.i64.wrap ((qn : Int) + 1)) = Value.int .i64 (((qn + 1) : Nat) : Int) from congrArg (Value.int .i64) ((wrap_in (by omega) (by omega)).trans (by omega))) (by kernel_rfl) rfl (by kernel_rfl) <| x_b H [.m, .m] ?_
    refine z_store H 1 2 [.int .i64 (((qn + 1) : Nat) : Int)] (fun v5 H => ?_)
    refine x_nil <| x_then <| x_seq <| x_region <| x_b H [.m] <| x_nil <| x_then ?_
    refine x_retc <| x_ret (.int .i64 0) (by kernel_rfl) (by kernel_rfl) ?_
    replace H := H.pk [1, 2]
    exact ⟨rfl, H⟩
  have h1p := of_decide_eq_true h1
  exact absurd h1p (by omega)
set_option maxRecDepth 100000 in
set_option maxHeartbeats 4000000 in
theorem ROnce {q gq cq : Nat} {ls : List Ent} {ra qn : Nat} {Q : List Ent} (hk : RgOk ls ra qn Q) (aq : Ent) (w0 : World) (H0 : Hs (fps [.blk q #[.slice (some ⟨gq, 0, none⟩) 256 cq, .int .i64 ((ra : Nat) : Int), .int .i64 ((qn : Nat) : Int)] 123, .row (.slice (some ⟨gq, 0, none⟩) 256 cq) 52 2 256 (List.flatMap entL ls)]) w0 w0 [.blk q #[.slice (some ⟨gq, 0, none⟩) 256 cq, .int .i64 ((ra : Nat) : Int), .int .i64 ((qn : Nat) : Int)] 123, .row (.slice (some ⟨gq, 0, none⟩) 256 cq) 52 2 256 (List.flatMap entL ls)]) :
    Calls Tryz.prog 21 #[.pointer (some ⟨q, 0, none⟩), .agg #[.int .i64 aq.1, .int .i64 aq.2]] w0 fun e w' => ∃ s3 : List Ent × Nat × Nat, e = .returned (.int .i64 (onE Q aq)) ∧ Hs (fps [.blk q #[.slice (some ⟨gq, 0, none⟩) 256 cq, .int .i64 ((ra : Nat) : Int), .int .i64 ((qn : Nat) : Int)] 123, .row (.slice (some ⟨gq, 0, none⟩) 256 cq) 52 2 256 (List.flatMap entL ls)]) w0 w' [.blk q #[.slice (some ⟨gq, 0, none⟩) 256 cq, .int .i64 ((s3.2.1 : Nat) : Int), .int .i64 ((s3.2.2 : Nat) : Int)] 123, .row (.slice (some ⟨gq, 0, none⟩) 256 cq) 52 2 256 (List.flatMap entL s3.1)] ∧ RgOk s3.1 s3.2.1 s3.2.2 (onQ Q aq) := by
  refine z_enter Tryz.func21 rfl ?_
  have H := H0
  have hQn := hk.hQ
  have hn4 := hk.hn
  have hl4 := hk.len
  have ha4 := hk.ha
  refine x_seq <| x_region <| z_box H #[.int .i64 aq.1, .int .i64 aq.2] 52 (fun v1 g1 H => ?_)
  refine x_b H [.m] <| x_nil <| x_then <| x_seq <| x_seq <| x_region <| x_b H [.m, .n 0 0 2 52] ?_
  refine z_callH (v := .bool (decide (aq ∈ Q))) (H.useI [1, 2] (fun h => RHas hk aq _ h)) fun v2 H => x_nil <| x_then ?_
  cases h1 : decide (aq ∈ Q)
  · skip
    have h1p := of_decide_eq_false h1
    refine x_f (by kernel_rfl) <| x_skipc <| x_then <| x_seq <| x_region <| x_b H [.m, .n 2 0 2 52] ?_
    cases h2 : decide (qn < 256)
    · skip
      have h2p := of_decide_eq_false h2
      refine z_callH (v := .int .i64 14) (H.useI [0, 1] (fun h => RPush_full hk (by omega) aq _ h)) fun v3 H => x_b H [.m] <| x_nil <| x_then <| x_retc <| x_ret (.int .i64 14) (by kernel_rfl) (by kernel_rfl) ?_
      replace H := H.pk [0, 1]
      have hm := of_decide_eq_false h1
      have e1 : onE Q aq = 14 := by unfold onE; rw [if_neg hm, if_neg (by omega)]
      have e2 : onQ Q aq = Q := by unfold onQ; rw [if_neg hm, if_neg (by omega)]
      rw [e1, e2]
      exact ⟨(ls, ra, qn), rfl, H, hk⟩
    have h2p := of_decide_eq_true h2
    refine z_callH (v := .int .i64 0) (H.useI [0, 1] (fun h => RPush_ok hk (by omega) aq _ h)) fun v4 H => x_b H [.m] <| x_nil <| x_then <| x_retc <| x_ret (.int .i64 0) (by kernel_rfl) (by kernel_rfl) ?_
    replace H := H.pk [0, 1]
    have hm := of_decide_eq_false h1
    have e1 : onE Q aq = 0 := by unfold onE; rw [if_neg hm, if_pos (by omega)]
    have e2 : onQ Q aq = Q ++ [aq] := by unfold onQ; rw [if_neg hm, if_pos (by omega)]
    rw [e1, e2]
    exact ⟨((ls.set ((ra + qn) % 256) aq), ra, qn + 1), rfl, H, hk.push (by omega) aq⟩
  have h1p := of_decide_eq_true h1
  refine x_t (by kernel_rfl) <| x_seq <| x_region <| x_b H [.m] <| x_nil <| x_then <| x_retc ?_
  refine x_then_ret <| x_ret (.int .i64 15) (by kernel_rfl) (by kernel_rfl) ?_
  replace H := H.pk [0, 1]
  have e1 : onE Q aq = 15 := by unfold onE; rw [if_pos (of_decide_eq_true h1)]
  have e2 : onQ Q aq = Q := by unfold onQ; rw [if_pos (of_decide_eq_true h1)]
  rw [e1, e2]
  exact ⟨(ls, ra, qn), rfl, H, hk⟩
set_option maxRecDepth 100000 in
set_option maxHeartbeats 4000000 in
theorem RRem_no {q gq cq : Nat} {ls : List Ent} {ra : Nat} {Q : List Ent} (hk : RgOk ls ra 0 Q) (w0 : World) (H0 : Hs (fps [.blk q #[.slice (some ⟨gq, 0, none⟩) 256 cq, .int .i64 ((ra : Nat) : Int), .int .i64 ((0 : Nat) : Int)] 123, .row (.slice (some ⟨gq, 0, none⟩) 256 cq) 52 2 256 (List.flatMap entL ls)]) w0 w0 [.blk q #[.slice (some ⟨gq, 0, none⟩) 256 cq, .int .i64 ((ra : Nat) : Int), .int .i64 ((0 : Nat) : Int)] 123, .row (.slice (some ⟨gq, 0, none⟩) 256 cq) 52 2 256 (List.flatMap entL ls)]) :
    Calls Tryz.prog 99 #[.pointer (some ⟨q, 0, none⟩), .int .i64 0] w0 fun e w' => e = .returned (.tuple #[.agg #[.int .i64 0, .int .i64 0], .int .i64 13]) ∧ Hs (fps [.blk q #[.slice (some ⟨gq, 0, none⟩) 256 cq, .int .i64 ((ra : Nat) : Int), .int .i64 ((0 : Nat) : Int)] 123, .row (.slice (some ⟨gq, 0, none⟩) 256 cq) 52 2 256 (List.flatMap entL ls)]) w0 w' [.blk q #[.slice (some ⟨gq, 0, none⟩) 256 cq, .int .i64 ((ra : Nat) : Int), .int .i64 ((0 : Nat) : Int)] 123, .row (.slice (some ⟨gq, 0, none⟩) 256 cq) 52 2 256 (List.flatMap entL ls)] := by
  refine z_enter Tryz.func99 rfl ?_
  have H := H0
  refine x_seq <| x_region <| z_box H #[.int .i64 0, .int .i64 0] 52 (fun v1 g1 H => ?_)
  refine x_b H [.m] <| x_nil <| x_then <| x_seq <| x_region <| z_box H #[.int .i64 0, .int .i64 0] 52 (fun v2 g2 H => ?_)
  refine x_nil <| x_then <| x_seq <| x_seq <| x_region <| x_b H [.m, .m, .m, .m, .m, .m, .m, .l 2 2, .v (.bool (decide (((0 : Nat) : Int) ≤ 0))), .v (.bool (decide (((0 : Nat) : Int) ≤ 0)))] <| x_nil ?_
  refine x_then ?_
  cases h1 : decide (((0 : Nat) : Int) ≤ 0)
  · skip
    have h1p := of_decide_eq_false h1
    exact absurd h1p (by omega)
  have h1p := of_decide_eq_true h1
  refine x_t (by kernel_rfl) <| x_seq <| x_region <| x_b H [.n 0 0 2 52] <| z_store H 1 0 [.int .i64 0, .int .i64 0] (fun v3 H => ?_)
  refine x_b H [.m] <| x_nil <| x_then <| x_retc <| x_then_ret <| x_ret (.tuple #[.agg #[.int .i64 0, .int .i64 0], .int .i64 13]) (by kernel_rfl) (x_rescell H 1 g1 0 #[.int .i64 0, .int .i64 0] 52 [.int .i64 0, .int .i64 0] (fun x => .tuple #[x, .int .i64 13]) (by kernel_rfl) (by kernel_rfl) (by kernel_rfl)) ?_
  replace H := H.pk [2, 3]
  exact ⟨rfl, H⟩
set_option maxRecDepth 100000 in
set_option maxHeartbeats 4000000 in
theorem RRem_yes {q gq cq : Nat} {ls : List Ent} {ra m : Nat} {Q : List Ent} (hk : RgOk ls ra (m + 1) Q) (w0 : World) (H0 : Hs (fps [.blk q #[.slice (some ⟨gq, 0, none⟩) 256 cq, .int .i64 ((ra : Nat) : Int), .int .i64 (((m + 1) : Nat) : Int)] 123, .row (.slice (some ⟨gq, 0, none⟩) 256 cq) 52 2 256 (List.flatMap entL ls)]) w0 w0 [.blk q #[.slice (some ⟨gq, 0, none⟩) 256 cq, .int .i64 ((ra : Nat) : Int), .int .i64 (((m + 1) : Nat) : Int)] 123, .row (.slice (some ⟨gq, 0, none⟩) 256 cq) 52 2 256 (List.flatMap entL ls)]) :
    Calls Tryz.prog 99 #[.pointer (some ⟨q, 0, none⟩), .int .i64 0] w0 fun e w' => e = .returned (.tuple #[.agg #[.int .i64 ((ls.getD (ra % 256) (0, 0)).1), .int .i64 ((ls.getD (ra % 256) (0, 0)).2)], .int .i64 0]) ∧ Hs (fps [.blk q #[.slice (some ⟨gq, 0, none⟩) 256 cq, .int .i64 ((ra : Nat) : Int), .int .i64 (((m + 1) : Nat) : Int)] 123, .row (.slice (some ⟨gq, 0, none⟩) 256 cq) 52 2 256 (List.flatMap entL ls)]) w0 w' [.blk q #[.slice (some ⟨gq, 0, none⟩) 256 cq, .int .i64 ((((ra + 1) % 256) : Nat) : Int), .int .i64 ((m : Nat) : Int)] 123, .row (.slice (some ⟨gq, 0, none⟩) 256 cq) 52 2 256 (List.flatMap entL (ls.set ra (0, 0)))] := by
  refine z_enter Tryz.func99 rfl ?_
  have H := H0
  have hn4 := hk.hn
  have hl4 := hk.len
  have ha4 := hk.ha
  refine x_seq <| x_region <| z_box H #[.int .i64 0, .int .i64 0] 52 (fun v1 g1 H => ?_)
  refine x_b H [.m] <| x_nil <| x_then <| x_seq <| x_region <| z_box H #[.int .i64 0, .int .i64 0] 52 (fun v2 g2 H => ?_)
  refine x_nil <| x_then <| x_seq <| x_seq <| x_region <| x_b H [.m, .m, .m, .m, .m, .m, .m, .l 2 2, .v (.bool (decide ((((m + 1) : Nat) : Int) ≤ 0))), .v (.bool (decide ((((m + 1) : Nat) : Int) ≤ 0)))] <| x_nil ?_
  refine x_then ?_
  cases h1 : decide ((((m + 1) : Nat) : Int) ≤ 0)
  · skip
    have h1p := of_decide_eq_false h1
    refine x_f (by kernel_rfl) <| x_skipc <| x_then <| x_seq <| z_region_s H 11 [0, 1, 2, 3] <| s_b [(0, .m), (1, .m), (2, .m), (3, .l 2 0), (4, .m), (5, .m)] 5 <| s_c 6 (v := .int .i64 ((((ra + 0) % 256) : Nat) : Int)) (fun _ H => (Rplace hk.len hk.ha 0 (by omega) _ (H.ro1 [2, 3]))) ?_
    refine s_y 7 (y_ix (t := 48) gq 0 ((ra + 0) % 256) 256 cq 52 2 (((ra + 0) % 256) * 2) (by omega) (by omega) (by kernel_rfl) (by kernel_rfl) (by kernel_rfl) (fun _ => by kernel_rfl)) <| s_y 8 (y_loadcn (t := 52) gq (((ra + 0) % 256) * 2) [.int .i64 ((ls.getD ((ra + 0) % 256) (0, 0)).1), .int .i64 ((ls.getD ((ra + 0) % 256) (0, 0)).2)] (fun _ H => H.rowCells 3 rfl (((ra + 0) % 256) * 2) (flatAt entLen (0, 0) _ (by omega))) (by kernel_rfl) (by kernel_rfl) (by kernel_rfl)) <| s_one 9 rfl (by kernel_rfl) rfl ?_
    clear H
    intro v3 H
    refine z_box H #[.int .i64 0, .int .i64 0] 52 (fun v4 g3 H => ?_)
    refine x_nil <| x_then <| z_next H [1, 2, 3, 4] [0, 1, 2, 3] rfl <| s_one 10 rfl (by kernel_rfl) rfl ?_
    clear H
    intro v5 H
    refine z_store H 0 0 [.int .i64 ((ls.getD ((ra + 0) % 256) (0, 0)).1), .int .i64 ((ls.getD ((ra + 0) % 256) (0, 0)).2)] (fun v6 H => ?_)
    refine x_nil <| x_then <| z_next H [0, 1, 2, 3, 4] [1, 2, 3, 4] rfl <| s_done (by kernel_rfl) ?_
    clear H
    intro v7 H
    refine x_then <| x_seq <| x_seq <| x_region <| x_b H [.m, .m] <| x_nil <| x_then ?_
    refine x_block <| x_loop (G := Unit) (fun (_ : Unit) a w' => ∃ uf1 : Nat → Value, a = frm 75 uf1 [(0, .pointer (some ⟨q, 0, none⟩)), (4, .pointer (some ⟨g1, 0, none⟩)), (6, .pointer (some ⟨g2, 0, none⟩)), (7, .pointer (some ⟨g3, 0, none⟩)), (8, .int .i64 0)] [] ∧ Hs (fps [.blk q #[.slice (some ⟨gq, 0, none⟩) 256 cq, .int .i64 (ra : Int), .int .i64 (((m + 1) : Nat) : Int)] 123, .row (.slice (some ⟨gq, 0, none⟩) 256 cq) 52 2 256 (List.flatMap entL ls)]) w0 w' [.blk g3 #[.int .i64 ((ls.getD ((ra + 0) % 256) (0, 0)).1), .int .i64 ((ls.getD ((ra + 0) % 256) (0, 0)).2)] 52, .blk g2 #[.int .i64 0, .int .i64 0] 52, .blk g1 #[.int .i64 0, .int .i64 0] 52, .blk q #[.slice (some ⟨gq, 0, none⟩) 256 cq, .int .i64 (ra : Int), .int .i64 (((m + 1) : Nat) : Int)] 123, .row (.slice (some ⟨gq, 0, none⟩) 256 cq) 52 2 256 (List.flatMap entL ls)]) (fun _ => 0) () ⟨_, frm_of, H⟩ ?_
    clear H
    rintro _ _ v8 ⟨uf1, rfl, H⟩
    refine x_seq <| x_seq <| x_region <| x_b H [.m, .m] <| x_nil <| x_then <| x_f (by kernel_rfl) ?_
    refine x_exit <| x_then_exit <| x_then_exit <| x_blk_exit <| x_then <| x_seq <| z_region_head H 10 ?_
    simp only [List.take_succ_cons, List.take_zero, List.drop_succ_cons, List.drop_zero]
    refine q_b [.m, .m, .m, .l 3 0, .m, .m, .m, .l 3 1, .n 1 0 2 52] <| q_ix (t := 48) gq 0 ra 256 cq 52 2 (ra * 2) (by omega) (by omega) (by kernel_rfl) (by kernel_rfl) (by kernel_rfl) (fun _ => by kernel_rfl) <| q_nil ?_
    clear H
    intro v9 H
    refine x_storeRow (t := 52) (v := .agg #[.int .i64 0, .int .i64 0]) H 4 gq (ra * 2) 256 cq 52 2 (List.flatMap entL ls) [.int .i64 0, .int .i64 0] (List.flatMap entL (ls.set ra ((0, 0) : Ent))) [.blk g3 #[.int .i64 ((ls.getD ((ra + 0) % 256) (0, 0)).1), .int .i64 ((ls.getD ((ra + 0) % 256) (0, 0)).2)] 52, .blk g2 #[.int .i64 0, .int .i64 0] 52, .blk g1 #[.int .i64 0, .int .i64 0] 52, .blk q #[.slice (some ⟨gq, 0, none⟩) 256 cq, .int .i64 (ra : Int), .int .i64 (((m + 1) : Nat) : Int)] 123, .row (.slice (some ⟨gq, 0, none⟩) 256 cq) 52 2 256 (List.flatMap entL (ls.set ra ((0, 0) : Ent)))] rfl (by simp only [List.length_cons, List.length_nil]; omega) (by kernel_rfl) (setFlat entLen (by omega) ((0, 0) : Ent)) rfl (by kernel_rfl) rfl (by kernel_rfl) (by kernel_rfl) (by kernel_rfl) ?_
    clear H
    intro v10 H
    refine x_nil <| x_then <| x_seq <| x_region <| x_b H [.m, .m] <| z_callB (v := .int .i64 ((((ra + 1) % 256) : Nat) : Int)) H (Rplace (by rw [List.length_set]; exact hk.len) hk.ha 1 (by omega) _ (H.ro1 [3, 4])) fun v11 H => x_b H [.m, .m] ?_
    refine z_store H 3 1 [.int .i64 ((((ra + 1) % 256) : Nat) : Int)] (fun v12 H => ?_)
    refine x_nil <| x_then <| x_seq <| x_region <| x_b H [.m, .m, .m, .l 3 2] <| x_eq (.int .i64 (m : Int)) (show Value.int .i64 (IntKind.i64.wrap ((((m + 1) : Nat) : Int) - 1)) = Value.int .i64 (m : Int) from congrArg (Value.int .i64) ((wrap_in (by omega) (by omega)).trans (by omega))) (by kernel_rfl) rfl (by kernel_rfl) <| x_b H [.m, .m] ?_
    refine z_store H 3 2 [.int .i64 (m : Int)] (fun v13 H => ?_)
    refine x_nil <| x_then <| x_seq <| x_region <| x_b H [.n 0 0 2 52] <| z_store H 2 0 [.int .i64 ((ls.getD ((ra + 0) % 256) (0, 0)).1), .int .i64 ((ls.getD ((ra + 0) % 256) (0, 0)).2)] (fun v14 H => ?_)
    refine x_b H [.m] <| x_nil <| x_then <| x_retc <| x_ret (.tuple #[.agg #[.int .i64 ((ls.getD ((ra + 0) % 256) (0, 0)).1), .int .i64 ((ls.getD ((ra + 0) % 256) (0, 0)).2)], .int .i64 0]) (by kernel_rfl) (x_rescell H 2 g1 0 #[.int .i64 ((ls.getD ((ra + 0) % 256) (0, 0)).1), .int .i64 ((ls.getD ((ra + 0) % 256) (0, 0)).2)] 52 [.int .i64 ((ls.getD ((ra + 0) % 256) (0, 0)).1), .int .i64 ((ls.getD ((ra + 0) % 256) (0, 0)).2)] (fun x => .tuple #[x, .int .i64 0]) (by kernel_rfl) (by kernel_rfl) (by kernel_rfl)) ?_
    replace H := H.pk [3, 4]
    exact ⟨rfl, H⟩
  have h1p := of_decide_eq_true h1
  exact absurd h1p (by omega)
set_option maxRecDepth 100000 in
set_option maxHeartbeats 4000000 in
theorem RPop_no {q gq cq : Nat} {ls : List Ent} {ra : Nat} {Q : List Ent} (hk : RgOk ls ra 0 Q) (w0 : World) (H0 : Hs (fps [.blk q #[.slice (some ⟨gq, 0, none⟩) 256 cq, .int .i64 ((ra : Nat) : Int), .int .i64 ((0 : Nat) : Int)] 123, .row (.slice (some ⟨gq, 0, none⟩) 256 cq) 52 2 256 (List.flatMap entL ls)]) w0 w0 [.blk q #[.slice (some ⟨gq, 0, none⟩) 256 cq, .int .i64 ((ra : Nat) : Int), .int .i64 ((0 : Nat) : Int)] 123, .row (.slice (some ⟨gq, 0, none⟩) 256 cq) 52 2 256 (List.flatMap entL ls)]) :
    Calls Tryz.prog 85 #[.pointer (some ⟨q, 0, none⟩)] w0 fun e w' => e = .returned (.tuple #[.agg #[.int .i64 0, .int .i64 0], .int .i64 13]) ∧ Hs (fps [.blk q #[.slice (some ⟨gq, 0, none⟩) 256 cq, .int .i64 ((ra : Nat) : Int), .int .i64 ((0 : Nat) : Int)] 123, .row (.slice (some ⟨gq, 0, none⟩) 256 cq) 52 2 256 (List.flatMap entL ls)]) w0 w' [.blk q #[.slice (some ⟨gq, 0, none⟩) 256 cq, .int .i64 ((ra : Nat) : Int), .int .i64 ((0 : Nat) : Int)] 123, .row (.slice (some ⟨gq, 0, none⟩) 256 cq) 52 2 256 (List.flatMap entL ls)] := by
  refine z_enter Tryz.func85 rfl ?_
  have H := H0
  refine x_seq <| x_region <| z_box H #[.int .i64 0, .int .i64 0] 52 (fun v1 g1 H => ?_)
  refine x_b H [.m] <| x_nil <| x_then <| x_seq <| x_region <| x_b H [.m] <| z_callH (H.useI [1, 2] (fun h => RRem_no hk _ h)) fun v2 H => ?_
  refine x_b H [.m, .m] <| z_store H 2 0 [.int .i64 0, .int .i64 0] (fun v3 H => ?_)
  refine x_b H [.m] <| x_nil <| x_then <| x_retc <| x_ret (.tuple #[.agg #[.int .i64 0, .int .i64 0], .int .i64 13]) (by kernel_rfl) (x_rescell H 2 g1 0 #[.int .i64 0, .int .i64 0] 52 [.int .i64 0, .int .i64 0] (fun x => .tuple #[x, .int .i64 13]) (by kernel_rfl) (by kernel_rfl) (by kernel_rfl)) ?_
  replace H := H.pk [0, 1]
  exact ⟨rfl, H⟩
set_option maxRecDepth 100000 in
set_option maxHeartbeats 4000000 in
theorem RPop_yes {q gq cq : Nat} {ls : List Ent} {ra m : Nat} {Q : List Ent} (hk : RgOk ls ra (m + 1) Q) (w0 : World) (H0 : Hs (fps [.blk q #[.slice (some ⟨gq, 0, none⟩) 256 cq, .int .i64 ((ra : Nat) : Int), .int .i64 (((m + 1) : Nat) : Int)] 123, .row (.slice (some ⟨gq, 0, none⟩) 256 cq) 52 2 256 (List.flatMap entL ls)]) w0 w0 [.blk q #[.slice (some ⟨gq, 0, none⟩) 256 cq, .int .i64 ((ra : Nat) : Int), .int .i64 (((m + 1) : Nat) : Int)] 123, .row (.slice (some ⟨gq, 0, none⟩) 256 cq) 52 2 256 (List.flatMap entL ls)]) :
    Calls Tryz.prog 85 #[.pointer (some ⟨q, 0, none⟩)] w0 fun e w' => e = .returned (.tuple #[.agg #[.int .i64 ((ls.getD (ra % 256) (0, 0)).1), .int .i64 ((ls.getD (ra % 256) (0, 0)).2)], .int .i64 0]) ∧ Hs (fps [.blk q #[.slice (some ⟨gq, 0, none⟩) 256 cq, .int .i64 ((ra : Nat) : Int), .int .i64 (((m + 1) : Nat) : Int)] 123, .row (.slice (some ⟨gq, 0, none⟩) 256 cq) 52 2 256 (List.flatMap entL ls)]) w0 w' [.blk q #[.slice (some ⟨gq, 0, none⟩) 256 cq, .int .i64 ((((ra + 1) % 256) : Nat) : Int), .int .i64 ((m : Nat) : Int)] 123, .row (.slice (some ⟨gq, 0, none⟩) 256 cq) 52 2 256 (List.flatMap entL (ls.set ra (0, 0)))] := by
  refine z_enter Tryz.func85 rfl ?_
  have H := H0
  refine x_seq <| x_region <| z_box H #[.int .i64 0, .int .i64 0] 52 (fun v1 g1 H => ?_)
  refine x_b H [.m] <| x_nil <| x_then <| x_seq <| x_region <| x_b H [.m] <| z_callH (H.useI [1, 2] (fun h => RRem_yes hk _ h)) fun v2 H => ?_
  refine x_b H [.m, .m] <| z_store H 2 0 [.int .i64 ((ls.getD (ra % 256) (0, 0)).1), .int .i64 ((ls.getD (ra % 256) (0, 0)).2)] (fun v3 H => ?_)
  refine x_b H [.m] <| x_nil <| x_then <| x_retc <| x_ret (.tuple #[.agg #[.int .i64 ((ls.getD (ra % 256) (0, 0)).1), .int .i64 ((ls.getD (ra % 256) (0, 0)).2)], .int .i64 0]) (by kernel_rfl) (x_rescell H 2 g1 0 #[.int .i64 ((ls.getD (ra % 256) (0, 0)).1), .int .i64 ((ls.getD (ra % 256) (0, 0)).2)] 52 [.int .i64 ((ls.getD (ra % 256) (0, 0)).1), .int .i64 ((ls.getD (ra % 256) (0, 0)).2)] (fun x => .tuple #[x, .int .i64 0]) (by kernel_rfl) (by kernel_rfl) (by kernel_rfl)) ?_
  replace H := H.pk [0, 1]
  exact ⟨rfl, H⟩
end Go.Proofs.YtpmnnijjohlloaaGreat
