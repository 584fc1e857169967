/- Steps of lines, and lines of steps. -/
import Derived.Test.YtjbaabffilejeaaDoorLnA
import Derived.Test.YtjbaabffilejeaaDoorDrY
import Derived.Test.YtjbaabffilejeaaDoorPxZ
namespace Go.Proofs.YtjbaabffilejeaaDoor
open Go Go.RowKit
set_option linter.unusedVariables false
set_option linter.unusedSimpArgs false
set_option maxRecDepth 100000 in
set_option maxHeartbeats 4000000 in
theorem All_good {bs : List (List UInt8)} (hn : noNl bs) (h100 : bs.length ≤ 100) (hN : ∀ b ∈ bs, b.length ≤ 5000) (hg : ∀ b ∈ bs, goodT b) (w0 : World) (hE : EnvS w0) :
    Calls Tryd.prog 21 #[S (unl bs)] w0 fun e w' => ∃ sv, e = .returned (.tuple #[sv, .int .i64 0, .int .i64 0]) ∧ Hs [] w0 w' [.row sv 41 75 bs.length (List.flatMap stepL (List.map stepOf bs))] := by
  refine x_enterM Tryd.func21 rfl #[S (unl bs), undef, undef, undef, undef, undef, undef, undef, undef, undef, undef, undef, undef, undef, undef, undef, undef, undef, undef, undef, undef, undef, undef, undef, undef, undef, undef, undef, undef, undef, undef, undef, undef, undef, undef, undef, undef, undef] (by kernel_rfl) ?_
  have H := Hs.nil w0
  have hM := nilM
  have hul : (unl bs).length ≤ 900000 := Nat.le_trans (unl_len _ 5000 hN) (by omega)
  refine x_seq <| x_region <| z_box H #[.slice none 0 0] 49 (fun v1 g1 H => ?_)
  refine z_box H #[.int .i64 0] 3 (fun v2 g2 H => ?_)
  refine z_box H #[.int .i64 0] 26 (fun v3 g3 H => ?_)
  refine x_nil <| x_then <| x_seq <| x_region <| z_box H #[.slice none 0 0] 49 (fun v4 g4 H => ?_)
  refine x_nil <| x_then <| x_seq <| x_seq <| x_region <| x_b H [.m] <| z_call (LinesIt_of (unl bs) _) ?_
  rintro _ v5 ⟨q, rfl, hN'⟩
  refine ⟨_, rfl, ?_⟩
  replace H := H.more hN'
  clear hN'
  refine x_nil <| x_then <| x_block ?_
  replace H := H.nilRow 41 75
  replace H := H.pk [5, 4, 3, 2, 0, 1]
  refine x_rangeQ (α := List UInt8) (G := Value × List Stp × Int × Int) bs (fun x => #[S (x ++ [10])]) q #[S (unl bs)] 9 [] (fun pre gh => match gh with | (sv, ys, e3, e4) => ys = List.map stepOf pre) (fun pre gh => match gh with | (sv, ys, e3, e4) => [.blk g1 #[.slice none 0 0] 49, .blk g2 #[.int .i64 e3] 3, .blk g3 #[.int .i64 e4] 26, .blk g4 #[sv] 49, .row (sv) 41 75 ((ys).length) (List.flatMap stepL ys)]) (fun cd pre gh => match gh with | (sv, ys, e3, e4) => False) (fun x => { tmps := #[S (unl bs), undef, .pointer (some ⟨g1, 0, none⟩), .pointer (some ⟨g2, 0, none⟩), .pointer (some ⟨g3, 0, none⟩), .pointer (some ⟨g4, 0, none⟩), S (x ++ [10]), undef, undef, undef, undef, S (unl bs), .func (.func 64) #[] #[.pointer (some ⟨q, 0, none⟩)], S (x ++ [10]), undef, undef, undef, undef, undef, undef, undef, undef, undef, undef, undef, undef, undef, undef, undef, undef, undef, undef, undef, undef, undef, undef, undef, undef], defers := [] }) (.slice none 0 0, [], 0, 0) (by kernel_rfl) (enters_of Tryd.func64 (by kernel_rfl) rfl) (lines_it hn hul _ (H.pk [5])) (fun _ => rfl) (by kernel_rfl) (by rintro _ ⟨sv, ys, e3, e4⟩; rfl) (show Hs [] w0 _ ([.blk g1 #[.slice none 0 0] 49, .blk g2 #[.int .i64 0] 3, .blk g3 #[.int .i64 0] 26, .blk g4 #[.slice none 0 0] 49, .row (.slice none 0 0) 41 75 (([]).length) (List.flatMap stepL ([]))] ++ [.blk q #[S (unl bs)] 9]) from H) rfl ?_ ?_ ?_ ?_
  · skip
    clear H
    rintro lrnd x W1
    have H := Hs.nil W1
    refine x_at (b := { tmps := #[S (unl bs), undef, .pointer (some ⟨g1, 0, none⟩), .pointer (some ⟨g2, 0, none⟩), .pointer (some ⟨g3, 0, none⟩), .pointer (some ⟨g4, 0, none⟩), undef, undef, undef, undef, undef, S (unl bs), .func (.func 64) #[] #[.pointer (some ⟨q, 0, none⟩)], S (x ++ [10]), undef, undef, undef, undef, undef, undef, undef, undef, undef, undef, undef, undef, undef, undef, undef, undef, undef, undef, undef, undef, undef, undef, undef, undef], defers := [] }) (by kernel_rfl) <| x_region <| x_b H [.m] <| x_nil <| x_then ?_
    exact ⟨(by kernel_rfl), rfl⟩
  · skip
    clear H
    rintro lrnd pre x ⟨sv, ys, e3, e4⟩ RR W1 hI hpx H0 H
    have hM2 := hE.m hM H0
    replace hE := hE.on hM H0
    replace hM := hM2
    clear hM2 H0
    have hxm := (pre_mem hpx).1
    have hxl := hN x hxm
    have hcn := (pre_mem hpx).2
    have hyl : ys.length = pre.length := (by rw [hI, List.length_map])
    refine x_block <| x_seq <| x_region <| x_b H [.m] <| z_callB H (CutNl x (Nat.le_trans hxl (by decide))) fun v6 H => x_b H [.m, .m, .m, .m, .m] <| x_nil ?_
    refine x_then <| x_seq <| x_region <| x_b H [.m] <| z_callB H (Parse_good (l := x) (Nat.le_trans hxl (by decide)) (hg x hxm) _ (hE.on hM H)) fun v7 H => x_b H [.m, .m, .m] <| z_box H (stepA ⟨0, 0, (fun _ => 0), 0, 0, 0, 0, 0, 0, 0, 0, 0⟩) 41 (fun v8 g5 H => ?_)
    refine z_store H 0 0 ((stepA (stepOf x))).toList (fun v9 H => ?_)
    refine x_b H [.m] <| x_nil <| x_then <| x_seq <| x_seq <| x_region <| x_b H [.m, .m, .m, .m, .m, .m] ?_
    refine x_nil <| x_then <| x_f (by kernel_rfl) <| x_skipc <| x_then <| x_region <| x_b H [.l 4 0, .n 0 0 75 41] ?_
    refine x_box' H (stepA (stepOf x)) 41 1 (by kernel_rfl) rfl (by kernel_rfl) ?_
    clear H
    intro v10 g6 H
    refine x_appendSrc H 6 (sv) 49 41 75 152 ((ys).length) (.agg (stepA ⟨0, 0, (fun _ => 0), 0, 0, 0, 0, 0, 0, 0, 0, 0⟩)) (List.flatMap stepL ys) (.slice (some ⟨g6, 0, none⟩) 1 1) 1 (stepL (stepOf x)) rfl (srcStep (H.blk 0 rfl)) (by kernel_rfl) (by kernel_rfl) (by kernel_rfl) (by decide) (stepOne _) (by unfold maxLen; omega) (by omega) (by kernel_rfl) rfl (by kernel_rfl) ?_
    clear H
    intro v11 vr36 H
    rw [show (List.flatMap stepL ys) ++ (stepL (stepOf x)) = (List.flatMap stepL (ys ++ [stepOf x])) from (by rw [List.flatMap_append]; simp)] at H
    rw [show (((ys).length) + 1 : Nat) = (ys ++ [stepOf x]).length from (by simp)] at H
    rcases H.rowForm 6 rfl with ⟨rfl, h0⟩ | ⟨gz1, cz1, rfl, hcz1, -⟩
    · exfalso; simp at h0
    refine z_store H 5 0 [.slice (some ⟨gz1, 0, none⟩) ((ys ++ [stepOf x]).length) cz1] (fun v12 H => ?_)
    refine x_nil <| x_blk ?_
    replace H := H.pk [2, 3, 4, 5, 6]
    exact ⟨(.slice (some ⟨gz1, 0, none⟩) ((ys ++ [stepOf x]).length) cz1, (ys ++ [stepOf x]), e3, e4), (show ys ++ [stepOf x] = List.map stepOf (pre ++ [x]) by rw [List.map_append, hI]; rfl), H⟩
  · skip
    clear H
    rintro Dq_ ⟨sv, ys, e3, e4⟩ W1 hI H
    refine x_blk <| x_then <| x_seq <| x_region <| x_b H [.l 4 0] ?_
    have h1o := H.rowOne 5 rfl
    have h1c := H.rowCel 5 rfl
    refine z_store H 1 0 [sv] (fun v13 H => ?_) (hv := (Eq.trans (show _ = (sv).cells.toList by kernel_rfl) (by rw [h1c]))) (h1 := (by simp only [List.all_cons, List.all_nil, h1o, Bool.and_true, Bool.true_and] <;> rfl))
    refine z_store H 2 0 [.int .i64 0] (fun v14 H => ?_)
    refine z_store H 3 0 [.int .i64 0] (fun v15 H => ?_)
    refine x_nil <| x_then <| x_retc <| x_retM1 [0, 1, 2, 3, 4, 5] [.blk g1 #[sv] 49, .blk g2 #[.int .i64 0] 3, .blk g3 #[.int .i64 0] 26, .blk g4 #[sv] 49, .row (sv) 41 75 ((ys).length) (List.flatMap stepL ys)] (.tuple #[sv, .int .i64 0, .int .i64 0]) H (by kernel_rfl) rfl (by decide) (fun _ H => (x_results [.cell 2 49, .cell 3 3, .cell 4 26] [sv, .int .i64 0, .int .i64 0] _ rfl (AllR.cell (by kernel_rfl) (ldR1 H 0 g1 0 #[sv] 49 (sv) (by kernel_rfl) (by kernel_rfl) (by kernel_rfl)) (AllR.cell (by kernel_rfl) (ldR1 H 1 g2 0 #[.int .i64 0] 3 (.int .i64 0) (by kernel_rfl) (by kernel_rfl) (by kernel_rfl)) (AllR.cell (by kernel_rfl) (ldR1 H 2 g3 0 #[.int .i64 0] 26 (.int .i64 0) (by kernel_rfl) (by kernel_rfl) (by kernel_rfl)) AllR.nil))) (by kernel_rfl))) ?_
    clear H
    intro v16 H
    subst hI
    have H2 := H.pk [4]
    rw [List.length_map] at H2
    exact ⟨_, rfl, H2⟩
  · skip
    clear H
    rintro Dq_ cq_ pre ⟨sv, ys, e3, e4⟩ W1 hpre hJ H
    exact hJ.elim
set_option maxRecDepth 100000 in
set_option maxHeartbeats 4000000 in
theorem All_bad {p tl : List (List UInt8)} {b : List UInt8} (hn : noNl (p ++ b :: tl)) (h100 : (p ++ b :: tl).length ≤ 100) (hN : ∀ z ∈ (p ++ b :: tl), z.length ≤ 5000) (hp : ∀ x ∈ p, goodT x) (hb : ¬ goodT b) (w0 : World) (hE : EnvS w0) :
    Calls Tryd.prog 21 #[S (unl (p ++ b :: tl))] w0 fun e w' => e = .returned (.tuple #[.slice none 0 0, .int .i64 (((p.length : Nat) : Int) + 1), .int .i64 61]) ∧ Below w0.heap.size w0 w' := by
  refine x_enterM Tryd.func21 rfl #[S (unl (p ++ b :: tl)), undef, undef, undef, undef, undef, undef, undef, undef, undef, undef, undef, undef, undef, undef, undef, undef, undef, undef, undef, undef, undef, undef, undef, undef, undef, undef, undef, undef, undef, undef, undef, undef, undef, undef, undef, undef, undef] (by kernel_rfl) ?_
  have H := Hs.nil w0
  have hM := nilM
  have hul : (unl (p ++ b :: tl)).length ≤ 900000 := Nat.le_trans (unl_len _ 5000 hN) (by omega)
  refine x_seq <| x_region <| z_box H #[.slice none 0 0] 49 (fun v1 g1 H => ?_)
  refine z_box H #[.int .i64 0] 3 (fun v2 g2 H => ?_)
  refine z_box H #[.int .i64 0] 26 (fun v3 g3 H => ?_)
  refine x_nil <| x_then <| x_seq <| x_region <| z_box H #[.slice none 0 0] 49 (fun v4 g4 H => ?_)
  refine x_nil <| x_then <| x_seq <| x_seq <| x_region <| x_b H [.m] <| z_call (LinesIt_of (unl (p ++ b :: tl)) _) ?_
  rintro _ v5 ⟨q, rfl, hN'⟩
  refine ⟨_, rfl, ?_⟩
  replace H := H.more hN'
  clear hN'
  refine x_nil <| x_then <| x_block ?_
  replace H := H.nilRow 41 75
  replace H := H.pk [5, 4, 3, 2, 0, 1]
  refine x_rangeQ (α := List UInt8) (G := Value × List Stp × Int × Int) (p ++ b :: tl) (fun x => #[S (x ++ [10])]) q #[S (unl (p ++ b :: tl))] 9 [] (fun pre gh => match gh with | (sv, ys, e3, e4) => ys.length = List.length pre ∧ pre <+: p) (fun pre gh => match gh with | (sv, ys, e3, e4) => [.blk g1 #[.slice none 0 0] 49, .blk g2 #[.int .i64 e3] 3, .blk g3 #[.int .i64 e4] 26, .blk g4 #[sv] 49, .row (sv) 41 75 ((ys).length) (List.flatMap stepL ys)]) (fun cd pre gh => match gh with | (sv, ys, e3, e4) => (cd = .ret ∧ (e3 = ((p.length : Nat) : Int) + 1 ∧ e4 = 61))) (fun x => { tmps := #[S (unl (p ++ b :: tl)), undef, .pointer (some ⟨g1, 0, none⟩), .pointer (some ⟨g2, 0, none⟩), .pointer (some ⟨g3, 0, none⟩), .pointer (some ⟨g4, 0, none⟩), S (x ++ [10]), undef, undef, undef, undef, S (unl (p ++ b :: tl)), .func (.func 64) #[] #[.pointer (some ⟨q, 0, none⟩)], S (x ++ [10]), undef, undef, undef, undef, undef, undef, undef, undef, undef, undef, undef, undef, undef, undef, undef, undef, undef, undef, undef, undef, undef, undef, undef, undef], defers := [] }) (.slice none 0 0, [], 0, 0) (by kernel_rfl) (enters_of Tryd.func64 (by kernel_rfl) rfl) (lines_it hn hul _ (H.pk [5])) (fun _ => rfl) (by kernel_rfl) (by rintro _ ⟨sv, ys, e3, e4⟩; rfl) (show Hs [] w0 _ ([.blk g1 #[.slice none 0 0] 49, .blk g2 #[.int .i64 0] 3, .blk g3 #[.int .i64 0] 26, .blk g4 #[.slice none 0 0] 49, .row (.slice none 0 0) 41 75 (([]).length) (List.flatMap stepL ([]))] ++ [.blk q #[S (unl (p ++ b :: tl))] 9]) from H) (⟨rfl, List.nil_prefix⟩) ?_ ?_ ?_ ?_
  · skip
    clear H
    rintro lrnd x W1
    have H := Hs.nil W1
    refine x_at (b := { tmps := #[S (unl (p ++ b :: tl)), undef, .pointer (some ⟨g1, 0, none⟩), .pointer (some ⟨g2, 0, none⟩), .pointer (some ⟨g3, 0, none⟩), .pointer (some ⟨g4, 0, none⟩), undef, undef, undef, undef, undef, S (unl (p ++ b :: tl)), .func (.func 64) #[] #[.pointer (some ⟨q, 0, none⟩)], S (x ++ [10]), undef, undef, undef, undef, undef, undef, undef, undef, undef, undef, undef, undef, undef, undef, undef, undef, undef, undef, undef, undef, undef, undef, undef, undef], defers := [] }) (by kernel_rfl) <| x_region <| x_b H [.m] <| x_nil <| x_then ?_
    exact ⟨(by kernel_rfl), rfl⟩
  · skip
    clear H
    rintro lrnd pre x ⟨sv, ys, e3, e4⟩ RR W1 hI hpx H0 H
    have hM2 := hE.m hM H0
    replace hE := hE.on hM H0
    replace hM := hM2
    clear hM2 H0
    have hxm := (pre_mem hpx).1
    have hxl := hN x hxm
    have hcn := (pre_mem hpx).2
    have hyl : ys.length = pre.length := hI.1
    refine x_block <| x_seq <| x_region <| x_b H [.m] <| z_callB H (CutNl x (Nat.le_trans hxl (by decide))) fun v6 H => x_b H [.m, .m, .m, .m, .m] <| x_nil ?_
    refine x_then <| x_seq <| x_region <| x_b H [.m] ?_
    rcases lnCase hI.2 hpx with ⟨hxp, hpp⟩ | ⟨hxb, hpp⟩
    · skip
      refine z_callB H (Parse_good (l := x) (Nat.le_trans hxl (by decide)) (hp x hxp) _ (hE.on hM H)) fun v7 H => x_b H [.m, .m, .m] <| z_box H (stepA ⟨0, 0, (fun _ => 0), 0, 0, 0, 0, 0, 0, 0, 0, 0⟩) 41 (fun v8 g5 H => ?_)
      refine z_store H 0 0 ((stepA (stepOf x))).toList (fun v9 H => ?_)
      refine x_b H [.m] <| x_nil <| x_then <| x_seq <| x_seq <| x_region <| x_b H [.m, .m, .m, .m, .m, .m] ?_
      refine x_nil <| x_then <| x_f (by kernel_rfl) <| x_skipc <| x_then <| x_region <| x_b H [.l 4 0, .n 0 0 75 41] ?_
      refine x_box' H (stepA (stepOf x)) 41 1 (by kernel_rfl) rfl (by kernel_rfl) ?_
      clear H
      intro v10 g6 H
      refine x_appendSrc H 6 (sv) 49 41 75 152 ((ys).length) (.agg (stepA ⟨0, 0, (fun _ => 0), 0, 0, 0, 0, 0, 0, 0, 0, 0⟩)) (List.flatMap stepL ys) (.slice (some ⟨g6, 0, none⟩) 1 1) 1 (stepL (stepOf x)) rfl (srcStep (H.blk 0 rfl)) (by kernel_rfl) (by kernel_rfl) (by kernel_rfl) (by decide) (stepOne _) (by unfold maxLen; omega) (by omega) (by kernel_rfl) rfl (by kernel_rfl) ?_
      clear H
      intro v11 vr36 H
      rw [show (List.flatMap stepL ys) ++ (stepL (stepOf x)) = (List.flatMap stepL (ys ++ [stepOf x])) from (by rw [List.flatMap_append]; simp)] at H
      rw [show (((ys).length) + 1 : Nat) = (ys ++ [stepOf x]).length from (by simp)] at H
      rcases H.rowForm 6 rfl with ⟨rfl, h0⟩ | ⟨gz1, cz1, rfl, hcz1, -⟩
      · exfalso; simp at h0
      refine z_store H 5 0 [.slice (some ⟨gz1, 0, none⟩) ((ys ++ [stepOf x]).length) cz1] (fun v12 H => ?_)
      refine x_nil <| x_blk ?_
      replace H := H.pk [2, 3, 4, 5, 6]
      exact ⟨(.slice (some ⟨gz1, 0, none⟩) ((ys ++ [stepOf x]).length) cz1, (ys ++ [stepOf x]), e3, e4), ⟨show (ys ++ [stepOf x]).length = (pre ++ [x]).length by rw [List.length_append, List.length_append, hI.1]; rfl, hpp⟩, H⟩
    · skip
      refine z_callB H (Parse_bad (l := x) (Nat.le_trans hxl (by decide)) (by rw [hxb]; exact hb) _ (hE.on hM H)) fun v13 H => x_b H [.m, .m, .m] <| z_box H (stepA ⟨0, 0, (fun _ => 0), 0, 0, 0, 0, 0, 0, 0, 0, 0⟩) 41 (fun v14 g7 H => ?_)
      refine z_store H 0 0 ((stepA ⟨0, 0, (fun _ => 0), 0, 0, 0, 0, 0, 0, 0, 0, 0⟩)).toList (fun v15 H => ?_)
      refine x_b H [.m] <| x_nil <| x_then <| x_seq <| x_seq <| x_region <| x_b H [.m, .m, .m, .m, .m, .m] ?_
      refine x_nil <| x_then <| x_t (by kernel_rfl) <| x_seq <| z_region_s H 6 [0, 1, 4, 5] <| s_b [(0, .l 2 0)] 5 <| s_y 1 (y_lenR 3 sv 49 41 75 ((ys).length) (List.flatMap stepL ys) rfl (by kernel_rfl) (by kernel_rfl) (fun _ => by kernel_rfl)) ?_
      refine s_y 2 (y_ar ((((ys).length : Nat) : Int) + 1) ⟨by omega, by omega⟩ (by kernel_rfl) (fun _ => by kernel_rfl)) <| s_one 3 rfl (by kernel_rfl) rfl ?_
      clear H
      intro v16 H
      refine z_store H 1 0 [.slice none 0 0] (fun v17 H => ?_)
      refine x_nil <| x_then <| z_next H [0, 1, 4, 5] [0, 1, 2, 3] rfl <| s_one 4 rfl (by kernel_rfl) rfl ?_
      clear H
      intro v18 H
      refine z_store H 2 0 [.int .i64 ((((ys).length : Nat) : Int) + 1)] (fun v19 H => ?_)
      refine x_nil <| x_then <| z_next H [0, 1, 2, 4, 5] [0, 1, 3, 4] rfl <| s_one 5 rfl (by kernel_rfl) rfl ?_
      clear H
      intro v20 H
      refine z_store H 3 0 [.int .i64 61] (fun v21 H => ?_)
      refine x_nil <| x_then <| z_next H [0, 1, 2, 3, 4, 5] [0, 1, 2, 4, 5] rfl <| s_done (by kernel_rfl) ?_
      clear H
      intro v22 H
      refine x_then <| x_retc <| x_then_ret <| x_blk_ret ?_
      replace H := H.pk [1, 2, 3, 4, 5]
      exact ⟨(sv, ys, (((ys).length : Nat) : Int) + 1, 61), ⟨rfl, ⟨show _ = ((p.length : Nat) : Int) + 1 by rw [← hpp, ← hI.1], rfl⟩⟩, H⟩
  · skip
    clear H
    rintro Dq_ ⟨sv, ys, e3, e4⟩ W1 hI H
    exact absurd (List.IsPrefix.length_le hI.2) (by simp)
  · skip
    clear H
    rintro Dq_ cq_ pre ⟨sv, ys, e3, e4⟩ W1 hpre hJ H
    rcases hJ with ⟨rfl, hJ⟩
    · skip
      refine x_retc <| x_blk_ret <| x_then_ret <| x_retM1 [0, 1, 2, 3, 4, 5] [.blk g1 #[.slice none 0 0] 49, .blk g2 #[.int .i64 e3] 3, .blk g3 #[.int .i64 e4] 26, .blk g4 #[sv] 49, .row (sv) 41 75 ((ys).length) (List.flatMap stepL ys)] (.tuple #[.slice none 0 0, .int .i64 e3, .int .i64 e4]) H (by kernel_rfl) rfl (by decide) (fun _ H => (x_results [.cell 2 49, .cell 3 3, .cell 4 26] [.slice none 0 0, .int .i64 e3, .int .i64 e4] _ rfl (AllR.cell (by kernel_rfl) (ldR1 H 0 g1 0 #[.slice none 0 0] 49 (.slice none 0 0) (by kernel_rfl) (by kernel_rfl) (by kernel_rfl)) (AllR.cell (by kernel_rfl) (ldR1 H 1 g2 0 #[.int .i64 e3] 3 (.int .i64 e3) (by kernel_rfl) (by kernel_rfl) (by kernel_rfl)) (AllR.cell (by kernel_rfl) (ldR1 H 2 g3 0 #[.int .i64 e4] 26 (.int .i64 e4) (by kernel_rfl) (by kernel_rfl) (by kernel_rfl)) AllR.nil))) (by kernel_rfl))) ?_
      clear H
      intro v23 H
      exact ⟨by rw [hJ.1, hJ.2], H.below⟩
set_option maxRecDepth 100000 in
set_option maxHeartbeats 4000000 in
theorem SLines_good {ad : Option Addr} {n c : Nat} {xs : List Stp} (hlx : xs.length = n) (h40 : n ≤ 40) (hx : ∀ x ∈ xs, Rng x) (hr : ∀ x ∈ xs, RightS x) (w0 : World) (hE : EnvS w0) (hA : RAt stepL 75 zeroS w0 ad n xs) :
    Calls Tryd.prog 20 #[.slice ad n c] w0 fun e w' => e = .returned (.tuple #[S (unl (List.map txtS xs)), .int .i64 0]) ∧ Below w0.heap.size w0 w' := by
  refine z_enter Tryd.func20 rfl ?_
  have H := Hs.nil w0
  have hM := nilM
  refine x_seq <| x_region <| x_b H [.m, .m] <| x_nil <| x_then <| x_seq <| x_region ?_
  refine z_box H #[.pointer none, .slice none 0 0] 93 (fun v1 g1 H => ?_)
  refine x_nil <| x_then <| x_seq <| x_seq <| x_region <| x_b H [.m, .m, .m] <| x_nil ?_
  refine x_then <| x_block ?_
  replace H := H.nilRow 5 1
  replace H := H.pk [1, 0]
  replace H : Hs [] w0 _ [.blk g1 #[.pointer none, .slice none 0 0] 93, .row (.slice none 0 0) 5 1 ((unl (TX xs 0)).length) (Lib.byteCells (unl (TX xs 0)))] := hsAs H (by kernel_rfl)
  refine x_loop (G := Nat × Value × Value) (fun gh a w' => match gh with | (k, pv, v) => ∃ uf1 : Nat → Value, a = frm 28 uf1 [(4, .pointer (some ⟨g1, 0, none⟩)), (9, .slice ad n c), (10, .int .i64 (n : Int)), (11, .int .i64 (k : Int))] [] ∧ Hs [] w0 w' [.blk g1 #[pv, v] 93, .row (v) 5 1 ((unl (TX xs k)).length) (Lib.byteCells (unl (TX xs k)))] ∧ (k ≤ n) ∧ (pv = .pointer none ∨ pv = .pointer (some ⟨g1, 0, none⟩))) (fun gh => match gh with | (k, pv, v) => n - k) (0, .pointer none, .slice none 0 0) ⟨_, frm_of, H, (Nat.zero_le _), (.inl rfl)⟩ ?_
  clear H
  rintro ⟨k, pv, v⟩ _ v2 ⟨uf1, rfl, H, r1, r2⟩
  refine x_seq <| x_region <| x_b H [.v (.bool (decide ((k : Int) < (n : Int))))] <| x_nil <| x_then <| x_seq ?_
  cases h1 : decide ((k : Int) < (n : Int))
  · skip
    have h1p := of_decide_eq_false h1
    refine x_f (by kernel_rfl) <| x_exit <| x_then_exit <| x_then_exit <| x_blk_exit <| x_then <| x_seq ?_
    refine x_region <| z_callH (BStr_of (H.pk [0, 1]) rfl r2) fun v3 H => x_b H [.m, .m] <| x_nil <| x_then <| x_retc <| x_ret (.tuple #[S (unl (TX xs k)), .int .i64 0]) (by kernel_rfl) (by kernel_rfl) ?_
    exact ⟨by rw [TX_all (by omega)], H.below⟩
  have h1p := of_decide_eq_true h1
  refine x_t (by kernel_rfl) <| x_skipc <| x_then <| x_seq <| x_block <| x_seq <| x_region ?_
  obtain ⟨ga, oa, had, hcell⟩ := hA (by omega)
  have hkx : k < xs.length := by omega
  have hmem := getD_memS hkx
  have hxk := hx _ hmem
  have hln := txtS_len hxk
  have htl := TX_len hx k
  have hwl : (unl (TX xs k)).length + (txtS (xs.getD k zeroS) ++ [10]).length ≤ 140737488355328 := by rw [List.length_append]; simp only [List.length_cons, List.length_nil]; omega
  refine x_ixO (t := 49) had k n c 41 75 (oa + k * 75) (by omega) (by omega) (by kernel_rfl) (by kernel_rfl) (by kernel_rfl) rfl (by kernel_rfl) <| x_loadcn (t := 41) ga (oa + k * 75) (stepL ((xs.getD k zeroS))) (hcell _ H.below k (by omega)) (by kernel_rfl) rfl (by kernel_rfl) (by kernel_rfl) <| z_box H (stepA ⟨0, 0, (fun _ => 0), 0, 0, 0, 0, 0, 0, 0, 0, 0⟩) 41 (fun v4 g2 H => ?_)
  refine z_store H 0 0 ((stepA ((xs.getD k zeroS)))).toList (fun v5 H => ?_)
  refine x_nil <| x_then <| x_seq <| x_region <| x_b H [.n 0 0 75 41] <| z_callB H (SShow_yes hxk (hr _ hmem) _ (hE.on hM H)) fun v6 H => x_b H [.m, .m, .m, .m, .m] ?_
  refine x_nil <| x_then <| x_seq <| x_seq <| x_region <| x_b H [.m, .m] <| x_nil ?_
  refine x_then <| x_f (by kernel_rfl) <| x_skipc <| x_then <| x_region <| x_b H [.m] <| x_val (S ((txtS (xs.getD k zeroS)) ++ ([10] : List UInt8))) (by kernel_rfl) rfl (Eq.trans (by kernel_rfl) (strAdd (P := Tryd.prog) (t := 9) (a := txtS (xs.getD k zeroS)) (b := ([10] : List UInt8)) (by simp only [List.length_cons, List.length_nil]; omega))) ?_
  refine z_call (WStr_of (H.pk [1, 2]) rfl r2 ((txtS (xs.getD k zeroS)) ++ ([10] : List UInt8)) hwl) ?_
  rintro _ v7 ⟨v', rfl, hN'⟩
  refine ⟨_, rfl, ?_⟩
  clear H
  have H := hN'
  clear hN'
  refine x_nil <| x_blk <| x_then <| x_region <| z_ar ((k : Int) + 1) <| x_b H [.m] <| x_nil ?_
  refine x_then ?_
  replace H := H.pk [0, 1]
  rw [← TX_succ hkx] at H
  exact ⟨((k + 1), .pointer (some ⟨g1, 0, none⟩), v'), (by dsimp only; omega), _, frm_of, H, (by omega), (.inr rfl)⟩
set_option maxRecDepth 100000 in
set_option maxHeartbeats 4000000 in
theorem SLines_bad {ad : Option Addr} {n c : Nat} {xs : List Stp} (hlx : xs.length = n) (h40 : n ≤ 40) (hx : ∀ x ∈ xs, Rng x) (hb : ∃ x ∈ xs, ¬ RightS x) (w0 : World) (hE : EnvS w0) (hA : RAt stepL 75 zeroS w0 ad n xs) :
    Calls Tryd.prog 20 #[.slice ad n c] w0 fun e w' => e = .returned (.tuple #[S [], .int .i64 10]) ∧ Below w0.heap.size w0 w' := by
  refine z_enter Tryd.func20 rfl ?_
  have H := Hs.nil w0
  have hM := nilM
  refine x_seq <| x_region <| x_b H [.m, .m] <| x_nil <| x_then <| x_seq <| x_region ?_
  refine z_box H #[.pointer none, .slice none 0 0] 93 (fun v1 g1 H => ?_)
  refine x_nil <| x_then <| x_seq <| x_seq <| x_region <| x_b H [.m, .m, .m] <| x_nil ?_
  refine x_then <| x_block ?_
  replace H := H.nilRow 5 1
  replace H := H.pk [1, 0]
  replace H : Hs [] w0 _ [.blk g1 #[.pointer none, .slice none 0 0] 93, .row (.slice none 0 0) 5 1 ((unl (TX xs 0)).length) (Lib.byteCells (unl (TX xs 0)))] := hsAs H (by kernel_rfl)
  refine x_loop (G := Nat × Value × Value) (fun gh a w' => match gh with | (k, pv, v) => ∃ uf1 : Nat → Value, a = frm 28 uf1 [(4, .pointer (some ⟨g1, 0, none⟩)), (9, .slice ad n c), (10, .int .i64 (n : Int)), (11, .int .i64 (k : Int))] [] ∧ Hs [] w0 w' [.blk g1 #[pv, v] 93, .row (v) 5 1 ((unl (TX xs k)).length) (Lib.byteCells (unl (TX xs k)))] ∧ (k ≤ n) ∧ (pv = .pointer none ∨ pv = .pointer (some ⟨g1, 0, none⟩)) ∧ (∀ x ∈ xs.take k, RightS x)) (fun gh => match gh with | (k, pv, v) => n - k) (0, .pointer none, .slice none 0 0) ⟨_, frm_of, H, (Nat.zero_le _), (.inl rfl), (fun x h => by simp at h)⟩ ?_
  clear H
  rintro ⟨k, pv, v⟩ _ v2 ⟨uf1, rfl, H, r1, r2, r3⟩
  refine x_seq <| x_region <| x_b H [.v (.bool (decide ((k : Int) < (n : Int))))] <| x_nil <| x_then <| x_seq ?_
  cases h1 : decide ((k : Int) < (n : Int))
  · skip
    have h1p := of_decide_eq_false h1
    refine x_f (by kernel_rfl) <| x_exit <| x_then_exit <| x_then_exit <| x_blk_exit <| x_then <| x_seq ?_
    refine x_region <| z_callH (BStr_of (H.pk [0, 1]) rfl r2) fun v3 H => x_b H [.m, .m] <| x_nil <| x_then <| x_retc <| x_ret (.tuple #[S (unl (TX xs k)), .int .i64 0]) (by kernel_rfl) (by kernel_rfl) ?_
    obtain ⟨x, hxm, hxr⟩ := hb
    exact absurd (r3 x (by rw [List.take_of_length_le (by omega)]; exact hxm)) hxr
  have h1p := of_decide_eq_true h1
  refine x_t (by kernel_rfl) <| x_skipc <| x_then <| x_seq <| x_block <| x_seq <| x_region ?_
  obtain ⟨ga, oa, had, hcell⟩ := hA (by omega)
  have hkx : k < xs.length := by omega
  have hmem := getD_memS hkx
  have hxk := hx _ hmem
  have hln := txtS_len hxk
  have htl := TX_len hx k
  have hwl : (unl (TX xs k)).length + (txtS (xs.getD k zeroS) ++ [10]).length ≤ 140737488355328 := by rw [List.length_append]; simp only [List.length_cons, List.length_nil]; omega
  refine x_ixO (t := 49) had k n c 41 75 (oa + k * 75) (by omega) (by omega) (by kernel_rfl) (by kernel_rfl) (by kernel_rfl) rfl (by kernel_rfl) <| x_loadcn (t := 41) ga (oa + k * 75) (stepL ((xs.getD k zeroS))) (hcell _ H.below k (by omega)) (by kernel_rfl) rfl (by kernel_rfl) (by kernel_rfl) <| z_box H (stepA ⟨0, 0, (fun _ => 0), 0, 0, 0, 0, 0, 0, 0, 0, 0⟩) 41 (fun v4 g2 H => ?_)
  refine z_store H 0 0 ((stepA ((xs.getD k zeroS)))).toList (fun v5 H => ?_)
  refine x_nil <| x_then <| x_seq <| x_region <| x_b H [.n 0 0 75 41] ?_
  by_cases hrx : RightS (xs.getD k zeroS)
  · skip
    refine z_callB H (SShow_yes hxk hrx _ (hE.on hM H)) fun v6 H => x_b H [.m, .m, .m, .m, .m] <| x_nil <| x_then <| x_seq <| x_seq <| x_region ?_
    refine x_b H [.m, .m] <| x_nil <| x_then <| x_f (by kernel_rfl) <| x_skipc <| x_then <| x_region ?_
    refine x_b H [.m] <| x_val (S ((txtS (xs.getD k zeroS)) ++ ([10] : List UInt8))) (by kernel_rfl) rfl (Eq.trans (by kernel_rfl) (strAdd (P := Tryd.prog) (t := 9) (a := txtS (xs.getD k zeroS)) (b := ([10] : List UInt8)) (by simp only [List.length_cons, List.length_nil]; omega))) <| z_call (WStr_of (H.pk [1, 2]) rfl r2 ((txtS (xs.getD k zeroS)) ++ ([10] : List UInt8)) hwl) ?_
    rintro _ v7 ⟨v', rfl, hN'⟩
    refine ⟨_, rfl, ?_⟩
    clear H
    have H := hN'
    clear hN'
    refine x_nil <| x_blk <| x_then <| x_region <| z_ar ((k : Int) + 1) <| x_b H [.m] <| x_nil ?_
    refine x_then ?_
    replace H := H.pk [0, 1]
    rw [← TX_succ hkx] at H
    exact ⟨((k + 1), .pointer (some ⟨g1, 0, none⟩), v'), (by dsimp only; omega), _, frm_of, H, (by omega), (.inr rfl), (take_one hkx r3 hrx)⟩
  · skip
    refine z_callB H (SShow_no hrx _) fun v8 H => x_b H [.m, .m, .m, .m, .m] <| x_nil <| x_then <| x_seq <| x_seq <| x_region ?_
    refine x_b H [.m, .m] <| x_nil <| x_then <| x_t (by kernel_rfl) <| x_seq <| x_region <| x_b H [.m, .m, .m] ?_
    refine x_nil <| x_then <| x_retc <| x_then_ret <| x_blk_ret <| x_then_ret <| x_then_ret ?_
    refine x_blk_ret <| x_then_ret <| x_ret (.tuple #[S ([] : List UInt8), .int .i64 10]) (by kernel_rfl) (by kernel_rfl) ?_
    exact ⟨rfl, H.below⟩
end Go.Proofs.YtjbaabffilejeaaDoor
