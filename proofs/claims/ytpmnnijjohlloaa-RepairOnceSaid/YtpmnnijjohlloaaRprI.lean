/- The law RepairOnce, walked. -/
import Derived.Test.YtpmnnijjohlloaaRprO
import Derived.Test.YtpmnnijjohlloaaRprL
import Derived.Test.YtpmnnijjohlloaaPxZ
namespace Go.Proofs.Ytpmnnijjohlloaa
open Go Go.RowKit
set_option linter.unusedVariables false
set_option linter.unusedSimpArgs false
set_option maxRecDepth 100000 in
set_option maxHeartbeats 4000000 in
theorem waiting21 {r s b o c y z : Int} {pg sn ns : Nat} (hL : Lay r s b o c y z pg sn ns) {p gl cl gd cd gs cs q gq cq rp : Nat} {x : Rp} {ls : List Ent} {ra qn : Nat} (hx : RpOk r s b o c z sn pg ns x) (hk : RgOk ls ra qn x.Q) (w0 : World) (H0 : Hs (fps [.blk rp #[.pointer (some ⟨p, 0, none⟩), .int .i64 x.j.1, .int .i64 x.j.2.1, .int .i64 x.j.2.2.1, .int .i64 x.j.2.2.2, .pointer (some ⟨q, 0, none⟩)] 133, .blk p #[.int .i64 r, .int .i64 s, .int .i64 b, .int .i64 o, .int .i64 c, .int .i64 y, .int .i64 z, .slice (some ⟨gl, 0, none⟩) sn cl, .slice (some ⟨gd, 0, none⟩) pg cd, .slice (some ⟨gs, 0, none⟩) ns cs, .int .i64 ((x.pu : Nat) : Int), .int .i64 ((x.ru : Nat) : Int)] 118, .row (.slice (some ⟨gl, 0, none⟩) sn cl) 3 1 sn (List.map (Value.int .i64) x.L), .row (.slice (some ⟨gd, 0, none⟩) pg cd) 4 1 pg (List.map Value.bool x.D), .row (.slice (some ⟨gs, 0, none⟩) ns cs) 3 1 ns (List.map (Value.int .i64) x.S), .blk q #[.slice (some ⟨gq, 0, none⟩) 256 cq, .int .i64 ((ra : Nat) : Int), .int .i64 ((qn : Nat) : Int)] 170, .row (.slice (some ⟨gq, 0, none⟩) 256 cq) 72 2 256 (List.flatMap entL ls)]) w0 w0 [.blk rp #[.pointer (some ⟨p, 0, none⟩), .int .i64 x.j.1, .int .i64 x.j.2.1, .int .i64 x.j.2.2.1, .int .i64 x.j.2.2.2, .pointer (some ⟨q, 0, none⟩)] 133, .blk p #[.int .i64 r, .int .i64 s, .int .i64 b, .int .i64 o, .int .i64 c, .int .i64 y, .int .i64 z, .slice (some ⟨gl, 0, none⟩) sn cl, .slice (some ⟨gd, 0, none⟩) pg cd, .slice (some ⟨gs, 0, none⟩) ns cs, .int .i64 ((x.pu : Nat) : Int), .int .i64 ((x.ru : Nat) : Int)] 118, .row (.slice (some ⟨gl, 0, none⟩) sn cl) 3 1 sn (List.map (Value.int .i64) x.L), .row (.slice (some ⟨gd, 0, none⟩) pg cd) 4 1 pg (List.map Value.bool x.D), .row (.slice (some ⟨gs, 0, none⟩) ns cs) 3 1 ns (List.map (Value.int .i64) x.S), .blk q #[.slice (some ⟨gq, 0, none⟩) 256 cq, .int .i64 ((ra : Nat) : Int), .int .i64 ((qn : Nat) : Int)] 170, .row (.slice (some ⟨gq, 0, none⟩) 256 cq) 72 2 256 (List.flatMap entL ls)]) :
    Calls Try.prog 41 #[.pointer (some ⟨rp, 0, none⟩)] w0 fun e w' => e = .returned (.int .i64 ((x.Q.length : Nat) : Int)) ∧ Hs (fps [.blk rp #[.pointer (some ⟨p, 0, none⟩), .int .i64 x.j.1, .int .i64 x.j.2.1, .int .i64 x.j.2.2.1, .int .i64 x.j.2.2.2, .pointer (some ⟨q, 0, none⟩)] 133, .blk p #[.int .i64 r, .int .i64 s, .int .i64 b, .int .i64 o, .int .i64 c, .int .i64 y, .int .i64 z, .slice (some ⟨gl, 0, none⟩) sn cl, .slice (some ⟨gd, 0, none⟩) pg cd, .slice (some ⟨gs, 0, none⟩) ns cs, .int .i64 ((x.pu : Nat) : Int), .int .i64 ((x.ru : Nat) : Int)] 118, .row (.slice (some ⟨gl, 0, none⟩) sn cl) 3 1 sn (List.map (Value.int .i64) x.L), .row (.slice (some ⟨gd, 0, none⟩) pg cd) 4 1 pg (List.map Value.bool x.D), .row (.slice (some ⟨gs, 0, none⟩) ns cs) 3 1 ns (List.map (Value.int .i64) x.S), .blk q #[.slice (some ⟨gq, 0, none⟩) 256 cq, .int .i64 ((ra : Nat) : Int), .int .i64 ((qn : Nat) : Int)] 170, .row (.slice (some ⟨gq, 0, none⟩) 256 cq) 72 2 256 (List.flatMap entL ls)]) w0 w' [.blk rp #[.pointer (some ⟨p, 0, none⟩), .int .i64 x.j.1, .int .i64 x.j.2.1, .int .i64 x.j.2.2.1, .int .i64 x.j.2.2.2, .pointer (some ⟨q, 0, none⟩)] 133, .blk p #[.int .i64 r, .int .i64 s, .int .i64 b, .int .i64 o, .int .i64 c, .int .i64 y, .int .i64 z, .slice (some ⟨gl, 0, none⟩) sn cl, .slice (some ⟨gd, 0, none⟩) pg cd, .slice (some ⟨gs, 0, none⟩) ns cs, .int .i64 ((x.pu : Nat) : Int), .int .i64 ((x.ru : Nat) : Int)] 118, .row (.slice (some ⟨gl, 0, none⟩) sn cl) 3 1 sn (List.map (Value.int .i64) x.L), .row (.slice (some ⟨gd, 0, none⟩) pg cd) 4 1 pg (List.map Value.bool x.D), .row (.slice (some ⟨gs, 0, none⟩) ns cs) 3 1 ns (List.map (Value.int .i64) x.S), .blk q #[.slice (some ⟨gq, 0, none⟩) 256 cq, .int .i64 ((ra : Nat) : Int), .int .i64 ((qn : Nat) : Int)] 170, .row (.slice (some ⟨gq, 0, none⟩) 256 cq) 72 2 256 (List.flatMap entL ls)] := by
  refine x_enterM Try.func41 rfl #[.pointer (some ⟨rp, 0, none⟩), undef, undef, undef, undef, undef, undef, undef, undef, undef, undef] (by kernel_rfl) ?_
  have H := H0
  refine x_seq <| x_region <| x_b H [.m] <| x_nil <| x_then <| x_seq <| x_region ?_
  refine z_box H #[.int .i64 0] 3 (fun v1 g1 H => ?_)
  refine z_store H 0 0 [.int .i64 0] (fun v2 H => ?_)
  refine x_nil <| x_then <| x_seq <| x_seq <| x_region <| x_b H [.m] <| z_call (Waiting_of _ (H.ro1 [1])) ?_
  rintro _ v3 ⟨qp, rfl, hN'⟩
  refine ⟨_, rfl, ?_⟩
  replace H := H.more hN'
  clear hN'
  refine x_nil <| x_then <| x_block ?_
  replace H := H.pk [0, 7, 8, 2, 3, 4, 5, 6, 1]
  refine x_rangeB (α := QEnt) (G := Nat) (idxQ x.Q) (fun xq => #[.int .i64 ((xq.1 : Nat) : Int), .agg #[.int .i64 xq.2.1, .int .i64 xq.2.2]]) [.blk qp #[.pointer (some ⟨q, 0, none⟩)] 131, .blk q #[.slice (some ⟨gq, 0, none⟩) 256 cq, .int .i64 (ra : Int), .int .i64 (qn : Int)] 170, .row (.slice (some ⟨gq, 0, none⟩) 256 cq) 72 2 256 (List.flatMap entL ls)] [0, 1, 2] (fps [.blk qp #[.pointer (some ⟨q, 0, none⟩)] 131, .blk q #[.slice (some ⟨gq, 0, none⟩) 256 cq, .int .i64 (ra : Int), .int .i64 (qn : Int)] 170, .row (.slice (some ⟨gq, 0, none⟩) 256 cq) 72 2 256 (List.flatMap entL ls), .blk rp #[.pointer (some ⟨p, 0, none⟩), .int .i64 x.j.1, .int .i64 x.j.2.1, .int .i64 x.j.2.2.1, .int .i64 x.j.2.2.2, .pointer (some ⟨q, 0, none⟩)] 133, .blk p #[.int .i64 r, .int .i64 s, .int .i64 b, .int .i64 o, .int .i64 c, .int .i64 y, .int .i64 z, .slice (some ⟨gl, 0, none⟩) sn cl, .slice (some ⟨gd, 0, none⟩) pg cd, .slice (some ⟨gs, 0, none⟩) ns cs, .int .i64 ((x.pu : Nat) : Int), .int .i64 ((x.ru : Nat) : Int)] 118, .row (.slice (some ⟨gl, 0, none⟩) sn cl) 3 1 sn (List.map (Value.int .i64) x.L), .row (.slice (some ⟨gd, 0, none⟩) pg cd) 4 1 pg (List.map Value.bool x.D), .row (.slice (some ⟨gs, 0, none⟩) ns cs) 3 1 ns (List.map (Value.int .i64) x.S), .blk g1 #[.int .i64 ((0 : Nat) : Int)] 3]) (fun pre (nn : Nat) => nn = List.length pre) (fun pre (nn : Nat) => [.blk qp #[.pointer (some ⟨q, 0, none⟩)] 131, .blk q #[.slice (some ⟨gq, 0, none⟩) 256 cq, .int .i64 (ra : Int), .int .i64 (qn : Int)] 170, .row (.slice (some ⟨gq, 0, none⟩) 256 cq) 72 2 256 (List.flatMap entL ls), .blk rp #[.pointer (some ⟨p, 0, none⟩), .int .i64 x.j.1, .int .i64 x.j.2.1, .int .i64 x.j.2.2.1, .int .i64 x.j.2.2.2, .pointer (some ⟨q, 0, none⟩)] 133, .blk p #[.int .i64 r, .int .i64 s, .int .i64 b, .int .i64 o, .int .i64 c, .int .i64 y, .int .i64 z, .slice (some ⟨gl, 0, none⟩) sn cl, .slice (some ⟨gd, 0, none⟩) pg cd, .slice (some ⟨gs, 0, none⟩) ns cs, .int .i64 ((x.pu : Nat) : Int), .int .i64 ((x.ru : Nat) : Int)] 118, .row (.slice (some ⟨gl, 0, none⟩) sn cl) 3 1 sn (List.map (Value.int .i64) x.L), .row (.slice (some ⟨gd, 0, none⟩) pg cd) 4 1 pg (List.map Value.bool x.D), .row (.slice (some ⟨gs, 0, none⟩) ns cs) 3 1 ns (List.map (Value.int .i64) x.S), .blk g1 #[.int .i64 (nn : Int)] 3]) (fun cd pre (nn : Nat) => False) (fun xq bq => []) (fun xq bq => { tmps := #[.pointer (some ⟨rp, 0, none⟩), undef, .int .i64 0, .pointer (some ⟨g1, 0, none⟩), .pointer (some ⟨rp, 0, none⟩), .func (.func 124) #[] #[.pointer (some ⟨qp, 0, none⟩)], .int .i64 ((xq.1 : Nat) : Int), .agg #[.int .i64 xq.2.1, .int .i64 xq.2.2], undef, undef, undef], defers := [] }) 0 (by kernel_rfl) (enters_of Try.func124 (by kernel_rfl) rfl) (rvals hk _ (H.roOf [0, 1, 2] _ (by kernel_rfl))) (fun _ => rfl) rfl (by rintro _ nn; rfl) (by rintro _ nn; rfl) (by rintro _ nn; rfl) (fun _ _ => rfl) (fun _ _ => rfl) H rfl ?_ ?_ ?_ ?_
  · skip
    clear H
    rintro lrnd pre xq nn W1 hI H
    refine x_at (b := { tmps := #[.pointer (some ⟨rp, 0, none⟩), undef, .int .i64 0, .pointer (some ⟨g1, 0, none⟩), .pointer (some ⟨rp, 0, none⟩), .func (.func 124) #[] #[.pointer (some ⟨qp, 0, none⟩)], .int .i64 ((xq.1 : Nat) : Int), .agg #[.int .i64 xq.2.1, .int .i64 xq.2.2], undef, undef, undef], defers := [] }) (by kernel_rfl) <| x_skipc <| x_then ?_
    exact ⟨0, (by kernel_rfl), H⟩
  · skip
    clear H
    rintro lrnd pre xq nn bq W1 hI hlen H
    have hI' : nn = List.length pre := hI
    have hlq := idxQ_len x.Q
    have hqlr := hx.ql
    refine x_block <| x_region <| x_b H [.l 8 0] <| z_ar ((nn : Int) + 1) <| z_store H 8 0 [.int .i64 ((nn : Int) + 1)] (fun v4 H => ?_)
    refine x_nil <| x_blk ?_
    replace H := H.pk [0, 1, 2, 3, 4, 5, 6, 7, 8]
    exact ⟨(nn + 1), (by show _ = List.length (pre ++ [xq]); simp; exact hI), H⟩
  · skip
    clear H
    rintro Dq_ nn W1 hI H
    have hI2 : nn = List.length (idxQ x.Q) := hI
    rw [idxQ_len] at hI2
    refine x_blk <| x_then <| x_seq <| x_region <| x_b H [.l 9 0, .m] <| x_nil <| x_then ?_
    refine x_retc <| x_retM1 [0, 1, 2, 3, 4, 5, 6, 7, 8, 9] [.blk qp #[.pointer (some ⟨q, 0, none⟩)] 131, .blk q #[.slice (some ⟨gq, 0, none⟩) 256 cq, .int .i64 (ra : Int), .int .i64 (qn : Int)] 170, .row (.slice (some ⟨gq, 0, none⟩) 256 cq) 72 2 256 (List.flatMap entL ls), .blk rp #[.pointer (some ⟨p, 0, none⟩), .int .i64 x.j.1, .int .i64 x.j.2.1, .int .i64 x.j.2.2.1, .int .i64 x.j.2.2.2, .pointer (some ⟨q, 0, none⟩)] 133, .blk p #[.int .i64 r, .int .i64 s, .int .i64 b, .int .i64 o, .int .i64 c, .int .i64 y, .int .i64 z, .slice (some ⟨gl, 0, none⟩) sn cl, .slice (some ⟨gd, 0, none⟩) pg cd, .slice (some ⟨gs, 0, none⟩) ns cs, .int .i64 ((x.pu : Nat) : Int), .int .i64 ((x.ru : Nat) : Int)] 118, .row (.slice (some ⟨gl, 0, none⟩) sn cl) 3 1 sn (List.map (Value.int .i64) x.L), .row (.slice (some ⟨gd, 0, none⟩) pg cd) 4 1 pg (List.map Value.bool x.D), .row (.slice (some ⟨gs, 0, none⟩) ns cs) 3 1 ns (List.map (Value.int .i64) x.S), .blk g1 #[.int .i64 (nn : Int)] 3] (.int .i64 (nn : Int)) H (by kernel_rfl) rfl (by decide) (fun _ H => (by kernel_rfl)) ?_
    clear H
    intro v5 H
    replace H := H.pk [3, 4, 5, 6, 7, 1, 2]
    rw [hI2]
    exact ⟨rfl, H⟩
  · skip
    clear H
    rintro Dq_ cq_ pre nn W1 hpre hJ H
    exact hJ.elim
set_option maxRecDepth 100000 in
set_option maxHeartbeats 4000000 in
theorem ron21_no (r s b o c y z : Int) (ad : Option Addr) (nA cA : Nat) (hbd : r ≤ 9223372036854775807 ∧ b ≤ 9223372036854775807 ∧ o ≤ 9223372036854775807 ∧ c ≤ 9223372036854775807) (hok : layoutOk r s b o c y z = false) (w0 : World) :
    Calls Try.prog 7 #[.agg #[.int .i64 r, .int .i64 s, .int .i64 b, .int .i64 o, .int .i64 c, .int .i64 y, .int .i64 z], .slice ad nA cA] w0 fun e w' => e = .returned (.bool true) ∧ Below w0.heap.size w0 w' := by
  refine z_enter Try.func7 rfl ?_
  have H := Hs.nil w0
  obtain ⟨hb1, hb2, hb3, hb4⟩ := id hbd
  refine x_seq <| x_region <| z_box H #[.int .i64 r, .int .i64 s, .int .i64 b, .int .i64 o, .int .i64 c, .int .i64 y, .int .i64 z] 25 (fun v1 g1 H => ?_)
  refine x_b H [.m] <| x_nil <| x_then <| x_seq <| x_seq <| x_region <| z_callB H (anchor21 _) fun v2 H => ?_
  refine x_b H [.m] <| x_nil <| x_then <| x_f (by kernel_rfl) <| x_skipc <| x_then <| x_seq ?_
  refine x_seq <| x_region <| x_b H [.n 0 0 7 25] <| z_call (small21_any r s b o c y z (by omega) (by omega) (by omega) (by omega) _) ?_
  rintro _ v3 ⟨tS, rfl, hB⟩
  refine ⟨_, rfl, ?_⟩
  replace H := H.via hB
  clear hB
  refine x_b H [.v (.bool (!tS)), .v (.bool (!tS))] ?_
  cases h1 : tS
  · skip
    refine x_b H [.k, .k, .k, .m] <| x_nil <| x_then <| x_t (by kernel_rfl) <| x_seq <| x_region <| x_b H [.m] ?_
    refine x_nil <| x_then <| x_retc <| x_then_ret <| x_ret (.bool true) (by kernel_rfl) (by kernel_rfl) ?_
    exact ⟨rfl, H.below⟩
  refine x_b H [.m, .m, .v (.bool (decide (40 < (nA : Int)))), .v (.bool (decide (40 < (nA : Int))))] <| x_nil <| x_then ?_
  cases h2 : decide (40 < (nA : Int))
  · skip
    have h2p := of_decide_eq_false h2
    refine x_f (by kernel_rfl) <| x_skipc <| x_then <| x_seq <| x_region <| x_b H [.n 0 0 7 25] <| z_callB H (started_no r s b o c y z hbd hok _) fun v4 H => ?_
    refine x_b H [.m, .m, .m, .m] <| z_box H #[.int .i64 0, .int .i64 0, .int .i64 0, .int .i64 0, .int .i64 0, .int .i64 0, .int .i64 0, .slice none 0 0, .slice none 0 0, .slice none 0 0, .int .i64 0, .int .i64 0, .int .i64 0, .int .i64 0, .int .i64 0, .int .i64 0, .slice none 0 0] 68 (fun v5 g2 H => ?_)
    refine x_b H [.m] <| z_store H 0 0 [.int .i64 0, .int .i64 0, .int .i64 0, .int .i64 0, .int .i64 0, .int .i64 0, .int .i64 0, .slice none 0 0, .slice none 0 0, .slice none 0 0, .int .i64 0, .int .i64 0, .int .i64 0, .int .i64 0, .int .i64 0, .int .i64 0, .slice none 0 0] (fun v6 H => ?_)
    refine x_b H [.m] <| x_nil <| x_then <| x_seq <| x_seq <| x_region <| x_b H [.m, .m] ?_
    refine x_nil <| x_then <| x_t (by kernel_rfl) <| x_seq <| x_region <| x_b H [.m, .m, .m, .n 1 0 7 25] <| z_callB (v := .bool (layoutOk r s b o c y z)) H (lRight_any _ _ _ _ _ _ _ (by omega) (by omega) (by omega) (by omega) _) fun v7 H => ?_
    refine x_b H [.v (.bool (!(layoutOk r s b o c y z))), .v (.bool (!(layoutOk r s b o c y z))), .v (.bool (!(layoutOk r s b o c y z)))] <| x_nil <| x_then <| x_retc <| x_then_ret <| x_ret (.bool (!(layoutOk r s b o c y z))) (by kernel_rfl) (by kernel_rfl) ?_
    exact ⟨by rw [hok]; rfl, H.below⟩
  have h2p := of_decide_eq_true h2
  refine x_t (by kernel_rfl) <| x_seq <| x_region <| x_b H [.m] <| x_nil <| x_then <| x_retc ?_
  refine x_then_ret <| x_ret (.bool true) (by kernel_rfl) (by kernel_rfl) ?_
  exact ⟨rfl, H.below⟩
set_option maxRecDepth 100000 in
set_option maxHeartbeats 4000000 in
theorem ron21_yes {r s b o c y z : Int} {pg sn ns : Nat} (hL : Lay r s b o c y z pg sn ns) (ad : Option Addr) (nA cA : Nat) (l : List Int3) (w0 : World) (hA : RAt int3L 3 (0, 0, 0) w0 ad nA l) :
    Calls Try.prog 7 #[.agg #[.int .i64 r, .int .i64 s, .int .i64 b, .int .i64 o, .int .i64 c, .int .i64 y, .int .i64 z], .slice ad nA cA] w0 fun e w' => e = .returned (.bool true) ∧ Below w0.heap.size w0 w' := by
  refine z_enter Try.func7 rfl ?_
  have H := Hs.nil w0
  have hok := hL.ok
  obtain ⟨-, r1', r8, s0, s8, b1, b2, o1, o2, c1, c2, y0, y4, z0, z2, hpg, hsn, hns, sn1, pg2, ln0, ln2⟩ := id hL
  refine x_seq <| x_region <| z_box H #[.int .i64 r, .int .i64 s, .int .i64 b, .int .i64 o, .int .i64 c, .int .i64 y, .int .i64 z] 25 (fun v1 g1 H => ?_)
  refine x_b H [.m] <| x_nil <| x_then <| x_seq <| x_seq <| x_region <| z_callB H (anchor21 _) fun v2 H => ?_
  refine x_b H [.m] <| x_nil <| x_then <| x_f (by kernel_rfl) <| x_skipc <| x_then <| x_seq ?_
  refine x_seq <| x_region <| x_b H [.n 0 0 7 25] <| z_call (small21_any r s b o c y z (by omega) (by omega) (by omega) (by omega) _) ?_
  rintro _ v3 ⟨tS, rfl, hB⟩
  refine ⟨_, rfl, ?_⟩
  replace H := H.via hB
  clear hB
  refine x_b H [.v (.bool (!tS)), .v (.bool (!tS))] ?_
  cases h1 : tS
  · skip
    refine x_b H [.k, .k, .k, .m] <| x_nil <| x_then <| x_t (by kernel_rfl) <| x_seq <| x_region <| x_b H [.m] ?_
    refine x_nil <| x_then <| x_retc <| x_then_ret <| x_ret (.bool true) (by kernel_rfl) (by kernel_rfl) ?_
    exact ⟨rfl, H.below⟩
  refine x_b H [.m, .m, .v (.bool (decide (40 < (nA : Int)))), .v (.bool (decide (40 < (nA : Int))))] <| x_nil <| x_then ?_
  cases h2 : decide (40 < (nA : Int))
  · skip
    have h2p := of_decide_eq_false h2
    refine x_f (by kernel_rfl) <| x_skipc <| x_then <| x_seq <| x_region <| x_b H [.n 0 0 7 25] <| z_call (started_yes hL _) ?_
    rintro _ v4 ⟨⟨p, gl, cl, gd, cd, gs, cs⟩, ⟨q, gq, cq⟩, rp, lv, rfl, hN'⟩
    refine ⟨_, rfl, ?_⟩
    replace H := hsCast (H.more hN') (L2 := [.blk rp #[.pointer (some ⟨p, 0, none⟩), .int .i64 (((Rp.new sn pg ns).j).1), .int .i64 (((Rp.new sn pg ns).j).2.1), .int .i64 (((Rp.new sn pg ns).j).2.2.1), .int .i64 (((Rp.new sn pg ns).j).2.2.2), .pointer (some ⟨q, 0, none⟩)] 133, .blk p #[.int .i64 r, .int .i64 s, .int .i64 b, .int .i64 o, .int .i64 c, .int .i64 y, .int .i64 z, .slice (some ⟨gl, 0, none⟩) sn cl, .slice (some ⟨gd, 0, none⟩) pg cd, .slice (some ⟨gs, 0, none⟩) ns cs, .int .i64 (((Rp.new sn pg ns).pu : Nat) : Int), .int .i64 (((Rp.new sn pg ns).ru : Nat) : Int)] 118, .row (.slice (some ⟨gl, 0, none⟩) sn cl) 3 1 sn (List.map (Value.int .i64) ((Rp.new sn pg ns).L)), .row (.slice (some ⟨gd, 0, none⟩) pg cd) 4 1 pg (List.map Value.bool ((Rp.new sn pg ns).D)), .row (.slice (some ⟨gs, 0, none⟩) ns cs) 3 1 ns (List.map (Value.int .i64) ((Rp.new sn pg ns).S)), .blk q #[.slice (some ⟨gq, 0, none⟩) 256 cq, .int .i64 ((0 : Nat) : Int), .int .i64 ((0 : Nat) : Int)] 170, .row (.slice (some ⟨gq, 0, none⟩) 256 cq) 72 2 256 (List.flatMap entL (List.replicate 256 ((0, 0) : Ent))), .row (lv) 3 1 pg (List.map (Value.int .i64) (layL y r b o pg)), .row (D21.new.pv) 156 2 (List.length D21.new.Pg) (List.flatMap entL D21.new.Pg), .row (D21.new.kv) 156 2 (List.length D21.new.Rk) (List.flatMap entL D21.new.Rk), .row (D21.new.fv) 147 2 (List.length D21.new.F) (List.flatMap entL D21.new.F), .blk g1 #[.int .i64 r, .int .i64 s, .int .i64 b, .int .i64 o, .int .i64 c, .int .i64 y, .int .i64 z] 25]) (by kernel_rfl)
    clear hN'
    refine x_b H [.m, .m, .m, .m] <| z_box H #[.int .i64 0, .int .i64 0, .int .i64 0, .int .i64 0, .int .i64 0, .int .i64 0, .int .i64 0, .slice none 0 0, .slice none 0 0, .slice none 0 0, .int .i64 0, .int .i64 0, .int .i64 0, .int .i64 0, .int .i64 0, .int .i64 0, .slice none 0 0] 68 (fun v5 g2 H => ?_)
    refine x_b H [.m] ?_
    have h3o := H.rowOne 8 rfl
    have h4o := H.rowOne 9 rfl
    have h5o := H.rowOne 10 rfl
    refine z_store H 0 0 [.int .i64 r, .int .i64 s, .int .i64 b, .int .i64 o, .int .i64 c, .int .i64 y, .int .i64 z, lv, D21.new.pv, D21.new.kv, .int .i64 (((Rp.new sn pg ns).pu : Nat) : Int), .int .i64 (((Rp.new sn pg ns).ru : Nat) : Int), .int .i64 (((Rp.new sn pg ns).j).1), .int .i64 (((Rp.new sn pg ns).j).2.1), .int .i64 (((Rp.new sn pg ns).j).2.2.1), .int .i64 (((Rp.new sn pg ns).j).2.2.2), .slice D21.new.ad D21.new.n D21.new.c] (fun v6 H => ?_) (h1 := (by simp only [List.all_cons, List.all_nil, h3o, h4o, h5o, Bool.and_true, Bool.true_and] <;> rfl))
    refine x_b H [.m] <| x_nil <| x_then <| x_seq <| x_seq <| x_region <| x_b H [.m, .m] ?_
    refine x_nil <| x_then <| x_f (by kernel_rfl) <| x_skipc <| x_then <| x_seq <| x_region ?_
    refine x_b H [.m, .m] <| x_nil <| x_then <| x_seq <| x_seq <| x_region <| x_b H [.m, .m, .m] ?_
    refine x_nil <| x_then <| x_block ?_
    replace H := H.nilRow 3 1
    replace H := H.nilRow 3 1
    replace H := hsCast (H.pk [0, 1, 3, 4, 5, 6, 7, 8, 9, 14]) (L2 := [.row (.slice none 0 0) 3 1 (List.length (upL (sn : Int) ((Rp.new sn pg ns).pu))) (List.map (Value.int .i64) (upL (sn : Int) ((Rp.new sn pg ns).pu))), .row (.slice none 0 0) 3 1 (List.length (upL r ((Rp.new sn pg ns).ru))) (List.map (Value.int .i64) (upL r ((Rp.new sn pg ns).ru))), .blk rp #[.pointer (some ⟨p, 0, none⟩), .int .i64 (((Rp.new sn pg ns).j).1), .int .i64 (((Rp.new sn pg ns).j).2.1), .int .i64 (((Rp.new sn pg ns).j).2.2.1), .int .i64 (((Rp.new sn pg ns).j).2.2.2), .pointer (some ⟨q, 0, none⟩)] 133, .blk p #[.int .i64 r, .int .i64 s, .int .i64 b, .int .i64 o, .int .i64 c, .int .i64 y, .int .i64 z, .slice (some ⟨gl, 0, none⟩) sn cl, .slice (some ⟨gd, 0, none⟩) pg cd, .slice (some ⟨gs, 0, none⟩) ns cs, .int .i64 (((Rp.new sn pg ns).pu : Nat) : Int), .int .i64 (((Rp.new sn pg ns).ru : Nat) : Int)] 118, .row (.slice (some ⟨gl, 0, none⟩) sn cl) 3 1 sn (List.map (Value.int .i64) ((Rp.new sn pg ns).L)), .row (.slice (some ⟨gd, 0, none⟩) pg cd) 4 1 pg (List.map Value.bool ((Rp.new sn pg ns).D)), .row (.slice (some ⟨gs, 0, none⟩) ns cs) 3 1 ns (List.map (Value.int .i64) ((Rp.new sn pg ns).S)), .blk q #[.slice (some ⟨gq, 0, none⟩) 256 cq, .int .i64 ((0 : Nat) : Int), .int .i64 ((0 : Nat) : Int)] 170, .row (.slice (some ⟨gq, 0, none⟩) 256 cq) 72 2 256 (List.flatMap entL (List.replicate 256 ((0, 0) : Ent))), .blk g1 #[.int .i64 r, .int .i64 s, .int .i64 b, .int .i64 o, .int .i64 c, .int .i64 y, .int .i64 z] 25]) (by kernel_rfl)
    refine x_loop (G := Nat × Rp × List Ent × Nat × Nat × Value × Value) (fun gh a w' => match gh with | (k, x, ls, ra, qn, pv, sv) => ∃ uf1 : Nat → Value, a = frm 156 uf1 [(2, .pointer (some ⟨g1, 0, none⟩)), (5, .pointer (some ⟨rp, 0, none⟩)), (8, pv), (9, sv), (43, .slice ad nA cA), (44, .int .i64 (nA : Int)), (45, .int .i64 (k : Int))] [] ∧ Hs [] w0 w' [.row (pv) 3 1 (List.length (upL (sn : Int) x.pu)) (List.map (Value.int .i64) (upL (sn : Int) x.pu)), .row (sv) 3 1 (List.length (upL r x.ru)) (List.map (Value.int .i64) (upL r x.ru)), .blk rp #[.pointer (some ⟨p, 0, none⟩), .int .i64 x.j.1, .int .i64 x.j.2.1, .int .i64 x.j.2.2.1, .int .i64 x.j.2.2.2, .pointer (some ⟨q, 0, none⟩)] 133, .blk p #[.int .i64 r, .int .i64 s, .int .i64 b, .int .i64 o, .int .i64 c, .int .i64 y, .int .i64 z, .slice (some ⟨gl, 0, none⟩) sn cl, .slice (some ⟨gd, 0, none⟩) pg cd, .slice (some ⟨gs, 0, none⟩) ns cs, .int .i64 ((x.pu : Nat) : Int), .int .i64 ((x.ru : Nat) : Int)] 118, .row (.slice (some ⟨gl, 0, none⟩) sn cl) 3 1 sn (List.map (Value.int .i64) x.L), .row (.slice (some ⟨gd, 0, none⟩) pg cd) 4 1 pg (List.map Value.bool x.D), .row (.slice (some ⟨gs, 0, none⟩) ns cs) 3 1 ns (List.map (Value.int .i64) x.S), .blk q #[.slice (some ⟨gq, 0, none⟩) 256 cq, .int .i64 (ra : Int), .int .i64 (qn : Int)] 170, .row (.slice (some ⟨gq, 0, none⟩) 256 cq) 72 2 256 (List.flatMap entL ls), .blk g1 #[.int .i64 r, .int .i64 s, .int .i64 b, .int .i64 o, .int .i64 c, .int .i64 y, .int .i64 z] 25] ∧ (k ≤ nA) ∧ (RpOk r s b o c z sn pg ns x) ∧ (RgOk ls ra qn x.Q)) (fun gh => match gh with | (k, x, ls, ra, qn, pv, sv) => nA - k) (0, (Rp.new sn pg ns), (List.replicate 256 ((0, 0) : Ent)), 0, 0, .slice none 0 0, .slice none 0 0) ⟨_, frm_of, H, (Nat.zero_le _), (RpOk.new hL), RgOk.new⟩ ?_
    clear H
    rintro ⟨k, x, ls, ra, qn, pv, sv⟩ _ v7 ⟨uf1, rfl, H, r1, r2, r3⟩
    have hx := r2
    have hk := r3
    refine x_seq <| x_region <| x_b H [.v (.bool (decide ((k : Int) < (nA : Int))))] <| x_nil <| x_then <| x_seq ?_
    cases h6 : decide ((k : Int) < (nA : Int))
    · skip
      have h6p := of_decide_eq_false h6
      refine x_f (by kernel_rfl) <| x_exit <| x_then_exit <| x_then_exit <| x_blk_exit <| x_then <| x_seq ?_
      refine x_region <| x_b H [.m] <| x_lenR H 0 pv 40 3 1 (List.length (upL (sn : Int) x.pu)) (List.map (Value.int .i64) (upL (sn : Int) x.pu)) rfl (by kernel_rfl) (by kernel_rfl) rfl (by kernel_rfl) <| x_b H [.m, .l 9 6, .v (.bool (decide ((((List.length (upL (sn : Int) x.pu)) : Nat) : Int) ≤ z))), .v (.bool (decide ((((List.length (upL (sn : Int) x.pu)) : Nat) : Int) ≤ z)))] ?_
      cases h7 : decide ((((List.length (upL (sn : Int) x.pu)) : Nat) : Int) ≤ z)
      · skip
        have h7p := of_decide_eq_false h7
        exact absurd (by rw [upL_len]; first | exact hx.v.m.hp | exact hx.v.m.hr) h7p
      have h7p := of_decide_eq_true h7
      refine x_b H [.m] <| x_lenR H 1 sv 40 3 1 (List.length (upL r x.ru)) (List.map (Value.int .i64) (upL r x.ru)) rfl (by kernel_rfl) (by kernel_rfl) rfl (by kernel_rfl) <| x_b H [.m, .m, .l 9 1, .v (.bool (decide ((((List.length (upL r x.ru)) : Nat) : Int) ≤ s))), .v (.bool (decide ((((List.length (upL r x.ru)) : Nat) : Int) ≤ s))), .v (.bool (decide ((((List.length (upL r x.ru)) : Nat) : Int) ≤ s)))] <| x_nil <| x_then <| x_retc <| x_ret (.bool (decide ((((List.length (upL r x.ru)) : Nat) : Int) ≤ s))) (by kernel_rfl) (by kernel_rfl) ?_
      exact ⟨by rw [decide_eq_true (by rw [upL_len]; exact hx.v.m.hr)], H.below⟩
    have h6p := of_decide_eq_true h6
    refine x_t (by kernel_rfl) <| x_skipc <| x_then <| x_seq <| x_block <| x_seq <| x_region ?_
    obtain ⟨ga, oa, had, hcell⟩ := hA (by omega)
    refine x_ixO (t := 62) had k nA cA 74 3 (oa + k * 3) (by omega) (by omega) (by kernel_rfl) (by kernel_rfl) (by kernel_rfl) rfl (by kernel_rfl) <| x_loadcn (t := 74) ga (oa + k * 3) [.int .i64 ((l.getD k (0, 0, 0)).1), .int .i64 ((l.getD k (0, 0, 0)).2.1), .int .i64 ((l.getD k (0, 0, 0)).2.2)] (hcell _ H.below k (by omega)) (by kernel_rfl) rfl (by kernel_rfl) (by kernel_rfl) <| z_box H #[.int .i64 0, .int .i64 0, .int .i64 0] 74 (fun v8 g3 H => ?_)
    refine z_store H 0 0 [.int .i64 ((l.getD k (0, 0, 0)).1), .int .i64 ((l.getD k (0, 0, 0)).2.1), .int .i64 ((l.getD k (0, 0, 0)).2.2)] (fun v9 H => ?_)
    refine x_nil <| x_then <| x_seq <| x_region <| x_b H [.m] <| x_nil <| x_then ?_
    refine x_seq <| x_cut (fun a w' => ∃ xj : Rp, ∃ lsj : List Ent, ∃ raj : Nat, ∃ qnj : Nat, ∃ evj : Value, ∃ E : List Int3, ∃ uf2 : Nat → Value, a = frm 156 uf2 [(2, .pointer (some ⟨g1, 0, none⟩)), (5, .pointer (some ⟨rp, 0, none⟩)), (8, pv), (9, sv), (12, evj), (43, .slice ad nA cA), (44, .int .i64 (nA : Int)), (45, .int .i64 (k : Int))] [] ∧ Hs [] w0 w' [.row (pv) 3 1 (List.length (upL (sn : Int) x.pu)) (List.map (Value.int .i64) (upL (sn : Int) x.pu)), .row (sv) 3 1 (List.length (upL r x.ru)) (List.map (Value.int .i64) (upL r x.ru)), .row (evj) 81 3 (List.length E) (List.flatMap int3L E), .blk rp #[.pointer (some ⟨p, 0, none⟩), .int .i64 xj.j.1, .int .i64 xj.j.2.1, .int .i64 xj.j.2.2.1, .int .i64 xj.j.2.2.2, .pointer (some ⟨q, 0, none⟩)] 133, .blk p #[.int .i64 r, .int .i64 s, .int .i64 b, .int .i64 o, .int .i64 c, .int .i64 y, .int .i64 z, .slice (some ⟨gl, 0, none⟩) sn cl, .slice (some ⟨gd, 0, none⟩) pg cd, .slice (some ⟨gs, 0, none⟩) ns cs, .int .i64 ((xj.pu : Nat) : Int), .int .i64 ((xj.ru : Nat) : Int)] 118, .row (.slice (some ⟨gl, 0, none⟩) sn cl) 3 1 sn (List.map (Value.int .i64) xj.L), .row (.slice (some ⟨gd, 0, none⟩) pg cd) 4 1 pg (List.map Value.bool xj.D), .row (.slice (some ⟨gs, 0, none⟩) ns cs) 3 1 ns (List.map (Value.int .i64) xj.S), .blk q #[.slice (some ⟨gq, 0, none⟩) 256 cq, .int .i64 (raj : Int), .int .i64 (qnj : Int)] 170, .row (.slice (some ⟨gq, 0, none⟩) 256 cq) 72 2 256 (List.flatMap entL lsj), .blk g1 #[.int .i64 r, .int .i64 s, .int .i64 b, .int .i64 o, .int .i64 c, .int .i64 y, .int .i64 z] 25] ∧ (RpOk r s b o c z sn pg ns xj) ∧ (RgOk lsj raj qnj xj.Q) ∧ (Told r sn x xj E) ∧ (List.length E ≤ 300)) ?_ ?_
    · skip
      refine x_seq <| x_region <| x_b H [.m, .l 0 0, .v (.bool (decide (((l.getD k (0, 0, 0)).1) = 1)))] <| x_nil <| x_then ?_
      cases h8 : decide (((l.getD k (0, 0, 0)).1) = 1)
      · skip
        have h8p := of_decide_eq_false h8
        refine x_f (by kernel_rfl) <| x_seq <| x_region <| x_b H [.m, .l 0 0, .v (.bool (decide (((l.getD k (0, 0, 0)).1) = 2)))] <| x_nil <| x_then ?_
        cases h9 : decide (((l.getD k (0, 0, 0)).1) = 2)
        · skip
          have h9p := of_decide_eq_false h9
          refine x_f (by kernel_rfl) <| x_skipc <| x_then ?_
          replace H := H.nilRow 81 3
          replace H := H.pk [2, 3, 0, 4, 5, 6, 7, 8, 9, 10, 11]
          exact ⟨x, ls, ra, qn, .slice none 0 0, ([] : List Int3), _, frm_of, H, hx, hk, (Told.nil rfl rfl), (Nat.zero_le _)⟩
        have h9p := of_decide_eq_true h9
        refine x_t (by kernel_rfl) <| x_region <| x_b H [.m] ?_
        have hx1 := hx.step hL
        refine z_call (H.useEP [3, 4, 5, 6, 7, 8, 9] (fun h => step_of hL hx hk _ h)) ?_
        rintro _ v10 ⟨⟨evr, lsn1, ran1, qnn1⟩, rfl, H', hk1⟩
        refine ⟨_, rfl, ?_⟩
        clear H
        have H := hsCast H' (L2 := [.row (evr) 81 3 (List.length (((Rp.step r s z sn pg ns b o c x)).2)) (List.flatMap int3L (((Rp.step r s z sn pg ns b o c x)).2)), .blk rp #[.pointer (some ⟨p, 0, none⟩), .int .i64 (((((Rp.step r s z sn pg ns b o c x)).1).j).1), .int .i64 (((((Rp.step r s z sn pg ns b o c x)).1).j).2.1), .int .i64 (((((Rp.step r s z sn pg ns b o c x)).1).j).2.2.1), .int .i64 (((((Rp.step r s z sn pg ns b o c x)).1).j).2.2.2), .pointer (some ⟨q, 0, none⟩)] 133, .blk p #[.int .i64 r, .int .i64 s, .int .i64 b, .int .i64 o, .int .i64 c, .int .i64 y, .int .i64 z, .slice (some ⟨gl, 0, none⟩) sn cl, .slice (some ⟨gd, 0, none⟩) pg cd, .slice (some ⟨gs, 0, none⟩) ns cs, .int .i64 (((((Rp.step r s z sn pg ns b o c x)).1).pu : Nat) : Int), .int .i64 (((((Rp.step r s z sn pg ns b o c x)).1).ru : Nat) : Int)] 118, .row (.slice (some ⟨gl, 0, none⟩) sn cl) 3 1 sn (List.map (Value.int .i64) ((((Rp.step r s z sn pg ns b o c x)).1).L)), .row (.slice (some ⟨gd, 0, none⟩) pg cd) 4 1 pg (List.map Value.bool ((((Rp.step r s z sn pg ns b o c x)).1).D)), .row (.slice (some ⟨gs, 0, none⟩) ns cs) 3 1 ns (List.map (Value.int .i64) ((((Rp.step r s z sn pg ns b o c x)).1).S)), .blk q #[.slice (some ⟨gq, 0, none⟩) 256 cq, .int .i64 (ran1 : Int), .int .i64 (qnn1 : Int)] 170, .row (.slice (some ⟨gq, 0, none⟩) 256 cq) 72 2 256 (List.flatMap entL lsn1), .blk g3 #[.int .i64 ((l.getD k (0, 0, 0)).1), .int .i64 ((l.getD k (0, 0, 0)).2.1), .int .i64 ((l.getD k (0, 0, 0)).2.2)] 74, .row (pv) 3 1 (List.length (upL (sn : Int) x.pu)) (List.map (Value.int .i64) (upL (sn : Int) x.pu)), .row (sv) 3 1 (List.length (upL r x.ru)) (List.map (Value.int .i64) (upL r x.ru)), .blk g1 #[.int .i64 r, .int .i64 s, .int .i64 b, .int .i64 o, .int .i64 c, .int .i64 y, .int .i64 z] 25]) (by kernel_rfl)
        clear H'
        replace hk1 : RgOk lsn1 ran1 qnn1 ((Rp.step r s z sn pg ns b o c x)).1.Q := hk1
        refine x_b H [.m, .m, .m, .m] <| x_nil <| x_then ?_
        replace H := H.pk [9, 10, 0, 1, 2, 3, 4, 5, 6, 7, 11]
        exact ⟨(((Rp.step r s z sn pg ns b o c x)).1), lsn1, ran1, qnn1, evr, ((Rp.step r s z sn pg ns b o c x)).2, _, frm_of, H, hx1, hk1, (Told.step x), (Nat.le_trans (Rp.step_len hx.ql) (by decide))⟩
      have h8p := of_decide_eq_true h8
      refine x_t (by kernel_rfl) <| x_seq <| x_region <| x_b H [.m, .m, .n 0 1 2 72] ?_
      have hx1 := hx.ask hL (l.getD k (0, 0, 0)).2
      refine z_call (H.useEP [3, 4, 5, 6, 7, 8, 9] (fun h => ask_of hL hx hk (l.getD k (0, 0, 0)).2 _ h)) ?_
      rintro _ v11 ⟨⟨eva, lsn1, ran1, qnn1⟩, rfl, H', hk1⟩
      refine ⟨_, rfl, ?_⟩
      clear H
      have H := hsCast H' (L2 := [.row (eva) 81 3 (List.length (Rp.askV r s z sn ns x (l.getD k (0, 0, 0)).2)) (List.flatMap int3L (Rp.askV r s z sn ns x (l.getD k (0, 0, 0)).2)), .blk rp #[.pointer (some ⟨p, 0, none⟩), .int .i64 (((Rp.ask r s z sn ns x (l.getD k (0, 0, 0)).2).j).1), .int .i64 (((Rp.ask r s z sn ns x (l.getD k (0, 0, 0)).2).j).2.1), .int .i64 (((Rp.ask r s z sn ns x (l.getD k (0, 0, 0)).2).j).2.2.1), .int .i64 (((Rp.ask r s z sn ns x (l.getD k (0, 0, 0)).2).j).2.2.2), .pointer (some ⟨q, 0, none⟩)] 133, .blk p #[.int .i64 r, .int .i64 s, .int .i64 b, .int .i64 o, .int .i64 c, .int .i64 y, .int .i64 z, .slice (some ⟨gl, 0, none⟩) sn cl, .slice (some ⟨gd, 0, none⟩) pg cd, .slice (some ⟨gs, 0, none⟩) ns cs, .int .i64 (((Rp.ask r s z sn ns x (l.getD k (0, 0, 0)).2).pu : Nat) : Int), .int .i64 (((Rp.ask r s z sn ns x (l.getD k (0, 0, 0)).2).ru : Nat) : Int)] 118, .row (.slice (some ⟨gl, 0, none⟩) sn cl) 3 1 sn (List.map (Value.int .i64) ((Rp.ask r s z sn ns x (l.getD k (0, 0, 0)).2).L)), .row (.slice (some ⟨gd, 0, none⟩) pg cd) 4 1 pg (List.map Value.bool ((Rp.ask r s z sn ns x (l.getD k (0, 0, 0)).2).D)), .row (.slice (some ⟨gs, 0, none⟩) ns cs) 3 1 ns (List.map (Value.int .i64) ((Rp.ask r s z sn ns x (l.getD k (0, 0, 0)).2).S)), .blk q #[.slice (some ⟨gq, 0, none⟩) 256 cq, .int .i64 (ran1 : Int), .int .i64 (qnn1 : Int)] 170, .row (.slice (some ⟨gq, 0, none⟩) 256 cq) 72 2 256 (List.flatMap entL lsn1), .blk g3 #[.int .i64 ((l.getD k (0, 0, 0)).1), .int .i64 ((l.getD k (0, 0, 0)).2.1), .int .i64 ((l.getD k (0, 0, 0)).2.2)] 74, .row (pv) 3 1 (List.length (upL (sn : Int) x.pu)) (List.map (Value.int .i64) (upL (sn : Int) x.pu)), .row (sv) 3 1 (List.length (upL r x.ru)) (List.map (Value.int .i64) (upL r x.ru)), .blk g1 #[.int .i64 r, .int .i64 s, .int .i64 b, .int .i64 o, .int .i64 c, .int .i64 y, .int .i64 z] 25]) (by kernel_rfl)
      clear H'
      replace hk1 : RgOk lsn1 ran1 qnn1 (Rp.ask r s z sn ns x (l.getD k (0, 0, 0)).2).Q := hk1
      refine x_b H [.m] <| x_nil <| x_then <| x_seq <| x_region <| x_b H [.m] <| z_callB H (Job_of (x := (Rp.ask r s z sn ns x (l.getD k (0, 0, 0)).2)) _ (H.ro1 [1])) fun v12 H => ?_
      refine x_b H [.m] <| z_callH (H.useI [1, 2, 3, 4, 5, 6, 7] (fun h => waiting21 hL hx1 hk1 _ h)) fun v13 H => z_box H #[.int .i64 0, .int .i64 0, .int .i64 0, .int .i64 0] 77 (fun v14 g4 H => ?_)
      refine z_store H 0 0 [.int .i64 (((Rp.ask r s z sn ns x (l.getD k (0, 0, 0)).2).j).1), .int .i64 (((Rp.ask r s z sn ns x (l.getD k (0, 0, 0)).2).j).2.1), .int .i64 (((Rp.ask r s z sn ns x (l.getD k (0, 0, 0)).2).j).2.2.1), .int .i64 (((Rp.ask r s z sn ns x (l.getD k (0, 0, 0)).2).j).2.2.2)] (fun v15 H => ?_)
      refine x_b H [.m] <| x_nil <| x_then <| x_seq <| x_region <| x_b H [.m, .m, .n 9 1 2 72] ?_
      obtain ⟨htw, htk⟩ := Rp.ask_twice (r := r) (s := s) (z := z) (sn := sn) (ns := ns) x (l.getD k (0, 0, 0)).2
      have hx2 := hx1.ask hL (l.getD k (0, 0, 0)).2
      refine z_call (H.useEP [1, 2, 3, 4, 5, 6, 7] (fun h => ask_of hL hx1 hk1 (l.getD k (0, 0, 0)).2 _ h)) ?_
      rintro _ v16 ⟨⟨evb, lsn2, ran2, qnn2⟩, rfl, H', hk2⟩
      refine ⟨_, rfl, ?_⟩
      clear H
      have H := hsCast H' (L2 := [.row (evb) 81 3 (List.length (Rp.askV r s z sn ns (Rp.ask r s z sn ns x (l.getD k (0, 0, 0)).2) (l.getD k (0, 0, 0)).2)) (List.flatMap int3L (Rp.askV r s z sn ns (Rp.ask r s z sn ns x (l.getD k (0, 0, 0)).2) (l.getD k (0, 0, 0)).2)), .blk rp #[.pointer (some ⟨p, 0, none⟩), .int .i64 (((Rp.ask r s z sn ns (Rp.ask r s z sn ns x (l.getD k (0, 0, 0)).2) (l.getD k (0, 0, 0)).2).j).1), .int .i64 (((Rp.ask r s z sn ns (Rp.ask r s z sn ns x (l.getD k (0, 0, 0)).2) (l.getD k (0, 0, 0)).2).j).2.1), .int .i64 (((Rp.ask r s z sn ns (Rp.ask r s z sn ns x (l.getD k (0, 0, 0)).2) (l.getD k (0, 0, 0)).2).j).2.2.1), .int .i64 (((Rp.ask r s z sn ns (Rp.ask r s z sn ns x (l.getD k (0, 0, 0)).2) (l.getD k (0, 0, 0)).2).j).2.2.2), .pointer (some ⟨q, 0, none⟩)] 133, .blk p #[.int .i64 r, .int .i64 s, .int .i64 b, .int .i64 o, .int .i64 c, .int .i64 y, .int .i64 z, .slice (some ⟨gl, 0, none⟩) sn cl, .slice (some ⟨gd, 0, none⟩) pg cd, .slice (some ⟨gs, 0, none⟩) ns cs, .int .i64 (((Rp.ask r s z sn ns (Rp.ask r s z sn ns x (l.getD k (0, 0, 0)).2) (l.getD k (0, 0, 0)).2).pu : Nat) : Int), .int .i64 (((Rp.ask r s z sn ns (Rp.ask r s z sn ns x (l.getD k (0, 0, 0)).2) (l.getD k (0, 0, 0)).2).ru : Nat) : Int)] 118, .row (.slice (some ⟨gl, 0, none⟩) sn cl) 3 1 sn (List.map (Value.int .i64) ((Rp.ask r s z sn ns (Rp.ask r s z sn ns x (l.getD k (0, 0, 0)).2) (l.getD k (0, 0, 0)).2).L)), .row (.slice (some ⟨gd, 0, none⟩) pg cd) 4 1 pg (List.map Value.bool ((Rp.ask r s z sn ns (Rp.ask r s z sn ns x (l.getD k (0, 0, 0)).2) (l.getD k (0, 0, 0)).2).D)), .row (.slice (some ⟨gs, 0, none⟩) ns cs) 3 1 ns (List.map (Value.int .i64) ((Rp.ask r s z sn ns (Rp.ask r s z sn ns x (l.getD k (0, 0, 0)).2) (l.getD k (0, 0, 0)).2).S)), .blk q #[.slice (some ⟨gq, 0, none⟩) 256 cq, .int .i64 (ran2 : Int), .int .i64 (qnn2 : Int)] 170, .row (.slice (some ⟨gq, 0, none⟩) 256 cq) 72 2 256 (List.flatMap entL lsn2), .blk g4 #[.int .i64 (((Rp.ask r s z sn ns x (l.getD k (0, 0, 0)).2).j).1), .int .i64 (((Rp.ask r s z sn ns x (l.getD k (0, 0, 0)).2).j).2.1), .int .i64 (((Rp.ask r s z sn ns x (l.getD k (0, 0, 0)).2).j).2.2.1), .int .i64 (((Rp.ask r s z sn ns x (l.getD k (0, 0, 0)).2).j).2.2.2)] 77, .row (eva) 81 3 (List.length (Rp.askV r s z sn ns x (l.getD k (0, 0, 0)).2)) (List.flatMap int3L (Rp.askV r s z sn ns x (l.getD k (0, 0, 0)).2)), .blk g3 #[.int .i64 ((l.getD k (0, 0, 0)).1), .int .i64 ((l.getD k (0, 0, 0)).2.1), .int .i64 ((l.getD k (0, 0, 0)).2.2)] 74, .row (pv) 3 1 (List.length (upL (sn : Int) x.pu)) (List.map (Value.int .i64) (upL (sn : Int) x.pu)), .row (sv) 3 1 (List.length (upL r x.ru)) (List.map (Value.int .i64) (upL r x.ru)), .blk g1 #[.int .i64 r, .int .i64 s, .int .i64 b, .int .i64 o, .int .i64 c, .int .i64 y, .int .i64 z] 25]) (by kernel_rfl)
      clear H'
      replace hk2 : RgOk lsn2 ran2 qnn2 (Rp.ask r s z sn ns (Rp.ask r s z sn ns x (l.getD k (0, 0, 0)).2) (l.getD k (0, 0, 0)).2).Q := hk2
      rw [htw] at H hk2
      replace H := hsCast H (L2 := [.row (evb) 81 3 (List.length (Rp.askV r s z sn ns (Rp.ask r s z sn ns x (l.getD k (0, 0, 0)).2) (l.getD k (0, 0, 0)).2)) (List.flatMap int3L (Rp.askV r s z sn ns (Rp.ask r s z sn ns x (l.getD k (0, 0, 0)).2) (l.getD k (0, 0, 0)).2)), .blk rp #[.pointer (some ⟨p, 0, none⟩), .int .i64 (((Rp.ask r s z sn ns x (l.getD k (0, 0, 0)).2).j).1), .int .i64 (((Rp.ask r s z sn ns x (l.getD k (0, 0, 0)).2).j).2.1), .int .i64 (((Rp.ask r s z sn ns x (l.getD k (0, 0, 0)).2).j).2.2.1), .int .i64 (((Rp.ask r s z sn ns x (l.getD k (0, 0, 0)).2).j).2.2.2), .pointer (some ⟨q, 0, none⟩)] 133, .blk p #[.int .i64 r, .int .i64 s, .int .i64 b, .int .i64 o, .int .i64 c, .int .i64 y, .int .i64 z, .slice (some ⟨gl, 0, none⟩) sn cl, .slice (some ⟨gd, 0, none⟩) pg cd, .slice (some ⟨gs, 0, none⟩) ns cs, .int .i64 (((Rp.ask r s z sn ns x (l.getD k (0, 0, 0)).2).pu : Nat) : Int), .int .i64 (((Rp.ask r s z sn ns x (l.getD k (0, 0, 0)).2).ru : Nat) : Int)] 118, .row (.slice (some ⟨gl, 0, none⟩) sn cl) 3 1 sn (List.map (Value.int .i64) ((Rp.ask r s z sn ns x (l.getD k (0, 0, 0)).2).L)), .row (.slice (some ⟨gd, 0, none⟩) pg cd) 4 1 pg (List.map Value.bool ((Rp.ask r s z sn ns x (l.getD k (0, 0, 0)).2).D)), .row (.slice (some ⟨gs, 0, none⟩) ns cs) 3 1 ns (List.map (Value.int .i64) ((Rp.ask r s z sn ns x (l.getD k (0, 0, 0)).2).S)), .blk q #[.slice (some ⟨gq, 0, none⟩) 256 cq, .int .i64 (ran2 : Int), .int .i64 (qnn2 : Int)] 170, .row (.slice (some ⟨gq, 0, none⟩) 256 cq) 72 2 256 (List.flatMap entL lsn2), .blk g4 #[.int .i64 (((Rp.ask r s z sn ns x (l.getD k (0, 0, 0)).2).j).1), .int .i64 (((Rp.ask r s z sn ns x (l.getD k (0, 0, 0)).2).j).2.1), .int .i64 (((Rp.ask r s z sn ns x (l.getD k (0, 0, 0)).2).j).2.2.1), .int .i64 (((Rp.ask r s z sn ns x (l.getD k (0, 0, 0)).2).j).2.2.2)] 77, .row (eva) 81 3 (List.length (Rp.askV r s z sn ns x (l.getD k (0, 0, 0)).2)) (List.flatMap int3L (Rp.askV r s z sn ns x (l.getD k (0, 0, 0)).2)), .blk g3 #[.int .i64 ((l.getD k (0, 0, 0)).1), .int .i64 ((l.getD k (0, 0, 0)).2.1), .int .i64 ((l.getD k (0, 0, 0)).2.2)] 74, .row (pv) 3 1 (List.length (upL (sn : Int) x.pu)) (List.map (Value.int .i64) (upL (sn : Int) x.pu)), .row (sv) 3 1 (List.length (upL r x.ru)) (List.map (Value.int .i64) (upL r x.ru)), .blk g1 #[.int .i64 r, .int .i64 s, .int .i64 b, .int .i64 o, .int .i64 c, .int .i64 y, .int .i64 z] 25]) (by kernel_rfl)
      rcases H.rowForm 0 rfl with ⟨rfl, h0⟩ | ⟨gw, cw, rfl, hcw, -⟩
      · skip
        refine x_b H [.m] <| x_nil <| x_then <| x_seq ?_
        cases h10 : decide ((((Rp.ask r s z sn ns x (l.getD k (0, 0, 0)).2).j).1) = 0)
        · skip
          have h10p := of_decide_eq_false h10
          refine z_region_s H 27 [0, 1, 2, 3, 4, 5, 6, 7, 8, 9, 10, 11, 12, 13] <| s_b [(0, .m), (1, .l 8 0), (2, .v (.bool (!(decide ((((Rp.ask r s z sn ns x (l.getD k (0, 0, 0)).2).j).1) = 0))))), (3, .v (.bool (!(decide ((((Rp.ask r s z sn ns x (l.getD k (0, 0, 0)).2).j).1) = 0)))))] 23 ?_
          rw [h10]
          refine s_b [(4, .m), (5, .m), (6, .m), (7, .m), (8, .m), (9, .k), (10, .k), (11, .k), (12, .k), (13, .k), (14, .m), (15, .m), (16, .m)] 10 <| s_c 17 (fun _ H => (Job_of (x := (Rp.ask r s z sn ns x (l.getD k (0, 0, 0)).2)) _ (H.ro1 [1]))) <| s_b [(18, .n 8 0 4 77)] 8 ?_
          have h11 : (decide (((((Rp.ask r s z sn ns x (l.getD k (0, 0, 0)).2).j).1) : Int) = (((Rp.ask r s z sn ns x (l.getD k (0, 0, 0)).2).j).1)) && (decide (((((Rp.ask r s z sn ns x (l.getD k (0, 0, 0)).2).j).2.1) : Int) = (((Rp.ask r s z sn ns x (l.getD k (0, 0, 0)).2).j).2.1)) && (decide (((((Rp.ask r s z sn ns x (l.getD k (0, 0, 0)).2).j).2.2.1) : Int) = (((Rp.ask r s z sn ns x (l.getD k (0, 0, 0)).2).j).2.2.1)) && (decide (((((Rp.ask r s z sn ns x (l.getD k (0, 0, 0)).2).j).2.2.2) : Int) = (((Rp.ask r s z sn ns x (l.getD k (0, 0, 0)).2).j).2.2.2)) && true)))) = true := by simp
          refine s_y 19 (y_val (.bool false) (by kernel_rfl) (fun _ => ((run_neS (t := 77) (x := .tmp 81) (y := .tmp 82) (xs := #[.int .i64 (((Rp.ask r s z sn ns x (l.getD k (0, 0, 0)).2).j).1), .int .i64 (((Rp.ask r s z sn ns x (l.getD k (0, 0, 0)).2).j).2.1), .int .i64 (((Rp.ask r s z sn ns x (l.getD k (0, 0, 0)).2).j).2.2.1), .int .i64 (((Rp.ask r s z sn ns x (l.getD k (0, 0, 0)).2).j).2.2.2)]) (ys := #[.int .i64 (((Rp.ask r s z sn ns x (l.getD k (0, 0, 0)).2).j).1), .int .i64 (((Rp.ask r s z sn ns x (l.getD k (0, 0, 0)).2).j).2.1), .int .i64 (((Rp.ask r s z sn ns x (l.getD k (0, 0, 0)).2).j).2.2.1), .int .i64 (((Rp.ask r s z sn ns x (l.getD k (0, 0, 0)).2).j).2.2.2)]) (B := decide (((((Rp.ask r s z sn ns x (l.getD k (0, 0, 0)).2).j).1) : Int) = (((Rp.ask r s z sn ns x (l.getD k (0, 0, 0)).2).j).1)) && (decide (((((Rp.ask r s z sn ns x (l.getD k (0, 0, 0)).2).j).2.1) : Int) = (((Rp.ask r s z sn ns x (l.getD k (0, 0, 0)).2).j).2.1)) && (decide (((((Rp.ask r s z sn ns x (l.getD k (0, 0, 0)).2).j).2.2.1) : Int) = (((Rp.ask r s z sn ns x (l.getD k (0, 0, 0)).2).j).2.2.1)) && (decide (((((Rp.ask r s z sn ns x (l.getD k (0, 0, 0)).2).j).2.2.2) : Int) = (((Rp.ask r s z sn ns x (l.getD k (0, 0, 0)).2).j).2.2.2)) && true)))) (by kernel_rfl) (by kernel_rfl) (by kernel_rfl)).trans (by rw [h11]; try rfl)))) ?_
          refine s_b [(20, .m), (21, .m), (22, .m), (24, .m)] 3 <| s_one 23 rfl (by kernel_rfl) rfl ?_
          clear H
          intro v17 H
          refine z_callH (H.useI [1, 2, 3, 4, 5, 6, 7] (fun h => waiting21 hL hx1 hk2 _ h)) fun v18 H => x_nil <| x_then <| z_next H [0, 1, 2, 3, 4, 5, 6, 7, 8, 9, 10, 11, 12, 13] [7, 0, 1, 2, 3, 4, 5, 6, 8, 9, 10, 11, 12, 13] rfl <| s_y 25 (y_eq (.bool false) (show Value.bool (!decide (((List.length (Rp.ask r s z sn ns x (l.getD k (0, 0, 0)).2).Q : Nat) : Int) = ((List.length (Rp.ask r s z sn ns x (l.getD k (0, 0, 0)).2).Q : Nat) : Int))) = Value.bool false by simp) (by kernel_rfl) (fun _ => by kernel_rfl)) <| s_b [(26, .m)] 0 <| s_done (by kernel_rfl) ?_
          clear H
          intro v19 H
          refine z_fr 156 [(2, .pointer (some ⟨g1, 0, none⟩)), (5, .pointer (some ⟨rp, 0, none⟩)), (8, pv), (9, sv), (12, eva), (43, .slice ad nA cA), (44, .int .i64 (nA : Int)), (45, .int .i64 (k : Int)), (90, .bool false)] [] fun uf3 => x_then <| x_f (by kernel_rfl) <| x_skipc <| x_then ?_
          replace H := H.pk [11, 12, 9, 0, 1, 2, 3, 4, 5, 6, 13]
          exact ⟨(Rp.ask r s z sn ns x (l.getD k (0, 0, 0)).2), lsn2, ran2, qnn2, eva, (Rp.askV r s z sn ns x (l.getD k (0, 0, 0)).2), _, frm_of, H, hx1, hk2, (Told.ask x (l.getD k (0, 0, 0)).2), (Nat.le_trans (Rp.askV_len _) (by decide))⟩
        have h10p := of_decide_eq_true h10
        refine z_region_s H 27 [0, 1, 2, 3, 4, 5, 6, 7, 8, 9, 10, 11, 12, 13] <| s_b [(0, .m), (1, .l 8 0), (2, .v (.bool (!(decide ((((Rp.ask r s z sn ns x (l.getD k (0, 0, 0)).2).j).1) = 0))))), (3, .v (.bool (!(decide ((((Rp.ask r s z sn ns x (l.getD k (0, 0, 0)).2).j).1) = 0)))))] 23 ?_
        rw [h10]
        refine s_b [(4, .k), (5, .k), (6, .k), (7, .m), (8, .m), (9, .k), (10, .k), (11, .k), (12, .k), (13, .k), (14, .m), (15, .m), (16, .m)] 10 <| s_c 17 (fun _ H => (Job_of (x := (Rp.ask r s z sn ns x (l.getD k (0, 0, 0)).2)) _ (H.ro1 [1]))) <| s_b [(18, .n 8 0 4 77)] 8 ?_
        have h12 : (decide (((((Rp.ask r s z sn ns x (l.getD k (0, 0, 0)).2).j).1) : Int) = (((Rp.ask r s z sn ns x (l.getD k (0, 0, 0)).2).j).1)) && (decide (((((Rp.ask r s z sn ns x (l.getD k (0, 0, 0)).2).j).2.1) : Int) = (((Rp.ask r s z sn ns x (l.getD k (0, 0, 0)).2).j).2.1)) && (decide (((((Rp.ask r s z sn ns x (l.getD k (0, 0, 0)).2).j).2.2.1) : Int) = (((Rp.ask r s z sn ns x (l.getD k (0, 0, 0)).2).j).2.2.1)) && (decide (((((Rp.ask r s z sn ns x (l.getD k (0, 0, 0)).2).j).2.2.2) : Int) = (((Rp.ask r s z sn ns x (l.getD k (0, 0, 0)).2).j).2.2.2)) && true)))) = true := by simp
        refine s_y 19 (y_val (.bool false) (by kernel_rfl) (fun _ => ((run_neS (t := 77) (x := .tmp 81) (y := .tmp 82) (xs := #[.int .i64 (((Rp.ask r s z sn ns x (l.getD k (0, 0, 0)).2).j).1), .int .i64 (((Rp.ask r s z sn ns x (l.getD k (0, 0, 0)).2).j).2.1), .int .i64 (((Rp.ask r s z sn ns x (l.getD k (0, 0, 0)).2).j).2.2.1), .int .i64 (((Rp.ask r s z sn ns x (l.getD k (0, 0, 0)).2).j).2.2.2)]) (ys := #[.int .i64 (((Rp.ask r s z sn ns x (l.getD k (0, 0, 0)).2).j).1), .int .i64 (((Rp.ask r s z sn ns x (l.getD k (0, 0, 0)).2).j).2.1), .int .i64 (((Rp.ask r s z sn ns x (l.getD k (0, 0, 0)).2).j).2.2.1), .int .i64 (((Rp.ask r s z sn ns x (l.getD k (0, 0, 0)).2).j).2.2.2)]) (B := decide (((((Rp.ask r s z sn ns x (l.getD k (0, 0, 0)).2).j).1) : Int) = (((Rp.ask r s z sn ns x (l.getD k (0, 0, 0)).2).j).1)) && (decide (((((Rp.ask r s z sn ns x (l.getD k (0, 0, 0)).2).j).2.1) : Int) = (((Rp.ask r s z sn ns x (l.getD k (0, 0, 0)).2).j).2.1)) && (decide (((((Rp.ask r s z sn ns x (l.getD k (0, 0, 0)).2).j).2.2.1) : Int) = (((Rp.ask r s z sn ns x (l.getD k (0, 0, 0)).2).j).2.2.1)) && (decide (((((Rp.ask r s z sn ns x (l.getD k (0, 0, 0)).2).j).2.2.2) : Int) = (((Rp.ask r s z sn ns x (l.getD k (0, 0, 0)).2).j).2.2.2)) && true)))) (by kernel_rfl) (by kernel_rfl) (by kernel_rfl)).trans (by rw [h12]; try rfl)))) ?_
        refine s_b [(20, .m), (21, .m), (22, .m), (24, .m)] 3 <| s_one 23 rfl (by kernel_rfl) rfl ?_
        clear H
        intro v20 H
        refine z_callH (H.useI [1, 2, 3, 4, 5, 6, 7] (fun h => waiting21 hL hx1 hk2 _ h)) fun v21 H => x_nil <| x_then <| z_next H [0, 1, 2, 3, 4, 5, 6, 7, 8, 9, 10, 11, 12, 13] [7, 0, 1, 2, 3, 4, 5, 6, 8, 9, 10, 11, 12, 13] rfl <| s_y 25 (y_eq (.bool false) (show Value.bool (!decide (((List.length (Rp.ask r s z sn ns x (l.getD k (0, 0, 0)).2).Q : Nat) : Int) = ((List.length (Rp.ask r s z sn ns x (l.getD k (0, 0, 0)).2).Q : Nat) : Int))) = Value.bool false by simp) (by kernel_rfl) (fun _ => by kernel_rfl)) <| s_b [(26, .m)] 0 <| s_done (by kernel_rfl) ?_
        clear H
        intro v22 H
        refine z_fr 156 [(2, .pointer (some ⟨g1, 0, none⟩)), (5, .pointer (some ⟨rp, 0, none⟩)), (8, pv), (9, sv), (12, eva), (43, .slice ad nA cA), (44, .int .i64 (nA : Int)), (45, .int .i64 (k : Int)), (90, .bool false)] [] fun uf4 => x_then <| x_f (by kernel_rfl) <| x_skipc <| x_then ?_
        replace H := H.pk [11, 12, 9, 0, 1, 2, 3, 4, 5, 6, 13]
        exact ⟨(Rp.ask r s z sn ns x (l.getD k (0, 0, 0)).2), lsn2, ran2, qnn2, eva, (Rp.askV r s z sn ns x (l.getD k (0, 0, 0)).2), _, frm_of, H, hx1, hk2, (Told.ask x (l.getD k (0, 0, 0)).2), (Nat.le_trans (Rp.askV_len _) (by decide))⟩
      · skip
        refine x_b H [.m] <| x_nil <| x_then <| x_seq ?_
        cases h13 : decide ((((Rp.ask r s z sn ns x (l.getD k (0, 0, 0)).2).j).1) = 0)
        · skip
          have h13p := of_decide_eq_false h13
          cases h14 : decide (0 < (((List.length (Rp.askV r s z sn ns (Rp.ask r s z sn ns x (l.getD k (0, 0, 0)).2) (l.getD k (0, 0, 0)).2)) : Nat) : Int))
          · skip
            have h14p := of_decide_eq_false h14
            refine z_region_s H 27 [0, 1, 2, 3, 4, 5, 6, 7, 8, 9, 10, 11, 12, 13] <| s_b [(0, .m), (1, .l 8 0), (2, .v (.bool (!(decide ((((Rp.ask r s z sn ns x (l.getD k (0, 0, 0)).2).j).1) = 0))))), (3, .v (.bool (!(decide ((((Rp.ask r s z sn ns x (l.getD k (0, 0, 0)).2).j).1) = 0)))))] 23 ?_
            rw [h13]
            refine s_b [(4, .m), (5, .m), (6, .v (.bool (decide (0 < (((List.length (Rp.askV r s z sn ns (Rp.ask r s z sn ns x (l.getD k (0, 0, 0)).2) (l.getD k (0, 0, 0)).2)) : Nat) : Int))))), (7, .v (.bool (decide (0 < (((List.length (Rp.askV r s z sn ns (Rp.ask r s z sn ns x (l.getD k (0, 0, 0)).2) (l.getD k (0, 0, 0)).2)) : Nat) : Int))))), (8, .v (.bool (decide (0 < (((List.length (Rp.askV r s z sn ns (Rp.ask r s z sn ns x (l.getD k (0, 0, 0)).2) (l.getD k (0, 0, 0)).2)) : Nat) : Int)))))] 18 ?_
            rw [h14]
            refine s_b [(9, .k), (10, .k), (11, .k), (12, .k), (13, .k), (14, .m), (15, .m), (16, .m)] 10 <| s_c 17 (fun _ H => (Job_of (x := (Rp.ask r s z sn ns x (l.getD k (0, 0, 0)).2)) _ (H.ro1 [1]))) <| s_b [(18, .n 8 0 4 77)] 8 ?_
            have h15 : (decide (((((Rp.ask r s z sn ns x (l.getD k (0, 0, 0)).2).j).1) : Int) = (((Rp.ask r s z sn ns x (l.getD k (0, 0, 0)).2).j).1)) && (decide (((((Rp.ask r s z sn ns x (l.getD k (0, 0, 0)).2).j).2.1) : Int) = (((Rp.ask r s z sn ns x (l.getD k (0, 0, 0)).2).j).2.1)) && (decide (((((Rp.ask r s z sn ns x (l.getD k (0, 0, 0)).2).j).2.2.1) : Int) = (((Rp.ask r s z sn ns x (l.getD k (0, 0, 0)).2).j).2.2.1)) && (decide (((((Rp.ask r s z sn ns x (l.getD k (0, 0, 0)).2).j).2.2.2) : Int) = (((Rp.ask r s z sn ns x (l.getD k (0, 0, 0)).2).j).2.2.2)) && true)))) = true := by simp
            refine s_y 19 (y_val (.bool false) (by kernel_rfl) (fun _ => ((run_neS (t := 77) (x := .tmp 81) (y := .tmp 82) (xs := #[.int .i64 (((Rp.ask r s z sn ns x (l.getD k (0, 0, 0)).2).j).1), .int .i64 (((Rp.ask r s z sn ns x (l.getD k (0, 0, 0)).2).j).2.1), .int .i64 (((Rp.ask r s z sn ns x (l.getD k (0, 0, 0)).2).j).2.2.1), .int .i64 (((Rp.ask r s z sn ns x (l.getD k (0, 0, 0)).2).j).2.2.2)]) (ys := #[.int .i64 (((Rp.ask r s z sn ns x (l.getD k (0, 0, 0)).2).j).1), .int .i64 (((Rp.ask r s z sn ns x (l.getD k (0, 0, 0)).2).j).2.1), .int .i64 (((Rp.ask r s z sn ns x (l.getD k (0, 0, 0)).2).j).2.2.1), .int .i64 (((Rp.ask r s z sn ns x (l.getD k (0, 0, 0)).2).j).2.2.2)]) (B := decide (((((Rp.ask r s z sn ns x (l.getD k (0, 0, 0)).2).j).1) : Int) = (((Rp.ask r s z sn ns x (l.getD k (0, 0, 0)).2).j).1)) && (decide (((((Rp.ask r s z sn ns x (l.getD k (0, 0, 0)).2).j).2.1) : Int) = (((Rp.ask r s z sn ns x (l.getD k (0, 0, 0)).2).j).2.1)) && (decide (((((Rp.ask r s z sn ns x (l.getD k (0, 0, 0)).2).j).2.2.1) : Int) = (((Rp.ask r s z sn ns x (l.getD k (0, 0, 0)).2).j).2.2.1)) && (decide (((((Rp.ask r s z sn ns x (l.getD k (0, 0, 0)).2).j).2.2.2) : Int) = (((Rp.ask r s z sn ns x (l.getD k (0, 0, 0)).2).j).2.2.2)) && true)))) (by kernel_rfl) (by kernel_rfl) (by kernel_rfl)).trans (by rw [h15]; try rfl)))) ?_
            refine s_b [(20, .m), (21, .m), (22, .m), (24, .m)] 3 <| s_one 23 rfl (by kernel_rfl) rfl ?_
            clear H
            intro v23 H
            refine z_callH (H.useI [1, 2, 3, 4, 5, 6, 7] (fun h => waiting21 hL hx1 hk2 _ h)) fun v24 H => x_nil <| x_then <| z_next H [0, 1, 2, 3, 4, 5, 6, 7, 8, 9, 10, 11, 12, 13] [7, 0, 1, 2, 3, 4, 5, 6, 8, 9, 10, 11, 12, 13] rfl <| s_y 25 (y_eq (.bool false) (show Value.bool (!decide (((List.length (Rp.ask r s z sn ns x (l.getD k (0, 0, 0)).2).Q : Nat) : Int) = ((List.length (Rp.ask r s z sn ns x (l.getD k (0, 0, 0)).2).Q : Nat) : Int))) = Value.bool false by simp) (by kernel_rfl) (fun _ => by kernel_rfl)) <| s_b [(26, .m)] 0 <| s_done (by kernel_rfl) ?_
            clear H
            intro v25 H
            refine z_fr 156 [(2, .pointer (some ⟨g1, 0, none⟩)), (5, .pointer (some ⟨rp, 0, none⟩)), (8, pv), (9, sv), (12, eva), (43, .slice ad nA cA), (44, .int .i64 (nA : Int)), (45, .int .i64 (k : Int)), (90, .bool false)] [] fun uf5 => x_then <| x_f (by kernel_rfl) <| x_skipc <| x_then ?_
            replace H := H.pk [11, 12, 9, 0, 1, 2, 3, 4, 5, 6, 13]
            exact ⟨(Rp.ask r s z sn ns x (l.getD k (0, 0, 0)).2), lsn2, ran2, qnn2, eva, (Rp.askV r s z sn ns x (l.getD k (0, 0, 0)).2), _, frm_of, H, hx1, hk2, (Told.ask x (l.getD k (0, 0, 0)).2), (Nat.le_trans (Rp.askV_len _) (by decide))⟩
          have h14p := of_decide_eq_true h14
          cases h16 : decide ((((Rp.askV r s z sn ns (Rp.ask r s z sn ns x (l.getD k (0, 0, 0)).2) (l.getD k (0, 0, 0)).2).getD 0 (0, 0, 0)).1) = 5)
          · skip
            have h16p := of_decide_eq_false h16
            exact absurd h16 (by rcases htk with e | e | e; (exfalso; omega); (exfalso; have q := h14p; rw [e] at q; simp at q); (rw [e]; simp))
          have h16p := of_decide_eq_true h16
          refine z_region_s H 27 [0, 1, 2, 3, 4, 5, 6, 7, 8, 9, 10, 11, 12, 13] <| s_b [(0, .m), (1, .l 8 0), (2, .v (.bool (!(decide ((((Rp.ask r s z sn ns x (l.getD k (0, 0, 0)).2).j).1) = 0))))), (3, .v (.bool (!(decide ((((Rp.ask r s z sn ns x (l.getD k (0, 0, 0)).2).j).1) = 0)))))] 23 ?_
          rw [h13]
          refine s_b [(4, .m), (5, .m), (6, .v (.bool (decide (0 < (((List.length (Rp.askV r s z sn ns (Rp.ask r s z sn ns x (l.getD k (0, 0, 0)).2) (l.getD k (0, 0, 0)).2)) : Nat) : Int))))), (7, .v (.bool (decide (0 < (((List.length (Rp.askV r s z sn ns (Rp.ask r s z sn ns x (l.getD k (0, 0, 0)).2) (l.getD k (0, 0, 0)).2)) : Nat) : Int))))), (8, .v (.bool (decide (0 < (((List.length (Rp.askV r s z sn ns (Rp.ask r s z sn ns x (l.getD k (0, 0, 0)).2) (l.getD k (0, 0, 0)).2)) : Nat) : Int)))))] 18 ?_
          rw [h14]
          refine s_b [(9, .m)] 17 <| s_y 10 (y_ix (t := 75) gw 0 0 (List.length (Rp.askV r s z sn ns (Rp.ask r s z sn ns x (l.getD k (0, 0, 0)).2) (l.getD k (0, 0, 0)).2)) cw 81 3 (0 * 3) (by omega) (by omega) (by kernel_rfl) (by kernel_rfl) (by kernel_rfl) (fun _ => by kernel_rfl)) <| s_b [(11, .m)] 15 <| s_y 12 (y_loadc gw (0 * 3) (.int .i64 (((Rp.askV r s z sn ns (Rp.ask r s z sn ns x (l.getD k (0, 0, 0)).2) (l.getD k (0, 0, 0)).2).getD 0 (0, 0, 0)).1)) (fun _ H => (H.rowCells 0 rfl (0 * 3) (flatAt int3Len (0, 0, 0) _ (by omega))) 0 _ rfl) (by kernel_rfl) (fun _ => by kernel_rfl)) <| s_b [(13, .v (.bool (!(decide ((((Rp.askV r s z sn ns (Rp.ask r s z sn ns x (l.getD k (0, 0, 0)).2) (l.getD k (0, 0, 0)).2).getD 0 (0, 0, 0)).1) = 5))))), (14, .v (.bool (!(decide ((((Rp.askV r s z sn ns (Rp.ask r s z sn ns x (l.getD k (0, 0, 0)).2) (l.getD k (0, 0, 0)).2).getD 0 (0, 0, 0)).1) = 5))))), (15, .v (.bool (!(decide ((((Rp.askV r s z sn ns (Rp.ask r s z sn ns x (l.getD k (0, 0, 0)).2) (l.getD k (0, 0, 0)).2).getD 0 (0, 0, 0)).1) = 5)))))] 11 ?_
          rw [h16]
          refine s_b [(16, .m)] 10 <| s_c 17 (fun _ H => (Job_of (x := (Rp.ask r s z sn ns x (l.getD k (0, 0, 0)).2)) _ (H.ro1 [1]))) <| s_b [(18, .n 8 0 4 77)] 8 ?_
          have h17 : (decide (((((Rp.ask r s z sn ns x (l.getD k (0, 0, 0)).2).j).1) : Int) = (((Rp.ask r s z sn ns x (l.getD k (0, 0, 0)).2).j).1)) && (decide (((((Rp.ask r s z sn ns x (l.getD k (0, 0, 0)).2).j).2.1) : Int) = (((Rp.ask r s z sn ns x (l.getD k (0, 0, 0)).2).j).2.1)) && (decide (((((Rp.ask r s z sn ns x (l.getD k (0, 0, 0)).2).j).2.2.1) : Int) = (((Rp.ask r s z sn ns x (l.getD k (0, 0, 0)).2).j).2.2.1)) && (decide (((((Rp.ask r s z sn ns x (l.getD k (0, 0, 0)).2).j).2.2.2) : Int) = (((Rp.ask r s z sn ns x (l.getD k (0, 0, 0)).2).j).2.2.2)) && true)))) = true := by simp
          refine s_y 19 (y_val (.bool false) (by kernel_rfl) (fun _ => ((run_neS (t := 77) (x := .tmp 81) (y := .tmp 82) (xs := #[.int .i64 (((Rp.ask r s z sn ns x (l.getD k (0, 0, 0)).2).j).1), .int .i64 (((Rp.ask r s z sn ns x (l.getD k (0, 0, 0)).2).j).2.1), .int .i64 (((Rp.ask r s z sn ns x (l.getD k (0, 0, 0)).2).j).2.2.1), .int .i64 (((Rp.ask r s z sn ns x (l.getD k (0, 0, 0)).2).j).2.2.2)]) (ys := #[.int .i64 (((Rp.ask r s z sn ns x (l.getD k (0, 0, 0)).2).j).1), .int .i64 (((Rp.ask r s z sn ns x (l.getD k (0, 0, 0)).2).j).2.1), .int .i64 (((Rp.ask r s z sn ns x (l.getD k (0, 0, 0)).2).j).2.2.1), .int .i64 (((Rp.ask r s z sn ns x (l.getD k (0, 0, 0)).2).j).2.2.2)]) (B := decide (((((Rp.ask r s z sn ns x (l.getD k (0, 0, 0)).2).j).1) : Int) = (((Rp.ask r s z sn ns x (l.getD k (0, 0, 0)).2).j).1)) && (decide (((((Rp.ask r s z sn ns x (l.getD k (0, 0, 0)).2).j).2.1) : Int) = (((Rp.ask r s z sn ns x (l.getD k (0, 0, 0)).2).j).2.1)) && (decide (((((Rp.ask r s z sn ns x (l.getD k (0, 0, 0)).2).j).2.2.1) : Int) = (((Rp.ask r s z sn ns x (l.getD k (0, 0, 0)).2).j).2.2.1)) && (decide (((((Rp.ask r s z sn ns x (l.getD k (0, 0, 0)).2).j).2.2.2) : Int) = (((Rp.ask r s z sn ns x (l.getD k (0, 0, 0)).2).j).2.2.2)) && true)))) (by kernel_rfl) (by kernel_rfl) (by kernel_rfl)).trans (by rw [h17]; try rfl)))) ?_
          refine s_b [(20, .m), (21, .m), (22, .m), (24, .m)] 3 <| s_one 23 rfl (by kernel_rfl) rfl ?_
          clear H
          intro v26 H
          refine z_callH (H.useI [1, 2, 3, 4, 5, 6, 7] (fun h => waiting21 hL hx1 hk2 _ h)) fun v27 H => x_nil <| x_then <| z_next H [0, 1, 2, 3, 4, 5, 6, 7, 8, 9, 10, 11, 12, 13] [7, 0, 1, 2, 3, 4, 5, 6, 8, 9, 10, 11, 12, 13] rfl <| s_y 25 (y_eq (.bool false) (show Value.bool (!decide (((List.length (Rp.ask r s z sn ns x (l.getD k (0, 0, 0)).2).Q : Nat) : Int) = ((List.length (Rp.ask r s z sn ns x (l.getD k (0, 0, 0)).2).Q : Nat) : Int))) = Value.bool false by simp) (by kernel_rfl) (fun _ => by kernel_rfl)) <| s_b [(26, .m)] 0 <| s_done (by kernel_rfl) ?_
          clear H
          intro v28 H
          refine z_fr 156 [(2, .pointer (some ⟨g1, 0, none⟩)), (5, .pointer (some ⟨rp, 0, none⟩)), (8, pv), (9, sv), (12, eva), (43, .slice ad nA cA), (44, .int .i64 (nA : Int)), (45, .int .i64 (k : Int)), (90, .bool false)] [] fun uf6 => x_then <| x_f (by kernel_rfl) <| x_skipc <| x_then ?_
          replace H := H.pk [11, 12, 9, 0, 1, 2, 3, 4, 5, 6, 13]
          exact ⟨(Rp.ask r s z sn ns x (l.getD k (0, 0, 0)).2), lsn2, ran2, qnn2, eva, (Rp.askV r s z sn ns x (l.getD k (0, 0, 0)).2), _, frm_of, H, hx1, hk2, (Told.ask x (l.getD k (0, 0, 0)).2), (Nat.le_trans (Rp.askV_len _) (by decide))⟩
        have h13p := of_decide_eq_true h13
        refine z_region_s H 27 [0, 1, 2, 3, 4, 5, 6, 7, 8, 9, 10, 11, 12, 13] <| s_b [(0, .m), (1, .l 8 0), (2, .v (.bool (!(decide ((((Rp.ask r s z sn ns x (l.getD k (0, 0, 0)).2).j).1) = 0))))), (3, .v (.bool (!(decide ((((Rp.ask r s z sn ns x (l.getD k (0, 0, 0)).2).j).1) = 0)))))] 23 ?_
        rw [h13]
        refine s_b [(4, .k), (5, .k), (6, .k), (7, .m), (8, .m), (9, .k), (10, .k), (11, .k), (12, .k), (13, .k), (14, .m), (15, .m), (16, .m)] 10 <| s_c 17 (fun _ H => (Job_of (x := (Rp.ask r s z sn ns x (l.getD k (0, 0, 0)).2)) _ (H.ro1 [1]))) <| s_b [(18, .n 8 0 4 77)] 8 ?_
        have h18 : (decide (((((Rp.ask r s z sn ns x (l.getD k (0, 0, 0)).2).j).1) : Int) = (((Rp.ask r s z sn ns x (l.getD k (0, 0, 0)).2).j).1)) && (decide (((((Rp.ask r s z sn ns x (l.getD k (0, 0, 0)).2).j).2.1) : Int) = (((Rp.ask r s z sn ns x (l.getD k (0, 0, 0)).2).j).2.1)) && (decide (((((Rp.ask r s z sn ns x (l.getD k (0, 0, 0)).2).j).2.2.1) : Int) = (((Rp.ask r s z sn ns x (l.getD k (0, 0, 0)).2).j).2.2.1)) && (decide (((((Rp.ask r s z sn ns x (l.getD k (0, 0, 0)).2).j).2.2.2) : Int) = (((Rp.ask r s z sn ns x (l.getD k (0, 0, 0)).2).j).2.2.2)) && true)))) = true := by simp
        refine s_y 19 (y_val (.bool false) (by kernel_rfl) (fun _ => ((run_neS (t := 77) (x := .tmp 81) (y := .tmp 82) (xs := #[.int .i64 (((Rp.ask r s z sn ns x (l.getD k (0, 0, 0)).2).j).1), .int .i64 (((Rp.ask r s z sn ns x (l.getD k (0, 0, 0)).2).j).2.1), .int .i64 (((Rp.ask r s z sn ns x (l.getD k (0, 0, 0)).2).j).2.2.1), .int .i64 (((Rp.ask r s z sn ns x (l.getD k (0, 0, 0)).2).j).2.2.2)]) (ys := #[.int .i64 (((Rp.ask r s z sn ns x (l.getD k (0, 0, 0)).2).j).1), .int .i64 (((Rp.ask r s z sn ns x (l.getD k (0, 0, 0)).2).j).2.1), .int .i64 (((Rp.ask r s z sn ns x (l.getD k (0, 0, 0)).2).j).2.2.1), .int .i64 (((Rp.ask r s z sn ns x (l.getD k (0, 0, 0)).2).j).2.2.2)]) (B := decide (((((Rp.ask r s z sn ns x (l.getD k (0, 0, 0)).2).j).1) : Int) = (((Rp.ask r s z sn ns x (l.getD k (0, 0, 0)).2).j).1)) && (decide (((((Rp.ask r s z sn ns x (l.getD k (0, 0, 0)).2).j).2.1) : Int) = (((Rp.ask r s z sn ns x (l.getD k (0, 0, 0)).2).j).2.1)) && (decide (((((Rp.ask r s z sn ns x (l.getD k (0, 0, 0)).2).j).2.2.1) : Int) = (((Rp.ask r s z sn ns x (l.getD k (0, 0, 0)).2).j).2.2.1)) && (decide (((((Rp.ask r s z sn ns x (l.getD k (0, 0, 0)).2).j).2.2.2) : Int) = (((Rp.ask r s z sn ns x (l.getD k (0, 0, 0)).2).j).2.2.2)) && true)))) (by kernel_rfl) (by kernel_rfl) (by kernel_rfl)).trans (by rw [h18]; try rfl)))) ?_
        refine s_b [(20, .m), (21, .m), (22, .m), (24, .m)] 3 <| s_one 23 rfl (by kernel_rfl) rfl ?_
        clear H
        intro v29 H
        refine z_callH (H.useI [1, 2, 3, 4, 5, 6, 7] (fun h => waiting21 hL hx1 hk2 _ h)) fun v30 H => x_nil <| x_then <| z_next H [0, 1, 2, 3, 4, 5, 6, 7, 8, 9, 10, 11, 12, 13] [7, 0, 1, 2, 3, 4, 5, 6, 8, 9, 10, 11, 12, 13] rfl <| s_y 25 (y_eq (.bool false) (show Value.bool (!decide (((List.length (Rp.ask r s z sn ns x (l.getD k (0, 0, 0)).2).Q : Nat) : Int) = ((List.length (Rp.ask r s z sn ns x (l.getD k (0, 0, 0)).2).Q : Nat) : Int))) = Value.bool false by simp) (by kernel_rfl) (fun _ => by kernel_rfl)) <| s_b [(26, .m)] 0 <| s_done (by kernel_rfl) ?_
        clear H
        intro v31 H
        refine z_fr 156 [(2, .pointer (some ⟨g1, 0, none⟩)), (5, .pointer (some ⟨rp, 0, none⟩)), (8, pv), (9, sv), (12, eva), (43, .slice ad nA cA), (44, .int .i64 (nA : Int)), (45, .int .i64 (k : Int)), (90, .bool false)] [] fun uf7 => x_then <| x_f (by kernel_rfl) <| x_skipc <| x_then ?_
        replace H := H.pk [11, 12, 9, 0, 1, 2, 3, 4, 5, 6, 13]
        exact ⟨(Rp.ask r s z sn ns x (l.getD k (0, 0, 0)).2), lsn2, ran2, qnn2, eva, (Rp.askV r s z sn ns x (l.getD k (0, 0, 0)).2), _, frm_of, H, hx1, hk2, (Told.ask x (l.getD k (0, 0, 0)).2), (Nat.le_trans (Rp.askV_len _) (by decide))⟩
    · skip
      clear H
      rintro _ v32 ⟨xj, lsj, raj, qnj, evj, E, uf2, rfl, H, r1, r2, r3, r4⟩
      have hxj := r1
      have hkj := r2
      have htd := r3
      have hlE := r4
      refine x_then <| x_seq <| x_region ?_
      rcases H.rowForm 2 rfl with ⟨rfl, h0⟩ | ⟨gw, cw, rfl, hcw, -⟩
      · skip
        replace H := H.pk [0, 1, 3, 4, 5, 6, 7, 8, 9, 10]
        refine x_b H [.m, .m, .m] <| x_nil <| x_then <| x_block <| x_loop (G := Unit) (fun (_ : Unit) a w' => ∃ uf8 : Nat → Value, a = frm 156 uf8 [(2, .pointer (some ⟨g1, 0, none⟩)), (5, .pointer (some ⟨rp, 0, none⟩)), (8, pv), (9, sv), (43, .slice ad nA cA), (44, .int .i64 (nA : Int)), (45, .int .i64 (k : Int)), (99, .slice none 0 0), (100, .int .i64 0), (101, .int .i64 0)] [] ∧ Hs [] w0 w' [.row (pv) 3 1 (List.length (upL (sn : Int) x.pu)) (List.map (Value.int .i64) (upL (sn : Int) x.pu)), .row (sv) 3 1 (List.length (upL r x.ru)) (List.map (Value.int .i64) (upL r x.ru)), .blk rp #[.pointer (some ⟨p, 0, none⟩), .int .i64 xj.j.1, .int .i64 xj.j.2.1, .int .i64 xj.j.2.2.1, .int .i64 xj.j.2.2.2, .pointer (some ⟨q, 0, none⟩)] 133, .blk p #[.int .i64 r, .int .i64 s, .int .i64 b, .int .i64 o, .int .i64 c, .int .i64 y, .int .i64 z, .slice (some ⟨gl, 0, none⟩) sn cl, .slice (some ⟨gd, 0, none⟩) pg cd, .slice (some ⟨gs, 0, none⟩) ns cs, .int .i64 ((xj.pu : Nat) : Int), .int .i64 ((xj.ru : Nat) : Int)] 118, .row (.slice (some ⟨gl, 0, none⟩) sn cl) 3 1 sn (List.map (Value.int .i64) xj.L), .row (.slice (some ⟨gd, 0, none⟩) pg cd) 4 1 pg (List.map Value.bool xj.D), .row (.slice (some ⟨gs, 0, none⟩) ns cs) 3 1 ns (List.map (Value.int .i64) xj.S), .blk q #[.slice (some ⟨gq, 0, none⟩) 256 cq, .int .i64 (raj : Int), .int .i64 (qnj : Int)] 170, .row (.slice (some ⟨gq, 0, none⟩) 256 cq) 72 2 256 (List.flatMap entL lsj), .blk g1 #[.int .i64 r, .int .i64 s, .int .i64 b, .int .i64 o, .int .i64 c, .int .i64 y, .int .i64 z] 25]) (fun _ => 0) () ⟨_, frm_of, H⟩ ?_
        clear H
        rintro _ _ v33 ⟨uf8, rfl, H⟩
        refine x_seq <| x_region <| x_b H [.m] <| x_nil <| x_then <| x_seq <| x_f (by kernel_rfl) ?_
        refine x_exit <| x_then_exit <| x_then_exit <| x_blk_exit <| x_blk <| x_then <| x_region ?_
        refine z_ar ((k : Int) + 1) <| x_b H [.m] <| x_nil <| x_then ?_
        have hE0 : E = [] := List.eq_nil_of_length_eq_zero (by omega)
        have eP : (upL (sn : Int) x.pu) = (upL (sn : Int) xj.pu) := (by have q := htd.1; rw [hE0] at q; exact (List.append_nil _).symm.trans q)
        have eS : (upL r x.ru) = (upL r xj.ru) := (by have q := htd.2; rw [hE0] at q; exact (List.append_nil _).symm.trans q)
        replace H := hsCast (H.pk [0, 1, 2, 3, 4, 5, 6, 7, 8, 9]) (L2 := [.row (pv) 3 1 (List.length (upL (sn : Int) x.pu)) (List.map (Value.int .i64) (upL (sn : Int) x.pu)), .row (sv) 3 1 (List.length (upL r x.ru)) (List.map (Value.int .i64) (upL r x.ru)), .blk rp #[.pointer (some ⟨p, 0, none⟩), .int .i64 xj.j.1, .int .i64 xj.j.2.1, .int .i64 xj.j.2.2.1, .int .i64 xj.j.2.2.2, .pointer (some ⟨q, 0, none⟩)] 133, .blk p #[.int .i64 r, .int .i64 s, .int .i64 b, .int .i64 o, .int .i64 c, .int .i64 y, .int .i64 z, .slice (some ⟨gl, 0, none⟩) sn cl, .slice (some ⟨gd, 0, none⟩) pg cd, .slice (some ⟨gs, 0, none⟩) ns cs, .int .i64 ((xj.pu : Nat) : Int), .int .i64 ((xj.ru : Nat) : Int)] 118, .row (.slice (some ⟨gl, 0, none⟩) sn cl) 3 1 sn (List.map (Value.int .i64) xj.L), .row (.slice (some ⟨gd, 0, none⟩) pg cd) 4 1 pg (List.map Value.bool xj.D), .row (.slice (some ⟨gs, 0, none⟩) ns cs) 3 1 ns (List.map (Value.int .i64) xj.S), .blk q #[.slice (some ⟨gq, 0, none⟩) 256 cq, .int .i64 (raj : Int), .int .i64 (qnj : Int)] 170, .row (.slice (some ⟨gq, 0, none⟩) 256 cq) 72 2 256 (List.flatMap entL lsj), .blk g1 #[.int .i64 r, .int .i64 s, .int .i64 b, .int .i64 o, .int .i64 c, .int .i64 y, .int .i64 z] 25]) (by kernel_rfl)
        rw [eP, eS] at H
        exact ⟨(k + 1, xj, lsj, raj, qnj, pv, sv), (by dsimp only; omega), _, frm_of, H, (by omega), hxj, hkj⟩
      · skip
        refine x_b H [.m, .m, .m] <| x_nil <| x_then <| x_block ?_
        replace H := hsCast (H.pk [0, 1, 2, 3, 4, 5, 6, 7, 8, 9, 10]) (L2 := [.row (pv) 3 1 (List.length (upL (sn : Int) x.pu)) (List.map (Value.int .i64) (upL (sn : Int) x.pu)), .row (sv) 3 1 (List.length (upL r x.ru)) (List.map (Value.int .i64) (upL r x.ru)), .row (.slice (some ⟨gw, 0, none⟩) (List.length E) cw) 81 3 (List.length E) (List.flatMap int3L E), .blk rp #[.pointer (some ⟨p, 0, none⟩), .int .i64 xj.j.1, .int .i64 xj.j.2.1, .int .i64 xj.j.2.2.1, .int .i64 xj.j.2.2.2, .pointer (some ⟨q, 0, none⟩)] 133, .blk p #[.int .i64 r, .int .i64 s, .int .i64 b, .int .i64 o, .int .i64 c, .int .i64 y, .int .i64 z, .slice (some ⟨gl, 0, none⟩) sn cl, .slice (some ⟨gd, 0, none⟩) pg cd, .slice (some ⟨gs, 0, none⟩) ns cs, .int .i64 ((xj.pu : Nat) : Int), .int .i64 ((xj.ru : Nat) : Int)] 118, .row (.slice (some ⟨gl, 0, none⟩) sn cl) 3 1 sn (List.map (Value.int .i64) xj.L), .row (.slice (some ⟨gd, 0, none⟩) pg cd) 4 1 pg (List.map Value.bool xj.D), .row (.slice (some ⟨gs, 0, none⟩) ns cs) 3 1 ns (List.map (Value.int .i64) xj.S), .blk q #[.slice (some ⟨gq, 0, none⟩) 256 cq, .int .i64 (raj : Int), .int .i64 (qnj : Int)] 170, .row (.slice (some ⟨gq, 0, none⟩) 256 cq) 72 2 256 (List.flatMap entL lsj), .blk g1 #[.int .i64 r, .int .i64 s, .int .i64 b, .int .i64 o, .int .i64 c, .int .i64 y, .int .i64 z] 25]) (by kernel_rfl)
        have eP0 : (upL (sn : Int) x.pu) = ((upL (sn : Int) x.pu) ++ (evK 3 (List.take 0 E))) := by simp [evK]
        have eS0 : (upL r x.ru) = ((upL r x.ru) ++ (evK 4 (List.take 0 E))) := by simp [evK]
        replace H := hsCast H (L2 := [.row (pv) 3 1 (List.length ((upL (sn : Int) x.pu) ++ (evK 3 (List.take 0 E)))) (List.map (Value.int .i64) ((upL (sn : Int) x.pu) ++ (evK 3 (List.take 0 E)))), .row (sv) 3 1 (List.length ((upL r x.ru) ++ (evK 4 (List.take 0 E)))) (List.map (Value.int .i64) ((upL r x.ru) ++ (evK 4 (List.take 0 E)))), .row (.slice (some ⟨gw, 0, none⟩) (List.length E) cw) 81 3 (List.length E) (List.flatMap int3L E), .blk rp #[.pointer (some ⟨p, 0, none⟩), .int .i64 xj.j.1, .int .i64 xj.j.2.1, .int .i64 xj.j.2.2.1, .int .i64 xj.j.2.2.2, .pointer (some ⟨q, 0, none⟩)] 133, .blk p #[.int .i64 r, .int .i64 s, .int .i64 b, .int .i64 o, .int .i64 c, .int .i64 y, .int .i64 z, .slice (some ⟨gl, 0, none⟩) sn cl, .slice (some ⟨gd, 0, none⟩) pg cd, .slice (some ⟨gs, 0, none⟩) ns cs, .int .i64 ((xj.pu : Nat) : Int), .int .i64 ((xj.ru : Nat) : Int)] 118, .row (.slice (some ⟨gl, 0, none⟩) sn cl) 3 1 sn (List.map (Value.int .i64) xj.L), .row (.slice (some ⟨gd, 0, none⟩) pg cd) 4 1 pg (List.map Value.bool xj.D), .row (.slice (some ⟨gs, 0, none⟩) ns cs) 3 1 ns (List.map (Value.int .i64) xj.S), .blk q #[.slice (some ⟨gq, 0, none⟩) 256 cq, .int .i64 (raj : Int), .int .i64 (qnj : Int)] 170, .row (.slice (some ⟨gq, 0, none⟩) 256 cq) 72 2 256 (List.flatMap entL lsj), .blk g1 #[.int .i64 r, .int .i64 s, .int .i64 b, .int .i64 o, .int .i64 c, .int .i64 y, .int .i64 z] 25]) (by rw [← eP0, ← eS0])
        have htd0 := htd
        have nP := upL_nodup (sn : Int) xj.pu
        rw [← htd0.1] at nP
        have nS := upL_nodup r xj.ru
        rw [← htd0.2] at nS
        have lP := congrArg List.length htd0.1
        have lS := congrArg List.length htd0.2
        rw [upL_len, List.length_append, upL_len] at lP lS
        have hme : xj.pu ≤ 64 ∧ xj.ru ≤ 8 := by have m1 := hxj.v.m.hp; have m2 := hxj.v.m.hr; omega
        refine x_loop (G := Nat × Value × Value) (fun gh a w' => match gh with | (j, pv2, sv2) => ∃ uf9 : Nat → Value, a = frm 156 uf9 [(2, .pointer (some ⟨g1, 0, none⟩)), (5, .pointer (some ⟨rp, 0, none⟩)), (8, pv2), (9, sv2), (43, .slice ad nA cA), (44, .int .i64 (nA : Int)), (45, .int .i64 (k : Int)), (99, .slice (some ⟨gw, 0, none⟩) (List.length E) cw), (100, .int .i64 (((List.length E) : Nat) : Int)), (101, .int .i64 (j : Int))] [] ∧ Hs [] w0 w' [.row (pv2) 3 1 (List.length ((upL (sn : Int) x.pu) ++ (evK 3 (List.take j E)))) (List.map (Value.int .i64) ((upL (sn : Int) x.pu) ++ (evK 3 (List.take j E)))), .row (sv2) 3 1 (List.length ((upL r x.ru) ++ (evK 4 (List.take j E)))) (List.map (Value.int .i64) ((upL r x.ru) ++ (evK 4 (List.take j E)))), .row (.slice (some ⟨gw, 0, none⟩) (List.length E) cw) 81 3 (List.length E) (List.flatMap int3L E), .blk rp #[.pointer (some ⟨p, 0, none⟩), .int .i64 xj.j.1, .int .i64 xj.j.2.1, .int .i64 xj.j.2.2.1, .int .i64 xj.j.2.2.2, .pointer (some ⟨q, 0, none⟩)] 133, .blk p #[.int .i64 r, .int .i64 s, .int .i64 b, .int .i64 o, .int .i64 c, .int .i64 y, .int .i64 z, .slice (some ⟨gl, 0, none⟩) sn cl, .slice (some ⟨gd, 0, none⟩) pg cd, .slice (some ⟨gs, 0, none⟩) ns cs, .int .i64 ((xj.pu : Nat) : Int), .int .i64 ((xj.ru : Nat) : Int)] 118, .row (.slice (some ⟨gl, 0, none⟩) sn cl) 3 1 sn (List.map (Value.int .i64) xj.L), .row (.slice (some ⟨gd, 0, none⟩) pg cd) 4 1 pg (List.map Value.bool xj.D), .row (.slice (some ⟨gs, 0, none⟩) ns cs) 3 1 ns (List.map (Value.int .i64) xj.S), .blk q #[.slice (some ⟨gq, 0, none⟩) 256 cq, .int .i64 (raj : Int), .int .i64 (qnj : Int)] 170, .row (.slice (some ⟨gq, 0, none⟩) 256 cq) 72 2 256 (List.flatMap entL lsj), .blk g1 #[.int .i64 r, .int .i64 s, .int .i64 b, .int .i64 o, .int .i64 c, .int .i64 y, .int .i64 z] 25] ∧ (j ≤ List.length E)) (fun gh => match gh with | (j, pv2, sv2) => List.length E - j) (0, pv, sv) ⟨_, frm_of, H, (Nat.zero_le _)⟩ ?_
        clear H
        rintro ⟨j, pv2, sv2⟩ _ v34 ⟨uf9, rfl, H, r1⟩
        have tl3 : (evK 3 (List.take j E)).length ≤ j := by unfold evK; rw [List.length_map]; exact Nat.le_trans (List.length_filter_le _ _) (by rw [List.length_take]; omega)
        have tl4 : (evK 4 (List.take j E)).length ≤ j := by unfold evK; rw [List.length_map]; exact Nat.le_trans (List.length_filter_le _ _) (by rw [List.length_take]; omega)
        refine x_seq <| x_region <| x_b H [.v (.bool (decide ((j : Int) < (((List.length E) : Nat) : Int))))] <| x_nil <| x_then <| x_seq ?_
        cases h19 : decide ((j : Int) < (((List.length E) : Nat) : Int))
        · skip
          have h19p := of_decide_eq_false h19
          refine x_f (by kernel_rfl) <| x_exit <| x_then_exit <| x_then_exit <| x_blk_exit <| x_blk <| x_then ?_
          refine x_region <| z_ar ((k : Int) + 1) <| x_b H [.m] <| x_nil <| x_then ?_
          have hjE : j = List.length E := by omega
          have eP : ((upL (sn : Int) x.pu) ++ (evK 3 (List.take j E))) = (upL (sn : Int) xj.pu) := (by rw [hjE, List.take_length]; exact htd.1)
          have eS : ((upL r x.ru) ++ (evK 4 (List.take j E))) = (upL r xj.ru) := (by rw [hjE, List.take_length]; exact htd.2)
          replace H := hsCast (H.pk [0, 1, 3, 4, 5, 6, 7, 8, 9, 10]) (L2 := [.row (pv2) 3 1 (List.length ((upL (sn : Int) x.pu) ++ (evK 3 (List.take j E)))) (List.map (Value.int .i64) ((upL (sn : Int) x.pu) ++ (evK 3 (List.take j E)))), .row (sv2) 3 1 (List.length ((upL r x.ru) ++ (evK 4 (List.take j E)))) (List.map (Value.int .i64) ((upL r x.ru) ++ (evK 4 (List.take j E)))), .blk rp #[.pointer (some ⟨p, 0, none⟩), .int .i64 xj.j.1, .int .i64 xj.j.2.1, .int .i64 xj.j.2.2.1, .int .i64 xj.j.2.2.2, .pointer (some ⟨q, 0, none⟩)] 133, .blk p #[.int .i64 r, .int .i64 s, .int .i64 b, .int .i64 o, .int .i64 c, .int .i64 y, .int .i64 z, .slice (some ⟨gl, 0, none⟩) sn cl, .slice (some ⟨gd, 0, none⟩) pg cd, .slice (some ⟨gs, 0, none⟩) ns cs, .int .i64 ((xj.pu : Nat) : Int), .int .i64 ((xj.ru : Nat) : Int)] 118, .row (.slice (some ⟨gl, 0, none⟩) sn cl) 3 1 sn (List.map (Value.int .i64) xj.L), .row (.slice (some ⟨gd, 0, none⟩) pg cd) 4 1 pg (List.map Value.bool xj.D), .row (.slice (some ⟨gs, 0, none⟩) ns cs) 3 1 ns (List.map (Value.int .i64) xj.S), .blk q #[.slice (some ⟨gq, 0, none⟩) 256 cq, .int .i64 (raj : Int), .int .i64 (qnj : Int)] 170, .row (.slice (some ⟨gq, 0, none⟩) 256 cq) 72 2 256 (List.flatMap entL lsj), .blk g1 #[.int .i64 r, .int .i64 s, .int .i64 b, .int .i64 o, .int .i64 c, .int .i64 y, .int .i64 z] 25]) (by kernel_rfl)
          rw [eP, eS] at H
          exact ⟨(k + 1, xj, lsj, raj, qnj, pv2, sv2), (by dsimp only; omega), _, frm_of, H, (by omega), hxj, hkj⟩
        have h19p := of_decide_eq_true h19
        refine x_t (by kernel_rfl) <| x_skipc <| x_then <| x_seq <| x_block <| x_seq <| x_region ?_
        refine x_ix (t := 75) gw 0 j (List.length E) cw 81 3 (j * 3) (by omega) (by omega) (by kernel_rfl) (by kernel_rfl) (by kernel_rfl) rfl (by kernel_rfl) <| x_loadcn (t := 81) gw (j * 3) [.int .i64 ((E.getD j (0, 0, 0)).1), .int .i64 ((E.getD j (0, 0, 0)).2.1), .int .i64 ((E.getD j (0, 0, 0)).2.2)] (H.rowCells 2 rfl (j * 3) (flatAt int3Len (0, 0, 0) _ (by omega))) (by kernel_rfl) rfl (by kernel_rfl) (by kernel_rfl) <| z_box H #[.int .i64 0, .int .i64 0, .int .i64 0] 81 (fun v35 g5 H => ?_)
        refine z_store H 0 0 [.int .i64 ((E.getD j (0, 0, 0)).1), .int .i64 ((E.getD j (0, 0, 0)).2.1), .int .i64 ((E.getD j (0, 0, 0)).2.2)] (fun v36 H => ?_)
        refine x_nil <| x_then <| x_seq <| x_seq <| x_region <| x_b H [.m, .l 0 0, .v (.bool (decide (((E.getD j (0, 0, 0)).1) = 3))), .v (.bool (decide (((E.getD j (0, 0, 0)).1) = 3)))] ?_
        cases h20 : decide (((E.getD j (0, 0, 0)).1) = 3)
        · skip
          have h20p := of_decide_eq_false h20
          refine x_b H [.k, .k, .k, .k, .m, .m, .m, .l 0 0, .v (.bool (decide (((E.getD j (0, 0, 0)).1) = 4))), .v (.bool (decide (((E.getD j (0, 0, 0)).1) = 4)))] ?_
          cases h21 : decide (((E.getD j (0, 0, 0)).1) = 4)
          · skip
            have h21p := of_decide_eq_false h21
            refine x_b H [.k, .k, .k, .k, .m, .m] <| x_nil <| x_then <| x_f (by kernel_rfl) <| x_skipc <| x_then <| x_seq ?_
            refine x_seq <| x_region <| x_b H [.m, .l 0 0, .v (.bool (decide (((E.getD j (0, 0, 0)).1) = 3)))] <| x_nil <| x_then ?_
            rw [h20]
            refine x_f (by kernel_rfl) <| x_skipc <| x_then <| x_seq <| x_region <| x_b H [.m, .l 0 0, .v (.bool (decide (((E.getD j (0, 0, 0)).1) = 4)))] <| x_nil ?_
            refine x_then ?_
            rw [h21]
            refine x_f (by kernel_rfl) <| x_skipc <| x_blk <| x_then <| x_region <| z_ar ((j : Int) + 1) <| x_b H [.m] ?_
            refine x_nil <| x_then ?_
            have n3 := evK_next 3 (E := E) (k := j) (by omega)
            have n4 := evK_next 4 (E := E) (k := j) (by omega)
            rw [if_neg h20p] at n3
            rw [if_neg h21p] at n4
            replace H := hsCast (H.pk [1, 2, 3, 4, 5, 6, 7, 8, 9, 10, 11]) (L2 := [.row (pv2) 3 1 (List.length ((upL (sn : Int) x.pu) ++ (evK 3 (List.take j E)))) (List.map (Value.int .i64) ((upL (sn : Int) x.pu) ++ (evK 3 (List.take j E)))), .row (sv2) 3 1 (List.length ((upL r x.ru) ++ (evK 4 (List.take j E)))) (List.map (Value.int .i64) ((upL r x.ru) ++ (evK 4 (List.take j E)))), .row (.slice (some ⟨gw, 0, none⟩) (List.length E) cw) 81 3 (List.length E) (List.flatMap int3L E), .blk rp #[.pointer (some ⟨p, 0, none⟩), .int .i64 xj.j.1, .int .i64 xj.j.2.1, .int .i64 xj.j.2.2.1, .int .i64 xj.j.2.2.2, .pointer (some ⟨q, 0, none⟩)] 133, .blk p #[.int .i64 r, .int .i64 s, .int .i64 b, .int .i64 o, .int .i64 c, .int .i64 y, .int .i64 z, .slice (some ⟨gl, 0, none⟩) sn cl, .slice (some ⟨gd, 0, none⟩) pg cd, .slice (some ⟨gs, 0, none⟩) ns cs, .int .i64 ((xj.pu : Nat) : Int), .int .i64 ((xj.ru : Nat) : Int)] 118, .row (.slice (some ⟨gl, 0, none⟩) sn cl) 3 1 sn (List.map (Value.int .i64) xj.L), .row (.slice (some ⟨gd, 0, none⟩) pg cd) 4 1 pg (List.map Value.bool xj.D), .row (.slice (some ⟨gs, 0, none⟩) ns cs) 3 1 ns (List.map (Value.int .i64) xj.S), .blk q #[.slice (some ⟨gq, 0, none⟩) 256 cq, .int .i64 (raj : Int), .int .i64 (qnj : Int)] 170, .row (.slice (some ⟨gq, 0, none⟩) 256 cq) 72 2 256 (List.flatMap entL lsj), .blk g1 #[.int .i64 r, .int .i64 s, .int .i64 b, .int .i64 o, .int .i64 c, .int .i64 y, .int .i64 z] 25]) (by kernel_rfl)
            replace H := hsCast H (L2 := [.row (pv2) 3 1 (List.length ((upL (sn : Int) x.pu) ++ (evK 3 (List.take (j + 1) E)))) (List.map (Value.int .i64) ((upL (sn : Int) x.pu) ++ (evK 3 (List.take (j + 1) E)))), .row (sv2) 3 1 (List.length ((upL r x.ru) ++ (evK 4 (List.take (j + 1) E)))) (List.map (Value.int .i64) ((upL r x.ru) ++ (evK 4 (List.take (j + 1) E)))), .row (.slice (some ⟨gw, 0, none⟩) (List.length E) cw) 81 3 (List.length E) (List.flatMap int3L E), .blk rp #[.pointer (some ⟨p, 0, none⟩), .int .i64 xj.j.1, .int .i64 xj.j.2.1, .int .i64 xj.j.2.2.1, .int .i64 xj.j.2.2.2, .pointer (some ⟨q, 0, none⟩)] 133, .blk p #[.int .i64 r, .int .i64 s, .int .i64 b, .int .i64 o, .int .i64 c, .int .i64 y, .int .i64 z, .slice (some ⟨gl, 0, none⟩) sn cl, .slice (some ⟨gd, 0, none⟩) pg cd, .slice (some ⟨gs, 0, none⟩) ns cs, .int .i64 ((xj.pu : Nat) : Int), .int .i64 ((xj.ru : Nat) : Int)] 118, .row (.slice (some ⟨gl, 0, none⟩) sn cl) 3 1 sn (List.map (Value.int .i64) xj.L), .row (.slice (some ⟨gd, 0, none⟩) pg cd) 4 1 pg (List.map Value.bool xj.D), .row (.slice (some ⟨gs, 0, none⟩) ns cs) 3 1 ns (List.map (Value.int .i64) xj.S), .blk q #[.slice (some ⟨gq, 0, none⟩) 256 cq, .int .i64 (raj : Int), .int .i64 (qnj : Int)] 170, .row (.slice (some ⟨gq, 0, none⟩) 256 cq) 72 2 256 (List.flatMap entL lsj), .blk g1 #[.int .i64 r, .int .i64 s, .int .i64 b, .int .i64 o, .int .i64 c, .int .i64 y, .int .i64 z] 25]) (by rw [n3, n4]; simp only [List.append_nil, List.append_assoc])
            exact ⟨(j + 1, pv2, sv2), (by dsimp only; omega), _, frm_of, H, (by omega)⟩
          have h21p := of_decide_eq_true h21
          refine x_b H [.m, .m, .l 0 2] <| z_callB (v := .bool (decide (((E.getD j (0, 0, 0)).2.2) ∈ ((upL r x.ru) ++ (evK 4 (List.take j E)))))) H (has21_any ((upL r x.ru) ++ (evK 4 (List.take j E))) (by rw [List.length_append, upL_len]; omega) ((E.getD j (0, 0, 0)).2.2) _ (H.ro1 [2])) fun v37 H => x_b H [.v (.bool (decide (((E.getD j (0, 0, 0)).2.2) ∈ ((upL r x.ru) ++ (evK 4 (List.take j E)))))), .v (.bool (decide (((E.getD j (0, 0, 0)).2.2) ∈ ((upL r x.ru) ++ (evK 4 (List.take j E))))))] <| x_nil <| x_then ?_
          cases h22 : decide (((E.getD j (0, 0, 0)).2.2) ∈ ((upL r x.ru) ++ (evK 4 (List.take j E))))
          · skip
            have h22p := of_decide_eq_false h22
            refine x_f (by kernel_rfl) <| x_skipc <| x_then <| x_seq <| x_seq <| x_region <| x_b H [.m, .l 0 0, .v (.bool (decide (((E.getD j (0, 0, 0)).1) = 3)))] ?_
            refine x_nil <| x_then ?_
            rw [h20]
            refine x_f (by kernel_rfl) <| x_skipc <| x_then <| x_seq <| x_region <| x_b H [.m, .l 0 0, .v (.bool (decide (((E.getD j (0, 0, 0)).1) = 4)))] <| x_nil ?_
            refine x_then ?_
            rw [h21]
            refine x_t (by kernel_rfl) <| x_region <| x_b H [.m, .m, .l 0 2] <| x_box' H #[.int .i64 ((E.getD j (0, 0, 0)).2.2)] 3 1 (by kernel_rfl) rfl (by kernel_rfl) ?_
            clear H
            intro v38 g6 H
            refine x_append H 3 (sv2) 40 3 1 8 (List.length ((upL r x.ru) ++ (evK 4 (List.take j E)))) (.int .i64 0) (List.map (Value.int .i64) ((upL r x.ru) ++ (evK 4 (List.take j E)))) ⟨g6, 0, none⟩ 1 1 [.int .i64 ((E.getD j (0, 0, 0)).2.2)] rfl (by kernel_rfl) (by kernel_rfl) rfl (by decide) (by decide) rfl (fun j u hj => by rw [add_none]; exact cellOf (H.blk 0 rfl) (by simpa using hj)) (List.all_eq_true.1 (by kernel_rfl)) (by rw [List.length_append, upL_len]; unfold maxLen; omega) (by rw [List.length_append, upL_len]; omega) (by kernel_rfl) rfl (by kernel_rfl) ?_
            clear H
            intro v39 g7 c7 hc7 H
            rw [show (((List.length ((upL r x.ru) ++ (evK 4 (List.take j E)))) + 1) : Nat) = (List.length (((upL r x.ru) ++ (evK 4 (List.take j E))) ++ [(E.getD j (0, 0, 0)).2.2])) from (lenSnoc _ _)] at H ⊢
            rw [show (List.map (Value.int .i64) ((upL r x.ru) ++ (evK 4 (List.take j E)))) ++ [.int .i64 ((E.getD j (0, 0, 0)).2.2)] = (List.map (Value.int .i64) (((upL r x.ru) ++ (evK 4 (List.take j E))) ++ [(E.getD j (0, 0, 0)).2.2])) from (mapSnoc _ _ _)] at H
            replace H := H.pk [1, 2, 3, 4, 5, 6, 7, 8, 9, 10, 11, 12]
            refine x_b H [.m] <| x_nil <| x_blk <| x_then <| x_region <| z_ar ((j : Int) + 1) <| x_b H [.m] ?_
            refine x_nil <| x_then ?_
            have n3 := evK_next 3 (E := E) (k := j) (by omega)
            have n4 := evK_next 4 (E := E) (k := j) (by omega)
            rw [if_neg h20p] at n3
            rw [if_pos h21p] at n4
            replace H := hsCast (H.pk [1, 2, 3, 4, 5, 6, 7, 8, 9, 10, 11]) (L2 := [.row (pv2) 3 1 (List.length ((upL (sn : Int) x.pu) ++ (evK 3 (List.take j E)))) (List.map (Value.int .i64) ((upL (sn : Int) x.pu) ++ (evK 3 (List.take j E)))), .row (.slice (some ⟨g7, 0, none⟩) (List.length (((upL r x.ru) ++ (evK 4 (List.take j E))) ++ [(E.getD j (0, 0, 0)).2.2])) c7) 3 1 (List.length (((upL r x.ru) ++ (evK 4 (List.take j E))) ++ [(E.getD j (0, 0, 0)).2.2])) (List.map (Value.int .i64) (((upL r x.ru) ++ (evK 4 (List.take j E))) ++ [(E.getD j (0, 0, 0)).2.2])), .row (.slice (some ⟨gw, 0, none⟩) (List.length E) cw) 81 3 (List.length E) (List.flatMap int3L E), .blk rp #[.pointer (some ⟨p, 0, none⟩), .int .i64 xj.j.1, .int .i64 xj.j.2.1, .int .i64 xj.j.2.2.1, .int .i64 xj.j.2.2.2, .pointer (some ⟨q, 0, none⟩)] 133, .blk p #[.int .i64 r, .int .i64 s, .int .i64 b, .int .i64 o, .int .i64 c, .int .i64 y, .int .i64 z, .slice (some ⟨gl, 0, none⟩) sn cl, .slice (some ⟨gd, 0, none⟩) pg cd, .slice (some ⟨gs, 0, none⟩) ns cs, .int .i64 ((xj.pu : Nat) : Int), .int .i64 ((xj.ru : Nat) : Int)] 118, .row (.slice (some ⟨gl, 0, none⟩) sn cl) 3 1 sn (List.map (Value.int .i64) xj.L), .row (.slice (some ⟨gd, 0, none⟩) pg cd) 4 1 pg (List.map Value.bool xj.D), .row (.slice (some ⟨gs, 0, none⟩) ns cs) 3 1 ns (List.map (Value.int .i64) xj.S), .blk q #[.slice (some ⟨gq, 0, none⟩) 256 cq, .int .i64 (raj : Int), .int .i64 (qnj : Int)] 170, .row (.slice (some ⟨gq, 0, none⟩) 256 cq) 72 2 256 (List.flatMap entL lsj), .blk g1 #[.int .i64 r, .int .i64 s, .int .i64 b, .int .i64 o, .int .i64 c, .int .i64 y, .int .i64 z] 25]) (by kernel_rfl)
            replace H := hsCast H (L2 := [.row (pv2) 3 1 (List.length ((upL (sn : Int) x.pu) ++ (evK 3 (List.take (j + 1) E)))) (List.map (Value.int .i64) ((upL (sn : Int) x.pu) ++ (evK 3 (List.take (j + 1) E)))), .row (.slice (some ⟨g7, 0, none⟩) (List.length (((upL r x.ru) ++ (evK 4 (List.take j E))) ++ [(E.getD j (0, 0, 0)).2.2])) c7) 3 1 (List.length ((upL r x.ru) ++ (evK 4 (List.take (j + 1) E)))) (List.map (Value.int .i64) ((upL r x.ru) ++ (evK 4 (List.take (j + 1) E)))), .row (.slice (some ⟨gw, 0, none⟩) (List.length E) cw) 81 3 (List.length E) (List.flatMap int3L E), .blk rp #[.pointer (some ⟨p, 0, none⟩), .int .i64 xj.j.1, .int .i64 xj.j.2.1, .int .i64 xj.j.2.2.1, .int .i64 xj.j.2.2.2, .pointer (some ⟨q, 0, none⟩)] 133, .blk p #[.int .i64 r, .int .i64 s, .int .i64 b, .int .i64 o, .int .i64 c, .int .i64 y, .int .i64 z, .slice (some ⟨gl, 0, none⟩) sn cl, .slice (some ⟨gd, 0, none⟩) pg cd, .slice (some ⟨gs, 0, none⟩) ns cs, .int .i64 ((xj.pu : Nat) : Int), .int .i64 ((xj.ru : Nat) : Int)] 118, .row (.slice (some ⟨gl, 0, none⟩) sn cl) 3 1 sn (List.map (Value.int .i64) xj.L), .row (.slice (some ⟨gd, 0, none⟩) pg cd) 4 1 pg (List.map Value.bool xj.D), .row (.slice (some ⟨gs, 0, none⟩) ns cs) 3 1 ns (List.map (Value.int .i64) xj.S), .blk q #[.slice (some ⟨gq, 0, none⟩) 256 cq, .int .i64 (raj : Int), .int .i64 (qnj : Int)] 170, .row (.slice (some ⟨gq, 0, none⟩) 256 cq) 72 2 256 (List.flatMap entL lsj), .blk g1 #[.int .i64 r, .int .i64 s, .int .i64 b, .int .i64 o, .int .i64 c, .int .i64 y, .int .i64 z] 25]) (by rw [n3, n4]; simp only [List.append_nil, List.append_assoc])
            exact ⟨(j + 1, pv2, .slice (some ⟨g7, 0, none⟩) (List.length (((upL r x.ru) ++ (evK 4 (List.take j E))) ++ [(E.getD j (0, 0, 0)).2.2])) c7), (by dsimp only; omega), _, frm_of, H, (by omega)⟩
          have h22p := of_decide_eq_true h22
          exact absurd h22p (evK_fresh nS (by omega) h21p)
        have h20p := of_decide_eq_true h20
        refine x_b H [.m, .m, .l 0 2] <| z_callB (v := .bool (decide (((E.getD j (0, 0, 0)).2.2) ∈ ((upL (sn : Int) x.pu) ++ (evK 3 (List.take j E)))))) H (has21_any ((upL (sn : Int) x.pu) ++ (evK 3 (List.take j E))) (by rw [List.length_append, upL_len]; omega) ((E.getD j (0, 0, 0)).2.2) _ (H.ro1 [1])) fun v40 H => x_b H [.v (.bool (decide (((E.getD j (0, 0, 0)).2.2) ∈ ((upL (sn : Int) x.pu) ++ (evK 3 (List.take j E)))))), .v (.bool (decide (((E.getD j (0, 0, 0)).2.2) ∈ ((upL (sn : Int) x.pu) ++ (evK 3 (List.take j E))))))] ?_
        cases h23 : decide (((E.getD j (0, 0, 0)).2.2) ∈ ((upL (sn : Int) x.pu) ++ (evK 3 (List.take j E))))
        · skip
          have h23p := of_decide_eq_false h23
          refine x_b H [.m, .l 0 0, .v (.bool (decide (((E.getD j (0, 0, 0)).1) = 4))), .v (.bool (decide (((E.getD j (0, 0, 0)).1) = 4)))] ?_
          cases h24 : decide (((E.getD j (0, 0, 0)).1) = 4)
          · skip
            have h24p := of_decide_eq_false h24
            refine x_b H [.k, .k, .k, .k, .m, .m] <| x_nil <| x_then <| x_f (by kernel_rfl) <| x_skipc <| x_then <| x_seq ?_
            refine x_seq <| x_region <| x_b H [.m, .l 0 0, .v (.bool (decide (((E.getD j (0, 0, 0)).1) = 3)))] <| x_nil <| x_then ?_
            rw [h20]
            refine x_t (by kernel_rfl) <| x_region <| x_b H [.m, .m, .l 0 2] <| x_box' H #[.int .i64 ((E.getD j (0, 0, 0)).2.2)] 3 1 (by kernel_rfl) rfl (by kernel_rfl) ?_
            clear H
            intro v41 g8 H
            refine x_append H 2 (pv2) 40 3 1 8 (List.length ((upL (sn : Int) x.pu) ++ (evK 3 (List.take j E)))) (.int .i64 0) (List.map (Value.int .i64) ((upL (sn : Int) x.pu) ++ (evK 3 (List.take j E)))) ⟨g8, 0, none⟩ 1 1 [.int .i64 ((E.getD j (0, 0, 0)).2.2)] rfl (by kernel_rfl) (by kernel_rfl) rfl (by decide) (by decide) rfl (fun j u hj => by rw [add_none]; exact cellOf (H.blk 0 rfl) (by simpa using hj)) (List.all_eq_true.1 (by kernel_rfl)) (by rw [List.length_append, upL_len]; unfold maxLen; omega) (by rw [List.length_append, upL_len]; omega) (by kernel_rfl) rfl (by kernel_rfl) ?_
            clear H
            intro v42 g9 c9 hc9 H
            rw [show (((List.length ((upL (sn : Int) x.pu) ++ (evK 3 (List.take j E)))) + 1) : Nat) = (List.length (((upL (sn : Int) x.pu) ++ (evK 3 (List.take j E))) ++ [(E.getD j (0, 0, 0)).2.2])) from (lenSnoc _ _)] at H ⊢
            rw [show (List.map (Value.int .i64) ((upL (sn : Int) x.pu) ++ (evK 3 (List.take j E)))) ++ [.int .i64 ((E.getD j (0, 0, 0)).2.2)] = (List.map (Value.int .i64) (((upL (sn : Int) x.pu) ++ (evK 3 (List.take j E))) ++ [(E.getD j (0, 0, 0)).2.2])) from (mapSnoc _ _ _)] at H
            replace H := H.pk [1, 2, 3, 4, 5, 6, 7, 8, 9, 10, 11, 12]
            refine x_b H [.m] <| x_nil <| x_then <| x_seq <| x_region <| x_b H [.m, .l 0 0, .v (.bool (decide (((E.getD j (0, 0, 0)).1) = 4)))] <| x_nil ?_
            refine x_then ?_
            rw [h24]
            refine x_f (by kernel_rfl) <| x_skipc <| x_blk <| x_then <| x_region <| z_ar ((j : Int) + 1) <| x_b H [.m] ?_
            refine x_nil <| x_then ?_
            have n3 := evK_next 3 (E := E) (k := j) (by omega)
            have n4 := evK_next 4 (E := E) (k := j) (by omega)
            rw [if_pos h20p] at n3
            rw [if_neg (by omega)] at n4
            replace H := hsCast (H.pk [1, 2, 3, 4, 5, 6, 7, 8, 9, 10, 11]) (L2 := [.row (.slice (some ⟨g9, 0, none⟩) (List.length (((upL (sn : Int) x.pu) ++ (evK 3 (List.take j E))) ++ [(E.getD j (0, 0, 0)).2.2])) c9) 3 1 (List.length (((upL (sn : Int) x.pu) ++ (evK 3 (List.take j E))) ++ [(E.getD j (0, 0, 0)).2.2])) (List.map (Value.int .i64) (((upL (sn : Int) x.pu) ++ (evK 3 (List.take j E))) ++ [(E.getD j (0, 0, 0)).2.2])), .row (sv2) 3 1 (List.length ((upL r x.ru) ++ (evK 4 (List.take j E)))) (List.map (Value.int .i64) ((upL r x.ru) ++ (evK 4 (List.take j E)))), .row (.slice (some ⟨gw, 0, none⟩) (List.length E) cw) 81 3 (List.length E) (List.flatMap int3L E), .blk rp #[.pointer (some ⟨p, 0, none⟩), .int .i64 xj.j.1, .int .i64 xj.j.2.1, .int .i64 xj.j.2.2.1, .int .i64 xj.j.2.2.2, .pointer (some ⟨q, 0, none⟩)] 133, .blk p #[.int .i64 r, .int .i64 s, .int .i64 b, .int .i64 o, .int .i64 c, .int .i64 y, .int .i64 z, .slice (some ⟨gl, 0, none⟩) sn cl, .slice (some ⟨gd, 0, none⟩) pg cd, .slice (some ⟨gs, 0, none⟩) ns cs, .int .i64 ((xj.pu : Nat) : Int), .int .i64 ((xj.ru : Nat) : Int)] 118, .row (.slice (some ⟨gl, 0, none⟩) sn cl) 3 1 sn (List.map (Value.int .i64) xj.L), .row (.slice (some ⟨gd, 0, none⟩) pg cd) 4 1 pg (List.map Value.bool xj.D), .row (.slice (some ⟨gs, 0, none⟩) ns cs) 3 1 ns (List.map (Value.int .i64) xj.S), .blk q #[.slice (some ⟨gq, 0, none⟩) 256 cq, .int .i64 (raj : Int), .int .i64 (qnj : Int)] 170, .row (.slice (some ⟨gq, 0, none⟩) 256 cq) 72 2 256 (List.flatMap entL lsj), .blk g1 #[.int .i64 r, .int .i64 s, .int .i64 b, .int .i64 o, .int .i64 c, .int .i64 y, .int .i64 z] 25]) (by kernel_rfl)
            replace H := hsCast H (L2 := [.row (.slice (some ⟨g9, 0, none⟩) (List.length (((upL (sn : Int) x.pu) ++ (evK 3 (List.take j E))) ++ [(E.getD j (0, 0, 0)).2.2])) c9) 3 1 (List.length ((upL (sn : Int) x.pu) ++ (evK 3 (List.take (j + 1) E)))) (List.map (Value.int .i64) ((upL (sn : Int) x.pu) ++ (evK 3 (List.take (j + 1) E)))), .row (sv2) 3 1 (List.length ((upL r x.ru) ++ (evK 4 (List.take (j + 1) E)))) (List.map (Value.int .i64) ((upL r x.ru) ++ (evK 4 (List.take (j + 1) E)))), .row (.slice (some ⟨gw, 0, none⟩) (List.length E) cw) 81 3 (List.length E) (List.flatMap int3L E), .blk rp #[.pointer (some ⟨p, 0, none⟩), .int .i64 xj.j.1, .int .i64 xj.j.2.1, .int .i64 xj.j.2.2.1, .int .i64 xj.j.2.2.2, .pointer (some ⟨q, 0, none⟩)] 133, .blk p #[.int .i64 r, .int .i64 s, .int .i64 b, .int .i64 o, .int .i64 c, .int .i64 y, .int .i64 z, .slice (some ⟨gl, 0, none⟩) sn cl, .slice (some ⟨gd, 0, none⟩) pg cd, .slice (some ⟨gs, 0, none⟩) ns cs, .int .i64 ((xj.pu : Nat) : Int), .int .i64 ((xj.ru : Nat) : Int)] 118, .row (.slice (some ⟨gl, 0, none⟩) sn cl) 3 1 sn (List.map (Value.int .i64) xj.L), .row (.slice (some ⟨gd, 0, none⟩) pg cd) 4 1 pg (List.map Value.bool xj.D), .row (.slice (some ⟨gs, 0, none⟩) ns cs) 3 1 ns (List.map (Value.int .i64) xj.S), .blk q #[.slice (some ⟨gq, 0, none⟩) 256 cq, .int .i64 (raj : Int), .int .i64 (qnj : Int)] 170, .row (.slice (some ⟨gq, 0, none⟩) 256 cq) 72 2 256 (List.flatMap entL lsj), .blk g1 #[.int .i64 r, .int .i64 s, .int .i64 b, .int .i64 o, .int .i64 c, .int .i64 y, .int .i64 z] 25]) (by rw [n3, n4]; simp only [List.append_nil, List.append_assoc])
            exact ⟨(j + 1, .slice (some ⟨g9, 0, none⟩) (List.length (((upL (sn : Int) x.pu) ++ (evK 3 (List.take j E))) ++ [(E.getD j (0, 0, 0)).2.2])) c9, sv2), (by dsimp only; omega), _, frm_of, H, (by omega)⟩
          have h24p := of_decide_eq_true h24
          exfalso; omega
        have h23p := of_decide_eq_true h23
        exact absurd h23p (evK_fresh nP (by omega) h20p)
  have h2p := of_decide_eq_true h2
  refine x_t (by kernel_rfl) <| x_seq <| x_region <| x_b H [.m] <| x_nil <| x_then <| x_retc ?_
  refine x_then_ret <| x_ret (.bool true) (by kernel_rfl) (by kernel_rfl) ?_
  exact ⟨rfl, H.below⟩
end Go.Proofs.Ytpmnnijjohlloaa
