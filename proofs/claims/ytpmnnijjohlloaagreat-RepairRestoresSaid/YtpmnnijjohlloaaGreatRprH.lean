/- A repair held against the document's. -/
import Derived.Test.YtpmnnijjohlloaaGreatRprF
import Derived.Test.YtpmnnijjohlloaaGreatPxZ
namespace Go.Proofs.YtpmnnijjohlloaaGreat
open Go Go.RowKit
set_option linter.unusedVariables false
set_option linter.unusedSimpArgs false
set_option maxRecDepth 100000 in
set_option maxHeartbeats 4000000 in
theorem ev_nn {g1 c1 g2 c2 : Nat} {l : List Int3} (hl : l.length ≤ 4096)  (w0 : World) (hR : Ro w0 []) :
    Calls Tryz.prog 23 #[.slice none 0 0, .slice none 0 0] w0 fun e w' => e = .returned (.bool true) ∧ Below w0.heap.size w0 w' := by
  refine z_enter Tryz.func23 rfl ?_
  have H := Hs.nil w0
  have R0 := hR
  refine x_seq <| x_region <| x_b H [.m] <| x_nil <| x_then <| x_seq <| x_seq ?_
  refine x_region <| x_b H [.m, .m, .m, .m, .m] <| x_nil <| x_then <| x_f (by kernel_rfl) <| x_skipc <| x_then ?_
  refine x_seq <| x_seq <| x_region <| x_b H [.m, .m, .m] <| x_nil <| x_then <| x_block ?_
  refine x_loop (G := Unit) (fun (_ : Unit) a w' => ∃ uf1 : Nat → Value, a = frm 26 uf1 [(1, .slice none 0 0), (12, .slice none 0 0), (13, .int .i64 0), (14, .int .i64 0)] [] ∧ Hs [] w0 w' []) (fun _ => 0) () ⟨_, frm_of, H⟩ ?_
  clear H
  rintro _ _ v1 ⟨uf1, rfl, H⟩
  refine x_seq <| x_region <| x_b H [.m] <| x_nil <| x_then <| x_seq <| x_f (by kernel_rfl) ?_
  refine x_exit <| x_then_exit <| x_then_exit <| x_blk_exit <| x_then <| x_seq <| x_region ?_
  refine x_b H [.m] <| x_nil <| x_then <| x_retc <| x_ret (.bool true) (by kernel_rfl) (by kernel_rfl) ?_
  exact ⟨rfl, H.below⟩
set_option maxRecDepth 100000 in
set_option maxHeartbeats 4000000 in
theorem ev_ns {g1 c1 g2 c2 : Nat} {l : List Int3} (hl : l.length ≤ 4096) (h0 : l.length = 0) (w0 : World) (hR : Ro w0 [.row (.slice (some ⟨g2, 0, none⟩) (List.length l) c2) 114 3 (List.length l) (List.flatMap int3L l)]) :
    Calls Tryz.prog 23 #[.slice none 0 0, .slice (some ⟨g2, 0, none⟩) (List.length l) c2] w0 fun e w' => e = .returned (.bool true) ∧ Below w0.heap.size w0 w' := by
  refine z_enter Tryz.func23 rfl ?_
  have H := Hs.nil w0
  have R0 := hR
  refine x_seq <| x_region <| x_b H [.m] <| x_nil <| x_then <| x_seq <| x_seq ?_
  refine x_region <| x_b H [.m, .m, .m, .m, .v (.bool (!(decide (0 = (((List.length l) : Nat) : Int)))))] <| x_nil <| x_then ?_
  cases h1 : decide (0 = (((List.length l) : Nat) : Int))
  · skip
    have h1p := of_decide_eq_false h1
    exact absurd h1p (by omega)
  have h1p := of_decide_eq_true h1
  refine x_f (by kernel_rfl) <| x_skipc <| x_then <| x_seq <| x_seq <| x_region <| x_b H [.m, .m, .m] ?_
  refine x_nil <| x_then <| x_block <| x_loop (G := Unit) (fun (_ : Unit) a w' => ∃ uf1 : Nat → Value, a = frm 26 uf1 [(1, .slice (some ⟨g2, 0, none⟩) (List.length l) c2), (12, .slice none 0 0), (13, .int .i64 0), (14, .int .i64 0)] [] ∧ Hs [] w0 w' []) (fun _ => 0) () ⟨_, frm_of, H⟩ ?_
  clear H
  rintro _ _ v1 ⟨uf1, rfl, H⟩
  refine x_seq <| x_region <| x_b H [.m] <| x_nil <| x_then <| x_seq <| x_f (by kernel_rfl) ?_
  refine x_exit <| x_then_exit <| x_then_exit <| x_blk_exit <| x_then <| x_seq <| x_region ?_
  refine x_b H [.m] <| x_nil <| x_then <| x_retc <| x_ret (.bool true) (by kernel_rfl) (by kernel_rfl) ?_
  exact ⟨rfl, H.below⟩
set_option maxRecDepth 100000 in
set_option maxHeartbeats 4000000 in
theorem ev_sn {g1 c1 g2 c2 : Nat} {l : List Int3} (hl : l.length ≤ 4096) (h0 : l.length = 0) (w0 : World) (hR : Ro w0 [.row (.slice (some ⟨g1, 0, none⟩) (List.length l) c1) 66 3 (List.length l) (List.flatMap int3L l)]) :
    Calls Tryz.prog 23 #[.slice (some ⟨g1, 0, none⟩) (List.length l) c1, .slice none 0 0] w0 fun e w' => e = .returned (.bool true) ∧ Below w0.heap.size w0 w' := by
  refine z_enter Tryz.func23 rfl ?_
  have H := Hs.nil w0
  have R0 := hR
  refine x_seq <| x_region <| x_b H [.m] <| x_nil <| x_then <| x_seq <| x_seq ?_
  refine x_region <| x_b H [.m, .m, .m, .m, .v (.bool (!(decide ((((List.length l) : Nat) : Int) = 0))))] <| x_nil <| x_then ?_
  cases h1 : decide ((((List.length l) : Nat) : Int) = 0)
  · skip
    have h1p := of_decide_eq_false h1
    exact absurd h1p (by omega)
  have h1p := of_decide_eq_true h1
  refine x_f (by kernel_rfl) <| x_skipc <| x_then <| x_seq <| x_seq <| x_region <| x_b H [.m, .m, .m] ?_
  refine x_nil <| x_then <| x_block <| x_loop (G := Nat) (fun (k : Nat) a w' => ∃ uf1 : Nat → Value, a = frm 26 uf1 [(1, .slice none 0 0), (12, .slice (some ⟨g1, 0, none⟩) (List.length l) c1), (13, .int .i64 (((List.length l) : Nat) : Int)), (14, .int .i64 (k : Int))] [] ∧ Hs [] w0 w' [] ∧ (k ≤ l.length)) (fun (k : Nat) => l.length - k) 0 ⟨_, frm_of, H, (Nat.zero_le _)⟩ ?_
  clear H
  rintro k _ v1 ⟨uf1, rfl, H, r1⟩
  refine x_seq <| x_region <| x_b H [.v (.bool (decide ((k : Int) < (((List.length l) : Nat) : Int))))] <| x_nil <| x_then <| x_seq ?_
  cases h2 : decide ((k : Int) < (((List.length l) : Nat) : Int))
  · skip
    have h2p := of_decide_eq_false h2
    refine x_f (by kernel_rfl) <| x_exit <| x_then_exit <| x_then_exit <| x_blk_exit <| x_then <| x_seq ?_
    refine x_region <| x_b H [.m] <| x_nil <| x_then <| x_retc <| x_ret (.bool true) (by kernel_rfl) (by kernel_rfl) ?_
    exact ⟨rfl, H.below⟩
  have h2p := of_decide_eq_true h2
  exact absurd h2p (by omega)
set_option maxRecDepth 100000 in
set_option maxHeartbeats 4000000 in
theorem ev_ss {g1 c1 g2 c2 : Nat} {l : List Int3} (hl : l.length ≤ 4096)  (w0 : World) (hR : Ro w0 [.row (.slice (some ⟨g1, 0, none⟩) (List.length l) c1) 66 3 (List.length l) (List.flatMap int3L l), .row (.slice (some ⟨g2, 0, none⟩) (List.length l) c2) 114 3 (List.length l) (List.flatMap int3L l)]) :
    Calls Tryz.prog 23 #[.slice (some ⟨g1, 0, none⟩) (List.length l) c1, .slice (some ⟨g2, 0, none⟩) (List.length l) c2] w0 fun e w' => e = .returned (.bool true) ∧ Below w0.heap.size w0 w' := by
  refine z_enter Tryz.func23 rfl ?_
  have H := Hs.nil w0
  have R0 := hR
  refine x_seq <| x_region <| x_b H [.m] <| x_nil <| x_then <| x_seq <| x_seq ?_
  refine x_region <| x_b H [.m, .m, .m, .m] <| x_eq (.bool false) (show Value.bool (!decide ((((List.length l) : Nat) : Int) = (((List.length l) : Nat) : Int))) = Value.bool false by simp) (by kernel_rfl) rfl (by kernel_rfl) <| x_nil <| x_then <| x_f (by kernel_rfl) <| x_skipc ?_
  refine x_then <| x_seq <| x_seq <| x_region <| x_b H [.m, .m, .m] <| x_nil <| x_then ?_
  refine x_block <| x_loop (G := Nat) (fun (k : Nat) a w' => ∃ uf1 : Nat → Value, a = frm 26 uf1 [(1, .slice (some ⟨g2, 0, none⟩) (List.length l) c2), (12, .slice (some ⟨g1, 0, none⟩) (List.length l) c1), (13, .int .i64 (((List.length l) : Nat) : Int)), (14, .int .i64 (k : Int))] [] ∧ Hs [] w0 w' [] ∧ (k ≤ l.length)) (fun (k : Nat) => l.length - k) 0 ⟨_, frm_of, H, (Nat.zero_le _)⟩ ?_
  clear H
  rintro k _ v1 ⟨uf1, rfl, H, r1⟩
  refine x_seq <| x_region <| x_b H [.v (.bool (decide ((k : Int) < (((List.length l) : Nat) : Int))))] <| x_nil <| x_then <| x_seq ?_
  cases h1 : decide ((k : Int) < (((List.length l) : Nat) : Int))
  · skip
    have h1p := of_decide_eq_false h1
    refine x_f (by kernel_rfl) <| x_exit <| x_then_exit <| x_then_exit <| x_blk_exit <| x_then <| x_seq ?_
    refine x_region <| x_b H [.m] <| x_nil <| x_then <| x_retc <| x_ret (.bool true) (by kernel_rfl) (by kernel_rfl) ?_
    exact ⟨rfl, H.below⟩
  have h1p := of_decide_eq_true h1
  refine x_t (by kernel_rfl) <| x_skipc <| x_then <| x_seq <| x_block <| x_seq <| x_region ?_
  refine x_b H [.m] <| x_ix (t := 61) g1 0 k (List.length l) c1 66 3 (k * 3) (by omega) (by omega) (by kernel_rfl) (by kernel_rfl) (by kernel_rfl) rfl (by kernel_rfl) <| x_loadcn (t := 66) g1 (k * 3) [.int .i64 ((l.getD k (0, 0, 0)).1), .int .i64 ((l.getD k (0, 0, 0)).2.1), .int .i64 ((l.getD k (0, 0, 0)).2.2)] ((H.ro R0).rowCells 0 rfl (k * 3) (flatAt int3Len (0, 0, 0) _ (by omega))) (by kernel_rfl) rfl (by kernel_rfl) (by kernel_rfl) <| z_box H #[.int .i64 0, .int .i64 0, .int .i64 0] 66 (fun v2 g1 H => ?_)
  refine x_b H [.m] <| z_store H 0 0 [.int .i64 ((l.getD k (0, 0, 0)).1), .int .i64 ((l.getD k (0, 0, 0)).2.1), .int .i64 ((l.getD k (0, 0, 0)).2.2)] (fun v3 H => ?_)
  refine x_nil <| x_then <| x_seq <| z_region_whole H <| q_b [.n 0 0 3 66, .m, .m] <| q_ix (t := 77) g2 0 k (List.length l) c2 114 3 (k * 3) (by omega) (by omega) (by kernel_rfl) (by kernel_rfl) (by kernel_rfl) (fun _ => by kernel_rfl) <| q_loadcn (t := 114) g2 (k * 3) [.int .i64 ((l.getD k (0, 0, 0)).1), .int .i64 ((l.getD k (0, 0, 0)).2.1), .int .i64 ((l.getD k (0, 0, 0)).2.2)] (fun _ H => (H.ro R0).rowCells 1 rfl (k * 3) (flatAt int3Len (0, 0, 0) _ (by omega))) (by kernel_rfl) (by kernel_rfl) (by kernel_rfl) ?_
  have h2 : (decide ((((l.getD k (0, 0, 0)).1) : Int) = ((l.getD k (0, 0, 0)).1)) && (decide ((((l.getD k (0, 0, 0)).2.1) : Int) = ((l.getD k (0, 0, 0)).2.1)) && (decide ((((l.getD k (0, 0, 0)).2.2) : Int) = ((l.getD k (0, 0, 0)).2.2)) && true))) = true := by simp
  refine q_val (.bool false) (by kernel_rfl) (fun _ => ((run_neS (t := 114) (x := .tmp 19) (y := .tmp 23) (xs := #[.int .i64 ((l.getD k (0, 0, 0)).1), .int .i64 ((l.getD k (0, 0, 0)).2.1), .int .i64 ((l.getD k (0, 0, 0)).2.2)]) (ys := #[.int .i64 ((l.getD k (0, 0, 0)).1), .int .i64 ((l.getD k (0, 0, 0)).2.1), .int .i64 ((l.getD k (0, 0, 0)).2.2)]) (B := decide ((((l.getD k (0, 0, 0)).1) : Int) = ((l.getD k (0, 0, 0)).1)) && (decide ((((l.getD k (0, 0, 0)).2.1) : Int) = ((l.getD k (0, 0, 0)).2.1)) && (decide ((((l.getD k (0, 0, 0)).2.2) : Int) = ((l.getD k (0, 0, 0)).2.2)) && true))) (by kernel_rfl) (by kernel_rfl) (by kernel_rfl)).trans (by rw [h2]; try rfl))) <| q_nil ?_
  clear H
  intro v4 H
  refine x_then <| x_f (by kernel_rfl) <| x_skipc <| x_blk <| x_then <| x_region <| z_ar ((k : Int) + 1) ?_
  refine x_b H [.m] <| x_nil <| x_then ?_
  replace H := H.pk []
  exact ⟨(k + 1), (by omega), _, frm_of, H, (by omega)⟩
theorem events_of {u v : Value} {l : List Int3} (hl : l.length ≤ 4096) (w0 : World) (hR : Ro w0 [.row (u) 66 3 (List.length l) (List.flatMap int3L l), .row (v) 114 3 (List.length l) (List.flatMap int3L l)]) : Calls Tryz.prog 23 #[u, v] w0 fun e w' => e = .returned (.bool true) ∧ Below w0.heap.size w0 w' := by
  rcases rowForm (hR 0 _ rfl : w0.ownsRow 0 _ 3 u _ _) with ⟨rfl, h0⟩ | ⟨g1, c1, rfl, hc1, _⟩ <;> rcases rowForm (hR 1 _ rfl : w0.ownsRow 0 _ 3 v _ _) with ⟨rfl, h1⟩ | ⟨g2, c2, rfl, hc2, _⟩
  · exact ev_nn (g1 := 0) (c1 := 0) (g2 := 0) (c2 := 0) hl w0 (hR.pick [] _ rfl)
  · exact ev_ns (g1 := 0) (c1 := 0) hl h0 w0 (hR.pick [1] _ rfl)
  · exact ev_sn (g2 := 0) (c2 := 0) hl h1 w0 (hR.pick [0] _ rfl)
  · exact ev_ss hl w0 hR
theorem prefix_getQ {pre xs : List QEnt} {x : QEnt} (h : pre ++ [x] <+: xs) : xs.getD pre.length (0, (0, 0)) = x ∧ pre.length < xs.length := by
  obtain ⟨t, rfl⟩ := h
  simp [List.getD]
set_option maxRecDepth 100000 in
set_option maxHeartbeats 4000000 in
theorem repsame {M : List Nat} {r s b o c y z : Int} {pg sn ns : Nat} (hL : Lay r s b o c y z pg sn ns) {p gl cl gd cd gs cs q gq cq rp : Nat} {rx : Rp} {ls : List Ent} {ra qn : Nat} (hx : RpOk r s b o c z sn pg ns rx) (hk : RgOk ls ra qn rx.Q) {g : D21} (hg : D21.Ok pg sn ns rx g) (hp8 : g.Pg.length ≤ 3999) (hrk8 : g.Rk.length ≤ 3999) {lv : Value} (w0 : World) (H0 : Hs M w0 w0 [.blk rp #[.pointer (some ⟨p, 0, none⟩), .int .i64 rx.j.1, .int .i64 rx.j.2.1, .int .i64 rx.j.2.2.1, .int .i64 rx.j.2.2.2, .pointer (some ⟨q, 0, none⟩)] 74, .blk p #[.int .i64 r, .int .i64 s, .int .i64 b, .int .i64 o, .int .i64 c, .int .i64 y, .int .i64 z, .slice (some ⟨gl, 0, none⟩) sn cl, .slice (some ⟨gd, 0, none⟩) pg cd, .slice (some ⟨gs, 0, none⟩) ns cs, .int .i64 ((rx.pu : Nat) : Int), .int .i64 ((rx.ru : Nat) : Int)] 109, .row (.slice (some ⟨gl, 0, none⟩) sn cl) 3 1 sn (List.map (Value.int .i64) rx.L), .row (.slice (some ⟨gd, 0, none⟩) pg cd) 4 1 pg (List.map Value.bool rx.D), .row (.slice (some ⟨gs, 0, none⟩) ns cs) 3 1 ns (List.map (Value.int .i64) rx.S), .blk q #[.slice (some ⟨gq, 0, none⟩) 256 cq, .int .i64 ((ra : Nat) : Int), .int .i64 ((qn : Nat) : Int)] 123, .row (.slice (some ⟨gq, 0, none⟩) 256 cq) 52 2 256 (List.flatMap entL ls), .row (lv) 3 1 pg (List.map (Value.int .i64) (layL y r b o pg)), .row (g.pv) 142 2 (List.length g.Pg) (List.flatMap entL g.Pg), .row (g.kv) 142 2 (List.length g.Rk) (List.flatMap entL g.Rk), .row (g.fv) 80 2 (List.length g.F) (List.flatMap entL g.F)]) :
    Calls Tryz.prog 10 #[.pointer (some ⟨rp, 0, none⟩), .agg #[.int .i64 r, .int .i64 s, .int .i64 b, .int .i64 o, .int .i64 c, .int .i64 y, .int .i64 z, lv, g.pv, g.kv, .int .i64 ((rx.pu : Nat) : Int), .int .i64 ((rx.ru : Nat) : Int), .int .i64 rx.j.1, .int .i64 rx.j.2.1, .int .i64 rx.j.2.2.1, .int .i64 rx.j.2.2.2, .slice g.ad g.n g.c]] w0 fun e w' => e = .returned (.bool true) ∧ Hs M w0 w' [.blk rp #[.pointer (some ⟨p, 0, none⟩), .int .i64 rx.j.1, .int .i64 rx.j.2.1, .int .i64 rx.j.2.2.1, .int .i64 rx.j.2.2.2, .pointer (some ⟨q, 0, none⟩)] 74, .blk p #[.int .i64 r, .int .i64 s, .int .i64 b, .int .i64 o, .int .i64 c, .int .i64 y, .int .i64 z, .slice (some ⟨gl, 0, none⟩) sn cl, .slice (some ⟨gd, 0, none⟩) pg cd, .slice (some ⟨gs, 0, none⟩) ns cs, .int .i64 ((rx.pu : Nat) : Int), .int .i64 ((rx.ru : Nat) : Int)] 109, .row (.slice (some ⟨gl, 0, none⟩) sn cl) 3 1 sn (List.map (Value.int .i64) rx.L), .row (.slice (some ⟨gd, 0, none⟩) pg cd) 4 1 pg (List.map Value.bool rx.D), .row (.slice (some ⟨gs, 0, none⟩) ns cs) 3 1 ns (List.map (Value.int .i64) rx.S), .blk q #[.slice (some ⟨gq, 0, none⟩) 256 cq, .int .i64 ((ra : Nat) : Int), .int .i64 ((qn : Nat) : Int)] 123, .row (.slice (some ⟨gq, 0, none⟩) 256 cq) 52 2 256 (List.flatMap entL ls), .row (lv) 3 1 pg (List.map (Value.int .i64) (layL y r b o pg)), .row (g.pv) 142 2 (List.length g.Pg) (List.flatMap entL g.Pg), .row (g.kv) 142 2 (List.length g.Rk) (List.flatMap entL g.Rk), .row (g.fv) 80 2 (List.length g.F) (List.flatMap entL g.F)] := by
  refine x_enterM Tryz.func10 rfl #[.pointer (some ⟨rp, 0, none⟩), .agg #[.int .i64 r, .int .i64 s, .int .i64 b, .int .i64 o, .int .i64 c, .int .i64 y, .int .i64 z, lv, g.pv, g.kv, .int .i64 ((rx.pu : Nat) : Int), .int .i64 ((rx.ru : Nat) : Int), .int .i64 rx.j.1, .int .i64 rx.j.2.1, .int .i64 rx.j.2.2.1, .int .i64 rx.j.2.2.2, .slice g.ad g.n g.c], undef, undef, undef, undef, undef, undef, undef, undef, undef, undef, undef, undef, undef, undef, undef, undef, undef, undef, undef, undef, undef, undef, undef, undef, undef, undef, undef, undef, undef, undef, undef, undef, undef, undef, undef, undef, undef, undef, undef, undef, undef, undef, undef, undef, undef, undef, undef, undef, undef, undef, undef, undef, undef, undef, undef, undef, undef, undef, undef, undef, undef, undef, undef, undef, undef, undef, undef, undef, undef, undef, undef, undef, undef, undef, undef, undef, undef, undef, undef, undef, undef, undef, undef, undef, undef, undef, undef, undef, undef, undef, undef, undef, undef, undef, undef, undef, undef, undef, undef, undef, undef, undef, undef, undef, undef, undef, undef, undef, undef, undef, undef, undef, undef, undef, undef, undef, undef, undef, undef, undef, undef, undef, undef, undef, undef, undef, undef, undef, undef, undef, undef, undef, undef, undef, undef, undef, undef, undef, undef, undef, undef, undef, undef, undef, undef, undef, undef, undef, undef] (by kernel_rfl) ?_
  have H := H0
  have hm := hx.v.m
  have hpu := hm.hp
  have hru := hm.hr
  have hsn := hL.hsn
  have hz0 := hL.z0
  have hz2 := hL.z2
  have hpg2 := hL.pg2
  have hr8 := hL.r8
  have hs8 := hL.s8
  have hr1 := hL.r1
  have hs0 := hL.s0
  have hns := hL.hns
  have hc1 := hL.c1
  have hc2 := hL.c2
  have hln0 := hL.ln0
  have hln2 := hL.ln2
  have hV := hx.v
  obtain ⟨⟨j1, j2⟩, ⟨j3, j4⟩, ⟨j5, j6⟩, ⟨j7, j8⟩⟩ := hx.job_bd hL
  have hjr := JobOk.right hL hx
  have hlen := layL_len y r b o pg
  refine x_seq <| x_region <| z_box H #[.int .i64 r, .int .i64 s, .int .i64 b, .int .i64 o, .int .i64 c, .int .i64 y, .int .i64 z, lv, g.pv, g.kv, .int .i64 ((rx.pu : Nat) : Int), .int .i64 ((rx.ru : Nat) : Int), .int .i64 rx.j.1, .int .i64 rx.j.2.1, .int .i64 rx.j.2.2.1, .int .i64 rx.j.2.2.2, .slice g.ad g.n g.c] 39 (fun v1 g1 H => ?_)
  refine z_box H #[.bool false] 4 (fun v2 g2 H => ?_)
  refine x_nil <| x_then <| x_seq <| x_region <| z_box H #[.int .i64 0] 3 (fun v3 g3 H => ?_)
  refine z_store H 0 0 [.int .i64 0] (fun v4 H => ?_)
  refine x_nil <| x_then <| x_seq <| x_seq <| x_region <| x_b H [.m] <| z_call (Waiting_of _ (H.ro1 [3])) ?_
  rintro _ v5 ⟨qp, rfl, hN'⟩
  refine ⟨_, rfl, ?_⟩
  replace H := H.more hN'
  clear hN'
  refine x_nil <| x_then <| x_block ?_
  replace H := H.pk [0, 9, 10, 4, 5, 6, 7, 8, 11, 12, 13, 14, 3, 1, 2]
  refine x_rangeB (α := QEnt) (G := Nat) (idxQ rx.Q) (fun xq => #[.int .i64 ((xq.1 : Nat) : Int), .agg #[.int .i64 xq.2.1, .int .i64 xq.2.2]]) [.blk qp #[.pointer (some ⟨q, 0, none⟩)] 72, .blk q #[.slice (some ⟨gq, 0, none⟩) 256 cq, .int .i64 (ra : Int), .int .i64 (qn : Int)] 123, .row (.slice (some ⟨gq, 0, none⟩) 256 cq) 52 2 256 (List.flatMap entL ls)] [0, 1, 2] (fps [.blk qp #[.pointer (some ⟨q, 0, none⟩)] 72, .blk q #[.slice (some ⟨gq, 0, none⟩) 256 cq, .int .i64 (ra : Int), .int .i64 (qn : Int)] 123, .row (.slice (some ⟨gq, 0, none⟩) 256 cq) 52 2 256 (List.flatMap entL ls), .blk rp #[.pointer (some ⟨p, 0, none⟩), .int .i64 rx.j.1, .int .i64 rx.j.2.1, .int .i64 rx.j.2.2.1, .int .i64 rx.j.2.2.2, .pointer (some ⟨q, 0, none⟩)] 74, .blk p #[.int .i64 r, .int .i64 s, .int .i64 b, .int .i64 o, .int .i64 c, .int .i64 y, .int .i64 z, .slice (some ⟨gl, 0, none⟩) sn cl, .slice (some ⟨gd, 0, none⟩) pg cd, .slice (some ⟨gs, 0, none⟩) ns cs, .int .i64 ((rx.pu : Nat) : Int), .int .i64 ((rx.ru : Nat) : Int)] 109, .row (.slice (some ⟨gl, 0, none⟩) sn cl) 3 1 sn (List.map (Value.int .i64) rx.L), .row (.slice (some ⟨gd, 0, none⟩) pg cd) 4 1 pg (List.map Value.bool rx.D), .row (.slice (some ⟨gs, 0, none⟩) ns cs) 3 1 ns (List.map (Value.int .i64) rx.S), .row (lv) 3 1 pg (List.map (Value.int .i64) (layL y r b o pg)), .row (g.pv) 142 2 (List.length g.Pg) (List.flatMap entL g.Pg), .row (g.kv) 142 2 (List.length g.Rk) (List.flatMap entL g.Rk), .row (g.fv) 80 2 (List.length g.F) (List.flatMap entL g.F), .blk g1 #[.int .i64 r, .int .i64 s, .int .i64 b, .int .i64 o, .int .i64 c, .int .i64 y, .int .i64 z, lv, g.pv, g.kv, .int .i64 ((rx.pu : Nat) : Int), .int .i64 ((rx.ru : Nat) : Int), .int .i64 rx.j.1, .int .i64 rx.j.2.1, .int .i64 rx.j.2.2.1, .int .i64 rx.j.2.2.2, .slice g.ad g.n g.c] 39, .blk g3 #[.int .i64 ((0 : Nat) : Int)] 3, .blk g2 #[.bool false] 4]) (fun pre (nn : Nat) => nn = List.length pre) (fun pre (nn : Nat) => [.blk qp #[.pointer (some ⟨q, 0, none⟩)] 72, .blk q #[.slice (some ⟨gq, 0, none⟩) 256 cq, .int .i64 (ra : Int), .int .i64 (qn : Int)] 123, .row (.slice (some ⟨gq, 0, none⟩) 256 cq) 52 2 256 (List.flatMap entL ls), .blk rp #[.pointer (some ⟨p, 0, none⟩), .int .i64 rx.j.1, .int .i64 rx.j.2.1, .int .i64 rx.j.2.2.1, .int .i64 rx.j.2.2.2, .pointer (some ⟨q, 0, none⟩)] 74, .blk p #[.int .i64 r, .int .i64 s, .int .i64 b, .int .i64 o, .int .i64 c, .int .i64 y, .int .i64 z, .slice (some ⟨gl, 0, none⟩) sn cl, .slice (some ⟨gd, 0, none⟩) pg cd, .slice (some ⟨gs, 0, none⟩) ns cs, .int .i64 ((rx.pu : Nat) : Int), .int .i64 ((rx.ru : Nat) : Int)] 109, .row (.slice (some ⟨gl, 0, none⟩) sn cl) 3 1 sn (List.map (Value.int .i64) rx.L), .row (.slice (some ⟨gd, 0, none⟩) pg cd) 4 1 pg (List.map Value.bool rx.D), .row (.slice (some ⟨gs, 0, none⟩) ns cs) 3 1 ns (List.map (Value.int .i64) rx.S), .row (lv) 3 1 pg (List.map (Value.int .i64) (layL y r b o pg)), .row (g.pv) 142 2 (List.length g.Pg) (List.flatMap entL g.Pg), .row (g.kv) 142 2 (List.length g.Rk) (List.flatMap entL g.Rk), .row (g.fv) 80 2 (List.length g.F) (List.flatMap entL g.F), .blk g1 #[.int .i64 r, .int .i64 s, .int .i64 b, .int .i64 o, .int .i64 c, .int .i64 y, .int .i64 z, lv, g.pv, g.kv, .int .i64 ((rx.pu : Nat) : Int), .int .i64 ((rx.ru : Nat) : Int), .int .i64 rx.j.1, .int .i64 rx.j.2.1, .int .i64 rx.j.2.2.1, .int .i64 rx.j.2.2.2, .slice g.ad g.n g.c] 39, .blk g3 #[.int .i64 (nn : Int)] 3, .blk g2 #[.bool false] 4]) (fun cd pre (nn : Nat) => (cd = .ret ∧ (¬ (pre <+: idxQ rx.Q)))) (fun xq bq => [.blk bq #[.int .i64 xq.2.1, .int .i64 xq.2.2] 52]) (fun xq bq => { tmps := #[.pointer (some ⟨rp, 0, none⟩), .agg #[.int .i64 r, .int .i64 s, .int .i64 b, .int .i64 o, .int .i64 c, .int .i64 y, .int .i64 z, lv, g.pv, g.kv, .int .i64 ((rx.pu : Nat) : Int), .int .i64 ((rx.ru : Nat) : Int), .int .i64 rx.j.1, .int .i64 rx.j.2.1, .int .i64 rx.j.2.2.1, .int .i64 rx.j.2.2.2, .slice g.ad g.n g.c], undef, .pointer (some ⟨g1, 0, none⟩), .pointer (some ⟨g2, 0, none⟩), .pointer (some ⟨g3, 0, none⟩), .int .i64 ((xq.1 : Nat) : Int), .pointer (some ⟨bq, 0, none⟩), undef, undef, undef, undef, undef, undef, undef, undef, undef, undef, undef, undef, .pointer (some ⟨rp, 0, none⟩), .func (.func 69) #[] #[.pointer (some ⟨qp, 0, none⟩)], .int .i64 ((xq.1 : Nat) : Int), .agg #[.int .i64 xq.2.1, .int .i64 xq.2.2], undef, undef, undef, undef, undef, undef, undef, undef, undef, undef, undef, undef, undef, undef, undef, undef, undef, undef, undef, undef, undef, undef, undef, undef, undef, undef, undef, undef, undef, undef, undef, undef, undef, undef, undef, undef, undef, undef, undef, undef, undef, undef, undef, undef, undef, undef, undef, undef, undef, undef, undef, undef, undef, undef, undef, undef, undef, undef, undef, undef, undef, undef, undef, undef, undef, undef, undef, undef, undef, undef, undef, undef, undef, undef, undef, undef, undef, undef, undef, undef, undef, undef, undef, undef, undef, undef, undef, undef, undef, undef, undef, undef, undef, undef, undef, undef, undef, undef, undef, undef, undef, undef, undef, undef, undef, undef, undef, undef, undef, undef, undef, undef, undef, undef, undef, undef, undef, undef, undef, undef, undef, undef, undef, undef, undef, undef, undef], defers := [] }) 0 (by kernel_rfl) (enters_of Tryz.func69 (by kernel_rfl) rfl) (rvals hk _ (H.roOf [0, 1, 2] _ (by kernel_rfl))) (fun _ => rfl) rfl (by rintro _ nn; rfl) (by rintro _ nn; rfl) (by rintro _ nn; rfl) (fun _ _ => rfl) (fun _ _ => rfl) H rfl ?_ ?_ ?_ ?_
  · skip
    clear H
    rintro lrnd pre xq nn W1 hI H
    refine x_at (b := { tmps := #[.pointer (some ⟨rp, 0, none⟩), .agg #[.int .i64 r, .int .i64 s, .int .i64 b, .int .i64 o, .int .i64 c, .int .i64 y, .int .i64 z, lv, g.pv, g.kv, .int .i64 ((rx.pu : Nat) : Int), .int .i64 ((rx.ru : Nat) : Int), .int .i64 rx.j.1, .int .i64 rx.j.2.1, .int .i64 rx.j.2.2.1, .int .i64 rx.j.2.2.2, .slice g.ad g.n g.c], undef, .pointer (some ⟨g1, 0, none⟩), .pointer (some ⟨g2, 0, none⟩), .pointer (some ⟨g3, 0, none⟩), undef, undef, undef, undef, undef, undef, undef, undef, undef, undef, undef, undef, undef, undef, .pointer (some ⟨rp, 0, none⟩), .func (.func 69) #[] #[.pointer (some ⟨qp, 0, none⟩)], .int .i64 ((xq.1 : Nat) : Int), .agg #[.int .i64 xq.2.1, .int .i64 xq.2.2], undef, undef, undef, undef, undef, undef, undef, undef, undef, undef, undef, undef, undef, undef, undef, undef, undef, undef, undef, undef, undef, undef, undef, undef, undef, undef, undef, undef, undef, undef, undef, undef, undef, undef, undef, undef, undef, undef, undef, undef, undef, undef, undef, undef, undef, undef, undef, undef, undef, undef, undef, undef, undef, undef, undef, undef, undef, undef, undef, undef, undef, undef, undef, undef, undef, undef, undef, undef, undef, undef, undef, undef, undef, undef, undef, undef, undef, undef, undef, undef, undef, undef, undef, undef, undef, undef, undef, undef, undef, undef, undef, undef, undef, undef, undef, undef, undef, undef, undef, undef, undef, undef, undef, undef, undef, undef, undef, undef, undef, undef, undef, undef, undef, undef, undef, undef, undef, undef, undef, undef, undef, undef, undef, undef, undef, undef, undef], defers := [] }) (by kernel_rfl) ?_
    refine x_seq <| x_region <| x_b H [.m] <| x_nil <| x_then <| x_region <| z_box H #[.int .i64 0, .int .i64 0] 52 (fun v6 g4 H => ?_)
    refine z_store H 0 0 [.int .i64 xq.2.1, .int .i64 xq.2.2] (fun v7 H => ?_)
    refine x_nil <| x_then ?_
    exact ⟨g4, (by kernel_rfl), H⟩
  · skip
    clear H
    rintro lrnd pre xq nn bq W1 hI hlen H
    have hI' : nn = List.length pre := hI
    have hlq := idxQ_len rx.Q
    have hqlr := hx.ql
    refine x_block <| x_seq <| x_seq <| z_region_whole H <| q_b [.m, .l 14 0, .v (.bool (!(decide (((xq.1 : Nat) : Int) = (nn : Int))))), .v (.bool (!(decide (((xq.1 : Nat) : Int) = (nn : Int)))))] ?_
    cases h1 : decide (((xq.1 : Nat) : Int) = (nn : Int))
    · skip
      have h1p := of_decide_eq_false h1
      refine q_b [.k, .k, .k, .k, .k, .m, .m, .k, .k, .k, .k, .k, .k, .k, .m] <| q_nil ?_
      clear H
      intro v8 H
      refine x_then <| x_t (by kernel_rfl) <| x_seq <| x_region <| z_store H 15 0 [.bool false] (fun v9 H => ?_)
      refine x_nil <| x_then <| x_retc <| x_then_ret <| x_blk_ret ?_
      have hff : ¬ ((pre ++ [xq]) <+: idxQ rx.Q) := fun hp => by
        have q := prefix_getQ hp
        have ql := idxQ_len rx.Q
        rw [idxQ_get _ _ (by omega)] at q
        have q1 := congrArg Prod.fst q.1
        have q2 := congrArg Prod.snd q.1
        dsimp only at q1 q2
        have hn := hg.a.1
        omega
      replace H := H.pk [1, 2, 3, 4, 5, 6, 7, 8, 9, 10, 11, 12, 13, 14, 15]
      exact ⟨nn, ⟨rfl, hff⟩, H⟩
    have h1p := of_decide_eq_true h1
    refine q_b [.m, .m, .l 13 16, .m, .v (.bool (decide (((g.n : Nat) : Int) ≤ ((xq.1 : Nat) : Int)))), .v (.bool (decide (((g.n : Nat) : Int) ≤ ((xq.1 : Nat) : Int)))), .v (.bool (decide (((g.n : Nat) : Int) ≤ ((xq.1 : Nat) : Int))))] ?_
    cases h2 : decide (((g.n : Nat) : Int) ≤ ((xq.1 : Nat) : Int))
    · skip
      have h2p := of_decide_eq_false h2
      obtain ⟨ga, oa, had, hcell⟩ := hg.a.at (by omega)
      refine q_b [.n 0 0 2 52, .m, .l 13 16, .m] <| q_ixO (t := 37) had xq.1 g.n g.c 80 2 (oa + xq.1 * 2) (by omega) (by omega) (by kernel_rfl) (by kernel_rfl) (by kernel_rfl) (fun _ => by kernel_rfl) <| q_loadcn (t := 80) ga (oa + xq.1 * 2) [.int .i64 ((rx.Q.getD xq.1 (0, 0)).1), .int .i64 ((rx.Q.getD xq.1 (0, 0)).2)] (fun _ H => hcell _ _ (H.ok 12 _ rfl : Go.World.ownsRow _ 0 80 2 _ _ _) xq.1 (by omega)) (by kernel_rfl) (by kernel_rfl) (by kernel_rfl) <| q_val (.bool (!(decide ((xq.2.1 : Int) = ((rx.Q.getD xq.1 (0, 0)).1)) && (decide ((xq.2.2 : Int) = ((rx.Q.getD xq.1 (0, 0)).2)) && true)))) (by kernel_rfl) (fun _ => (run_neS (t := 80) (x := .tmp 35) (y := .tmp 40) (xs := #[.int .i64 xq.2.1, .int .i64 xq.2.2]) (ys := #[.int .i64 ((rx.Q.getD xq.1 (0, 0)).1), .int .i64 ((rx.Q.getD xq.1 (0, 0)).2)]) (B := decide ((xq.2.1 : Int) = ((rx.Q.getD xq.1 (0, 0)).1)) && (decide ((xq.2.2 : Int) = ((rx.Q.getD xq.1 (0, 0)).2)) && true)) (by kernel_rfl) (by kernel_rfl) (by kernel_rfl))) ?_
      refine q_b [.v (.bool (!(decide ((xq.2.1 : Int) = ((rx.Q.getD xq.1 (0, 0)).1)) && (decide ((xq.2.2 : Int) = ((rx.Q.getD xq.1 (0, 0)).2)) && true))))] <| q_nil ?_
      clear H
      intro v10 H
      refine x_then ?_
      cases h3 : decide ((xq.2.1 : Int) = ((rx.Q.getD xq.1 (0, 0)).1)) && (decide ((xq.2.2 : Int) = ((rx.Q.getD xq.1 (0, 0)).2)) && true)
      · skip
        refine x_t (by kernel_rfl) <| x_seq <| x_region <| z_store H 15 0 [.bool false] (fun v11 H => ?_)
        refine x_nil <| x_then <| x_retc <| x_then_ret <| x_blk_ret ?_
        have hff : ¬ ((pre ++ [xq]) <+: idxQ rx.Q) := fun hp => by
          have q := prefix_getQ hp
          have ql := idxQ_len rx.Q
          rw [idxQ_get _ _ (by omega)] at q
          have q1 := congrArg Prod.fst q.1
          have q2 := congrArg Prod.snd q.1
          dsimp only at q1 q2
          have hn := hg.a.1
          have z := h3
          rw [← q2, ← q1] at z
          simp at z
        replace H := H.pk [1, 2, 3, 4, 5, 6, 7, 8, 9, 10, 11, 12, 13, 14, 15]
        exact ⟨nn, ⟨rfl, hff⟩, H⟩
      refine x_f (by kernel_rfl) <| x_skipc <| x_then <| x_region <| x_b H [.l 14 0] <| z_ar ((nn : Int) + 1) <| z_store H 14 0 [.int .i64 ((nn : Int) + 1)] (fun v12 H => ?_)
      refine x_nil <| x_blk ?_
      replace H := H.pk [1, 2, 3, 4, 5, 6, 7, 8, 9, 10, 11, 12, 13, 14, 15]
      exact ⟨(nn + 1), (by show _ = List.length (pre ++ [xq]); simp; exact hI), H⟩
    have h2p := of_decide_eq_true h2
    refine q_b [.k, .k, .k, .k, .k, .k, .k, .m] <| q_nil ?_
    clear H
    intro v13 H
    refine x_then <| x_t (by kernel_rfl) <| x_seq <| x_region <| z_store H 15 0 [.bool false] (fun v14 H => ?_)
    refine x_nil <| x_then <| x_retc <| x_then_ret <| x_blk_ret ?_
    have hff : ¬ ((pre ++ [xq]) <+: idxQ rx.Q) := fun hp => by
      have q := prefix_getQ hp
      have ql := idxQ_len rx.Q
      rw [idxQ_get _ _ (by omega)] at q
      have q1 := congrArg Prod.fst q.1
      have q2 := congrArg Prod.snd q.1
      dsimp only at q1 q2
      have hn := hg.a.1
      omega
    replace H := H.pk [1, 2, 3, 4, 5, 6, 7, 8, 9, 10, 11, 12, 13, 14, 15]
    exact ⟨nn, ⟨rfl, hff⟩, H⟩
  · skip
    clear H
    rintro Dq_ nn W1 hI H
    have hI2 : nn = List.length (idxQ rx.Q) := hI
    rw [idxQ_len] at hI2
    have hgn := hg.a.1
    refine x_blk <| x_then <| x_seq <| x_seq <| z_region_whole H <| q_b [.l 14 0, .m, .l 13 16, .m, .v (.bool (!(decide ((nn : Int) = ((g.n : Nat) : Int))))), .v (.bool (!(decide ((nn : Int) = ((g.n : Nat) : Int)))))] ?_
    cases h4 : decide ((nn : Int) = ((g.n : Nat) : Int))
    · skip
      have h4p := of_decide_eq_false h4
      exact absurd h4p (by omega)
    have h4p := of_decide_eq_true h4
    refine q_b [.m] <| q_callR (.agg #[.int .i64 rx.j.1, .int .i64 rx.j.2.1, .int .i64 rx.j.2.2.1, .int .i64 rx.j.2.2.2]) (by kernel_rfl) (fun _ => by kernel_rfl) (fun _ H => (Job_of _ (H.ro1 [4]))) <| q_b [.m, .n 13 12 4 36] ?_
    have h5 : (decide ((rx.j.1 : Int) = rx.j.1) && (decide ((rx.j.2.1 : Int) = rx.j.2.1) && (decide ((rx.j.2.2.1 : Int) = rx.j.2.2.1) && (decide ((rx.j.2.2.2 : Int) = rx.j.2.2.2) && true)))) = true := by simp
    refine q_val (.bool false) (by kernel_rfl) (fun _ => ((run_neS (t := 36) (x := .tmp 52) (y := .tmp 54) (xs := #[.int .i64 rx.j.1, .int .i64 rx.j.2.1, .int .i64 rx.j.2.2.1, .int .i64 rx.j.2.2.2]) (ys := #[.int .i64 rx.j.1, .int .i64 rx.j.2.1, .int .i64 rx.j.2.2.1, .int .i64 rx.j.2.2.2]) (B := decide ((rx.j.1 : Int) = rx.j.1) && (decide ((rx.j.2.1 : Int) = rx.j.2.1) && (decide ((rx.j.2.2.1 : Int) = rx.j.2.2.1) && (decide ((rx.j.2.2.2 : Int) = rx.j.2.2.2) && true)))) (by kernel_rfl) (by kernel_rfl) (by kernel_rfl)).trans (by rw [h5]; try rfl))) <| q_b [.m] <| q_nil ?_
    clear H
    intro v15 H
    refine x_then <| x_f (by kernel_rfl) <| x_skipc <| x_then <| x_seq <| x_seq <| x_region ?_
    refine x_b H [.m, .m, .l 13 7] <| x_lenR H 9 lv 31 3 1 pg (List.map (Value.int .i64) (layL y r b o pg)) rfl (by kernel_rfl) (by kernel_rfl) rfl (by kernel_rfl) <| x_b H [.m] <| x_nil <| x_then <| x_block <| x_loop (G := Nat) (fun (k : Nat) a w' => ∃ uf1 : Nat → Value, a = frm 151 uf1 [(0, .pointer (some ⟨rp, 0, none⟩)), (3, .pointer (some ⟨g1, 0, none⟩)), (4, .pointer (some ⟨g2, 0, none⟩)), (60, .int .i64 (pg : Int)), (61, .int .i64 (k : Int))] [{ target := .collected Dq_, args := #[] }] ∧ Hs M w0 w' [.obj Dq_ ((.deferred (some []))), .blk qp #[.pointer (some ⟨q, 0, none⟩)] 72, .blk q #[.slice (some ⟨gq, 0, none⟩) 256 cq, .int .i64 (ra : Int), .int .i64 (qn : Int)] 123, .row (.slice (some ⟨gq, 0, none⟩) 256 cq) 52 2 256 (List.flatMap entL ls), .blk rp #[.pointer (some ⟨p, 0, none⟩), .int .i64 rx.j.1, .int .i64 rx.j.2.1, .int .i64 rx.j.2.2.1, .int .i64 rx.j.2.2.2, .pointer (some ⟨q, 0, none⟩)] 74, .blk p #[.int .i64 r, .int .i64 s, .int .i64 b, .int .i64 o, .int .i64 c, .int .i64 y, .int .i64 z, .slice (some ⟨gl, 0, none⟩) sn cl, .slice (some ⟨gd, 0, none⟩) pg cd, .slice (some ⟨gs, 0, none⟩) ns cs, .int .i64 ((rx.pu : Nat) : Int), .int .i64 ((rx.ru : Nat) : Int)] 109, .row (.slice (some ⟨gl, 0, none⟩) sn cl) 3 1 sn (List.map (Value.int .i64) rx.L), .row (.slice (some ⟨gd, 0, none⟩) pg cd) 4 1 pg (List.map Value.bool rx.D), .row (.slice (some ⟨gs, 0, none⟩) ns cs) 3 1 ns (List.map (Value.int .i64) rx.S), .row (lv) 3 1 pg (List.map (Value.int .i64) (layL y r b o pg)), .row (g.pv) 142 2 (List.length g.Pg) (List.flatMap entL g.Pg), .row (g.kv) 142 2 (List.length g.Rk) (List.flatMap entL g.Rk), .row (g.fv) 80 2 (List.length g.F) (List.flatMap entL g.F), .blk g1 #[.int .i64 r, .int .i64 s, .int .i64 b, .int .i64 o, .int .i64 c, .int .i64 y, .int .i64 z, lv, g.pv, g.kv, .int .i64 ((rx.pu : Nat) : Int), .int .i64 ((rx.ru : Nat) : Int), .int .i64 rx.j.1, .int .i64 rx.j.2.1, .int .i64 rx.j.2.2.1, .int .i64 rx.j.2.2.2, .slice g.ad g.n g.c] 39, .blk g3 #[.int .i64 (nn : Int)] 3, .blk g2 #[.bool false] 4] ∧ (k ≤ pg)) (fun (k : Nat) => pg - k) 0 ⟨_, frm_of, H, (Nat.zero_le _)⟩ ?_
    clear H
    rintro k _ v16 ⟨uf1, rfl, H, r1⟩
    refine x_seq <| x_region <| x_b H [.v (.bool (decide ((k : Int) < (pg : Int))))] <| x_nil <| x_then <| x_seq ?_
    cases h6 : decide ((k : Int) < (pg : Int))
    · skip
      have h6p := of_decide_eq_false h6
      refine x_f (by kernel_rfl) <| x_exit <| x_then_exit <| x_then_exit <| x_blk_exit <| x_then <| x_seq ?_
      refine x_seq <| z_region_whole H <| q_b [.m, .n 13 0 12 34] <| q_callR (.int .i64 (sn : Int)) (by kernel_rfl) (fun _ => by kernel_rfl) (fun _ H => (Seen19 (pu := rx.pu) (ru := rx.ru) (pv := g.pv) (kv := g.kv) hL _ (H.ro1 [9]))) <| q_b [.m, .m, .m, .l 13 4] <| q_ar ((sn : Int) * c) ⟨by omega, by omega⟩ (by kernel_rfl) (fun _ => by kernel_rfl) <| q_b [.m] ?_
      refine q_nil ?_
      clear H
      intro v17 H
      refine x_then <| x_block <| x_loop (G := Nat) (fun (k : Nat) a w' => ∃ uf2 : Nat → Value, a = frm 151 uf2 [(0, .pointer (some ⟨rp, 0, none⟩)), (3, .pointer (some ⟨g1, 0, none⟩)), (4, .pointer (some ⟨g2, 0, none⟩)), (96, .int .i64 ((sn : Int) * c)), (97, .int .i64 (k : Int))] [{ target := .collected Dq_, args := #[] }] ∧ Hs M w0 w' [.obj Dq_ ((.deferred (some []))), .blk qp #[.pointer (some ⟨q, 0, none⟩)] 72, .blk q #[.slice (some ⟨gq, 0, none⟩) 256 cq, .int .i64 (ra : Int), .int .i64 (qn : Int)] 123, .row (.slice (some ⟨gq, 0, none⟩) 256 cq) 52 2 256 (List.flatMap entL ls), .blk rp #[.pointer (some ⟨p, 0, none⟩), .int .i64 rx.j.1, .int .i64 rx.j.2.1, .int .i64 rx.j.2.2.1, .int .i64 rx.j.2.2.2, .pointer (some ⟨q, 0, none⟩)] 74, .blk p #[.int .i64 r, .int .i64 s, .int .i64 b, .int .i64 o, .int .i64 c, .int .i64 y, .int .i64 z, .slice (some ⟨gl, 0, none⟩) sn cl, .slice (some ⟨gd, 0, none⟩) pg cd, .slice (some ⟨gs, 0, none⟩) ns cs, .int .i64 ((rx.pu : Nat) : Int), .int .i64 ((rx.ru : Nat) : Int)] 109, .row (.slice (some ⟨gl, 0, none⟩) sn cl) 3 1 sn (List.map (Value.int .i64) rx.L), .row (.slice (some ⟨gd, 0, none⟩) pg cd) 4 1 pg (List.map Value.bool rx.D), .row (.slice (some ⟨gs, 0, none⟩) ns cs) 3 1 ns (List.map (Value.int .i64) rx.S), .row (lv) 3 1 pg (List.map (Value.int .i64) (layL y r b o pg)), .row (g.pv) 142 2 (List.length g.Pg) (List.flatMap entL g.Pg), .row (g.kv) 142 2 (List.length g.Rk) (List.flatMap entL g.Rk), .row (g.fv) 80 2 (List.length g.F) (List.flatMap entL g.F), .blk g1 #[.int .i64 r, .int .i64 s, .int .i64 b, .int .i64 o, .int .i64 c, .int .i64 y, .int .i64 z, lv, g.pv, g.kv, .int .i64 ((rx.pu : Nat) : Int), .int .i64 ((rx.ru : Nat) : Int), .int .i64 rx.j.1, .int .i64 rx.j.2.1, .int .i64 rx.j.2.2.1, .int .i64 rx.j.2.2.2, .slice g.ad g.n g.c] 39, .blk g3 #[.int .i64 (nn : Int)] 3, .blk g2 #[.bool false] 4] ∧ ((k : Int) ≤ (sn : Int) * c)) (fun (k : Nat) => ((sn : Int) * c).toNat - k) 0 ⟨_, frm_of, H, (by omega)⟩ ?_
      clear H
      rintro k _ v18 ⟨uf2, rfl, H, r1⟩
      have hkc : 0 ≤ (k : Int) / c ∧ (k : Int) / c ≤ (k : Int) := ⟨Int.ediv_nonneg (by omega) (by omega), Int.ediv_le_self _ (by omega)⟩
      refine x_seq <| x_region <| x_b H [.v (.bool (decide ((k : Int) < ((sn : Int) * c))))] <| x_nil <| x_then <| x_seq ?_
      cases h7 : decide ((k : Int) < ((sn : Int) * c))
      · skip
        have h7p := of_decide_eq_false h7
        refine x_f (by kernel_rfl) <| x_exit <| x_then_exit <| x_then_exit <| x_blk_exit <| x_then <| x_seq ?_
        refine x_region <| z_store H 15 0 [.bool true] (fun v19 H => ?_)
        refine x_nil <| x_then <| x_retc <| x_retM1 [0, 1, 2, 3, 4, 5, 6, 7, 8, 9, 10, 11, 12, 13, 14, 15] [.blk qp #[.pointer (some ⟨q, 0, none⟩)] 72, .blk q #[.slice (some ⟨gq, 0, none⟩) 256 cq, .int .i64 (ra : Int), .int .i64 (qn : Int)] 123, .row (.slice (some ⟨gq, 0, none⟩) 256 cq) 52 2 256 (List.flatMap entL ls), .blk rp #[.pointer (some ⟨p, 0, none⟩), .int .i64 rx.j.1, .int .i64 rx.j.2.1, .int .i64 rx.j.2.2.1, .int .i64 rx.j.2.2.2, .pointer (some ⟨q, 0, none⟩)] 74, .blk p #[.int .i64 r, .int .i64 s, .int .i64 b, .int .i64 o, .int .i64 c, .int .i64 y, .int .i64 z, .slice (some ⟨gl, 0, none⟩) sn cl, .slice (some ⟨gd, 0, none⟩) pg cd, .slice (some ⟨gs, 0, none⟩) ns cs, .int .i64 ((rx.pu : Nat) : Int), .int .i64 ((rx.ru : Nat) : Int)] 109, .row (.slice (some ⟨gl, 0, none⟩) sn cl) 3 1 sn (List.map (Value.int .i64) rx.L), .row (.slice (some ⟨gd, 0, none⟩) pg cd) 4 1 pg (List.map Value.bool rx.D), .row (.slice (some ⟨gs, 0, none⟩) ns cs) 3 1 ns (List.map (Value.int .i64) rx.S), .row (lv) 3 1 pg (List.map (Value.int .i64) (layL y r b o pg)), .row (g.pv) 142 2 (List.length g.Pg) (List.flatMap entL g.Pg), .row (g.kv) 142 2 (List.length g.Rk) (List.flatMap entL g.Rk), .row (g.fv) 80 2 (List.length g.F) (List.flatMap entL g.F), .blk g1 #[.int .i64 r, .int .i64 s, .int .i64 b, .int .i64 o, .int .i64 c, .int .i64 y, .int .i64 z, lv, g.pv, g.kv, .int .i64 ((rx.pu : Nat) : Int), .int .i64 ((rx.ru : Nat) : Int), .int .i64 rx.j.1, .int .i64 rx.j.2.1, .int .i64 rx.j.2.2.1, .int .i64 rx.j.2.2.2, .slice g.ad g.n g.c] 39, .blk g3 #[.int .i64 (nn : Int)] 3, .blk g2 #[.bool true] 4] (.bool true) H (by kernel_rfl) rfl (by decide) (fun _ H => (x_rescell1 H 14 g2 0 #[.bool true] 4 (.bool true) (fun x => x) (by kernel_rfl) (by kernel_rfl) (by kernel_rfl))) ?_
        clear H
        intro v20 H
        replace H := H.pk [3, 4, 5, 6, 7, 1, 2, 8, 9, 10, 11]
        exact ⟨rfl, H⟩
      have h7p := of_decide_eq_true h7
      refine x_t (by kernel_rfl) <| x_skipc <| x_then <| x_seq <| x_block <| x_seq <| x_region ?_
      refine x_b H [.m, .m] <| x_nil <| x_then <| x_seq <| x_region <| x_b H [.m, .m] <| z_callB (v := .tuple #[.int .i64 (rtI y r b o c rx.S rx.j (rx.L.getD ((k : Int) / c).toNat 0) (pgAt y r b o (rx.L.getD ((k : Int) / c).toNat 0) / 16384) (idxP y r b o rx.S (rx.L.getD ((k : Int) / c).toNat 0) * 64 + (k : Int) % c) ((k : Int) % c)), .int .i64 (rx.L.getD ((k : Int) / c).toNat 0), .int .i64 (pgAt y r b o (rx.L.getD ((k : Int) / c).toNat 0) / 16384), .int .i64 0]) H (RRoute_of hL hx (k : Int) ⟨by omega, by omega⟩ _ (H.ro1 [4, 5, 6, 7, 8])) fun v21 H => ?_
      refine x_b H [.m, .m, .m, .m, .m, .m, .m, .m, .m] <| x_nil <| x_then <| x_seq <| x_region <| x_b H [.m] <| z_callB H (Job_of _ (H.ro1 [4])) fun v22 H => ?_
      refine x_b H [.m] <| z_callB H (Map_of _ (H.ro1 [4])) fun v23 H => x_b H [.m] <| z_callB (v := .tuple #[.int .i64 (rtI y r b o c rx.S rx.j (rx.L.getD ((k : Int) / c).toNat 0) (pgAt y r b o (rx.L.getD ((k : Int) / c).toNat 0) / 16384) (idxP y r b o rx.S (rx.L.getD ((k : Int) / c).toNat 0) * 64 + (k : Int) % c) ((k : Int) % c)), .int .i64 (rx.L.getD ((k : Int) / c).toNat 0), .int .i64 (pgAt y r b o (rx.L.getD ((k : Int) / c).toNat 0) / 16384), .int .i64 0]) H (Route_in hL hV rx.j hjr (by omega) (k : Int) ⟨by omega, by omega⟩ _ (H.ro1 [5, 6, 7, 8])) fun v24 H => x_b H [.m, .m, .m, .m, .m, .m, .m, .m, .m] <| x_nil <| x_then ?_
      refine x_seq <| z_region_whole H <| q_b [.m, .m] <| q_eq (.bool false) (show Value.bool (!decide ((rtI y r b o c rx.S rx.j (rx.L.getD ((k : Int) / c).toNat 0) (pgAt y r b o (rx.L.getD ((k : Int) / c).toNat 0) / 16384) (idxP y r b o rx.S (rx.L.getD ((k : Int) / c).toNat 0) * 64 + (k : Int) % c) ((k : Int) % c)) = (rtI y r b o c rx.S rx.j (rx.L.getD ((k : Int) / c).toNat 0) (pgAt y r b o (rx.L.getD ((k : Int) / c).toNat 0) / 16384) (idxP y r b o rx.S (rx.L.getD ((k : Int) / c).toNat 0) * 64 + (k : Int) % c) ((k : Int) % c)))) = Value.bool false by simp) (by kernel_rfl) (fun _ => by kernel_rfl) <| q_b [.m, .m, .m] <| q_eq (.bool false) (show Value.bool (!decide ((rx.L.getD ((k : Int) / c).toNat 0) = (rx.L.getD ((k : Int) / c).toNat 0))) = Value.bool false by simp) (by kernel_rfl) (fun _ => by kernel_rfl) <| q_b [.m, .m, .m, .m] ?_
      refine q_eq (.bool false) (show Value.bool (!decide ((pgAt y r b o (rx.L.getD ((k : Int) / c).toNat 0) / 16384) = (pgAt y r b o (rx.L.getD ((k : Int) / c).toNat 0) / 16384))) = Value.bool false by simp) (by kernel_rfl) (fun _ => by kernel_rfl) <| q_b [.m, .m, .m, .m, .m, .m, .m, .m, .m, .n 13 0 12 34, .m, .m, .m, .m, .l 13 4] <| q_quo (k : Int) c ((k : Int) / c) rfl (by omega) ⟨by omega, by omega⟩ (by kernel_rfl) (fun _ => by kernel_rfl) <| q_callR (.int .i64 (rx.L.getD ((k : Int) / c).toNat 0)) (by kernel_rfl) (fun _ => by kernel_rfl) (fun _ H => (by have h := Lives19 (pu := rx.pu) (ru := rx.ru) (lv := lv) (kv := g.kv) hL hg.d (by omega) (by omega) ((k : Int) / c).toNat (by have := Int.ediv_lt_of_lt_mul (show 0 < c by omega) (show (k : Int) < (sn : Int) * c by omega); omega) _ (H.ro1 [10]); rw [Int.toNat_of_nonneg (Int.ediv_nonneg (by omega) (by omega))] at h; exact h)) <| q_eq (.bool false) (show Value.bool (!decide ((rx.L.getD ((k : Int) / c).toNat 0) = (rx.L.getD ((k : Int) / c).toNat 0))) = Value.bool false by simp) (by kernel_rfl) (fun _ => by kernel_rfl) ?_
      refine q_b [.m] <| q_nil ?_
      clear H
      intro v25 H
      refine z_fr 151 [(0, .pointer (some ⟨rp, 0, none⟩)), (3, .pointer (some ⟨g1, 0, none⟩)), (4, .pointer (some ⟨g2, 0, none⟩)), (96, .int .i64 ((sn : Int) * c)), (97, .int .i64 (k : Int)), (149, .bool false)] [{ target := .collected Dq_, args := #[] }] fun uf3 => x_then <| x_f (by kernel_rfl) <| x_skipc <| x_blk <| x_then <| x_region ?_
      refine z_ar ((k : Int) + 1) <| x_b H [.m] <| x_nil <| x_then ?_
      exact ⟨(k + 1), (by omega), _, frm_of, H, (by omega)⟩
    have h6p := of_decide_eq_true h6
    refine x_t (by kernel_rfl) <| x_skipc <| x_then <| x_seq <| x_block <| x_seq <| x_region ?_
    refine x_b H [.m, .m] <| x_nil <| x_then <| x_seq <| x_region <| x_b H [.m] <| z_callB H (Map_of _ (H.ro1 [4])) fun v26 H => ?_
    refine x_b H [.m] <| z_callB (v := .tuple #[.int .i64 (idxP y r b o rx.S (k : Int)), .int .i64 0]) H (Lies_k hL hV k (by omega) _ (H.ro1 [5, 6, 7, 8])) fun v27 H => x_b H [.m, .m, .m, .m, .m] <| x_nil <| x_then <| x_seq <| z_region_whole H ?_
    refine q_b [.m, .m, .n 13 0 12 34, .m] <| q_callR (.int .i64 (idxP y r b o rx.S (k : Int))) (by kernel_rfl) (fun _ => by kernel_rfl) (fun _ H => (Lies19 (pu := rx.pu) (ru := rx.ru) (pv := g.pv) hL hg.d (by omega) (by omega) k (by omega) _ (Ro.two (H.ro1 [9]) (H.ro1 [11])))) <| q_eq (.bool false) (show Value.bool (!decide ((idxP y r b o rx.S (k : Int)) = (idxP y r b o rx.S (k : Int)))) = Value.bool false by simp) (by kernel_rfl) (fun _ => by kernel_rfl) <| q_b [.m, .m] <| q_callR (.pointer (some ⟨p, 0, none⟩)) (by kernel_rfl) (fun _ => by kernel_rfl) (fun _ H => (Map_of _ (H.ro1 [4]))) <| q_b [.m] <| q_callR (.bool (rx.D.getD k false)) (by kernel_rfl) (fun _ => by kernel_rfl) (fun _ H => (Dead_k hL hV k (by omega) _ (H.ro1 [5, 6, 7, 8]))) ?_
    refine q_b [.m, .n 13 0 12 34, .m] <| q_callR (.bool (rx.D.getD k false)) (by kernel_rfl) (fun _ => by kernel_rfl) (fun _ H => (Dead19 (pu := rx.pu) (ru := rx.ru) (lv := lv) (kv := g.kv) hL hg.d (by omega) (by omega) k (by omega) _ (H.ro1 [10]))) <| q_eq (.bool false) (show Value.bool ((rx.D.getD k false) != (rx.D.getD k false)) = Value.bool false by simp) (by kernel_rfl) (fun _ => by kernel_rfl) <| q_b [.m] <| q_nil ?_
    clear H
    intro v28 H
    refine x_then <| x_f (by kernel_rfl) <| x_skipc <| x_blk <| x_then <| x_region <| z_ar ((k : Int) + 1) ?_
    refine x_b H [.m] <| x_nil <| x_then ?_
    exact ⟨(k + 1), (by omega), _, frm_of, H, (by omega)⟩
  · skip
    clear H
    rintro Dq_ cq_ pre nn W1 hpre hJ H
    rcases hJ with ⟨rfl, hJ⟩
    · skip
      exact absurd hpre hJ
end Go.Proofs.YtpmnnijjohlloaaGreat
