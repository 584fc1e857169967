/- The law CopierLines, walked. -/
import Derived.Test.YtpmnnijjohlloaaCplB
import Derived.Test.YtpmnnijjohlloaaPxZ
namespace Go.Proofs.Ytpmnnijjohlloaa
open Go Go.RowKit
set_option linter.unusedVariables false
set_option linter.unusedSimpArgs false
theorem layC : Lay 1 0 1 2 2 0 1 2 1 1 := ⟨by decide, by decide, by decide, by decide, by decide, by decide, by decide, by decide, by decide, by decide, by decide, by decide, by decide, by decide, by decide, by decide, by decide, by decide, by decide, by decide, by decide, by decide⟩
set_option maxRecDepth 100000 in
set_option maxHeartbeats 4000000 in
theorem anchor20 (w0 : World) :
    Calls Try.prog 44 #[] w0 fun e w' => e = .returned (.bool true) ∧ Below w0.heap.size w0 w' := by
  refine z_enter Try.func44 rfl ?_
  have H := Hs.nil w0
  refine x_seq <| x_region <| x_b H [.m] <| x_nil <| x_then <| x_seq <| x_region ?_
  refine x_b H [.m, .m] <| z_call (New_yes layC _) ?_
  rintro _ v1 ⟨p, gl, cl, gd, cd, gs, cs, rfl, hN'⟩
  refine ⟨_, rfl, ?_⟩
  replace H := hsCast (H.more hN') (L2 := [.blk p #[.int .i64 1, .int .i64 0, .int .i64 1, .int .i64 2, .int .i64 2, .int .i64 0, .int .i64 1, .slice (some ⟨gl, 0, none⟩) 1 cl, .slice (some ⟨gd, 0, none⟩) 2 cd, .slice (some ⟨gs, 0, none⟩) 1 cs, .int .i64 ((0 : Nat) : Int), .int .i64 ((0 : Nat) : Int)] 118, .row (.slice (some ⟨gl, 0, none⟩) 1 cl) 3 1 1 (List.map (Value.int .i64) (iota 1)), .row (.slice (some ⟨gd, 0, none⟩) 2 cd) 4 1 2 (List.map Value.bool (List.replicate 2 false)), .row (.slice (some ⟨gs, 0, none⟩) 1 cs) 3 1 1 (List.map (Value.int .i64) (List.replicate 1 (-1)))]) (by kernel_rfl)
  clear hN'
  refine x_b H [.m, .m, .m, .m, .m] <| x_nil <| x_then <| x_seq <| x_seq <| x_region <| x_b H [.m, .m, .m, .m, .m, .m] ?_
  refine x_nil <| x_then <| x_f (by kernel_rfl) <| x_skipc <| x_then <| x_seq <| x_region ?_
  refine x_b H [.m] <| z_box H #[.int .i64 0, .int .i64 0, .int .i64 0, .int .i64 0] 77 (fun v2 g1 H => ?_)
  refine z_store H 0 0 [.int .i64 1, .int .i64 0, .int .i64 1, .int .i64 1] (fun v3 H => ?_)
  refine x_nil <| x_then <| x_seq <| x_region <| x_b H [.n 0 0 4 77, .m] <| z_callB H ((Route_in layC (MapV.new layC) (1, 0, 1, 1) (by decide +kernel) (by decide) 0 (by decide) _ (H.ro1 [1, 2, 3, 4])).mono fun e w' h => ⟨h.1.trans (show _ = Ending.returned (.tuple #[.int .i64 64, .int .i64 0, .int .i64 0, .int .i64 0]) by kernel_rfl), h.2⟩) fun v4 H => x_b H [.m, .m, .m, .m, .m, .m, .m, .m, .m] ?_
  refine x_nil <| x_then <| x_seq <| x_region <| x_b H [.n 0 0 4 77, .m] <| z_callB H ((Route_in layC (MapV.new layC) (1, 0, 1, 1) (by decide +kernel) (by decide) 1 (by decide) _ (H.ro1 [1, 2, 3, 4])).mono fun e w' h => ⟨h.1.trans (show _ = Ending.returned (.tuple #[.int .i64 1, .int .i64 0, .int .i64 0, .int .i64 0]) by kernel_rfl), h.2⟩) fun v5 H => x_b H [.m, .m, .m, .m, .m, .m, .m, .m, .m] ?_
  refine x_nil <| z_fr 62 [(1, .pointer (some ⟨p, 0, none⟩)), (3, .pointer (some ⟨g1, 0, none⟩)), (4, .int .i64 64), (7, .int .i64 0), (8, .int .i64 1), (11, .int .i64 0)] [] fun uf1 => x_then <| x_seq <| z_region_whole H <| q_b [.m, .m, .m, .m, .m, .m, .m, .m, .m, .m, .m, .m, .m, .m, .m, .n 0 0 4 77, .m] <| q_callR (.agg #[.int .i64 1, .int .i64 0, .int .i64 1, .int .i64 2, .int .i64 2, .int .i64 0, .int .i64 1]) (by kernel_rfl) (fun _ => by kernel_rfl) (fun _ H => (Layout_of layC (MapV.new layC).m _ (H.ro1 [1, 2, 3, 4]))) ?_
  refine q_callB (.int .i64 2) (by kernel_rfl) (fun _ => by kernel_rfl) (fun _ => ((Count_any layC (1, 0, 1, 1) _).mono fun e w' h => ⟨h.1.trans (show _ = Ending.returned (.int .i64 2) by kernel_rfl), h.2⟩)) <| q_b [.m, .m, .m] <| q_nil ?_
  clear H
  intro v6 H
  refine x_then <| x_retc <| x_ret (.bool true) (by kernel_rfl) (by kernel_rfl) ?_
  exact ⟨rfl, H.below⟩
set_option maxRecDepth 100000 in
set_option maxHeartbeats 4000000 in
theorem small20_any (r s b o c y z : Int) (hr : r ≤ 9223372036854775807) (hb : b ≤ 9223372036854775807) (ho : o ≤ 9223372036854775807) (hc : c ≤ 9223372036854775807) (w0 : World) :
    Calls Try.prog 45 #[.agg #[.int .i64 r, .int .i64 s, .int .i64 b, .int .i64 o, .int .i64 c, .int .i64 y, .int .i64 z]] w0 fun e w' => ∃ t : Bool, e = .returned (.bool t) ∧ Below w0.heap.size w0 w' := by
  refine z_enter Try.func45 rfl ?_
  have H := Hs.nil w0
  refine x_seq <| x_region <| z_box H #[.int .i64 r, .int .i64 s, .int .i64 b, .int .i64 o, .int .i64 c, .int .i64 y, .int .i64 z] 25 (fun v1 g1 H => ?_)
  refine x_b H [.m] <| x_nil <| x_then <| x_seq <| x_region <| x_b H [.m, .n 0 0 5 23] <| z_box H #[.int .i64 0, .int .i64 0, .int .i64 0, .int .i64 0, .int .i64 0] 23 (fun v2 g2 H => ?_)
  refine z_store H 0 0 [.int .i64 r, .int .i64 s, .int .i64 b, .int .i64 o, .int .i64 c] (fun v3 H => ?_)
  refine x_nil <| x_then <| x_seq <| x_region <| x_b H [.n 0 0 5 23] <| z_callB (v := .bool (geomOk r s b o c)) H (G7Right _ _ _ _ _ _) fun v4 H => x_b H [.v (.bool (!(geomOk r s b o c))), .v (.bool (!(geomOk r s b o c)))] ?_
  cases h1 : geomOk r s b o c
  · skip
    refine x_b H [.k, .k, .k, .k, .k, .k, .k, .k, .k, .k, .k, .k, .k, .k, .k, .m, .m] <| x_nil <| x_then <| x_retc <| x_ret (.bool true) (by kernel_rfl) (by kernel_rfl) ?_
    exact ⟨_, rfl, H.below⟩
  obtain ⟨⟨d1, d2⟩, ⟨d3, d4⟩, ⟨d5, d6⟩, ⟨d7, d8⟩, ⟨d9, d10⟩, _⟩ := geom_bd h1
  obtain ⟨x1, x2⟩ := mul_bd (p := 8) (q := 16) (show 0 ≤ r + s by omega) (by omega) (show 0 ≤ b by omega) (by omega)
  obtain ⟨x3, x4⟩ := mul_bd (p := 128) (q := 1024) (show 0 ≤ (r + s) * b by omega) (by omega) (show 0 ≤ o by omega) (by omega)
  obtain ⟨x5, x6⟩ := mul_bd (p := 131072) (q := 64) (show 0 ≤ (r + s) * b * o by omega) (by omega) (show 0 ≤ c by omega) (by omega)
  refine x_b H [.m, .l 0 0, .m, .l 0 1] <| z_ar (r + s) <| x_b H [.m, .l 0 2] <| z_ar ((r + s) * b) <| x_b H [.m, .l 0 3] <| z_ar (((r + s) * b) * o) <| x_b H [.m, .l 0 4] ?_
  refine z_ar ((((r + s) * b) * o) * c) <| x_b H [.v (.bool (decide (((((r + s) * b) * o) * c) ≤ 300))), .v (.bool (decide (((((r + s) * b) * o) * c) ≤ 300))), .v (.bool (decide (((((r + s) * b) * o) * c) ≤ 300)))] <| x_nil <| x_then <| x_retc <| x_ret (.bool (decide (((((r + s) * b) * o) * c) ≤ 300))) (by kernel_rfl) (by kernel_rfl) ?_
  exact ⟨_, rfl, H.below⟩
set_option maxRecDepth 100000 in
set_option maxHeartbeats 4000000 in
theorem LinesOf (p : Nat) (j : Job4) (w0 : World) :
    Calls Try.prog 54 #[.agg #[.int .i64 j.1, .int .i64 j.2.1, .int .i64 j.2.2.1, .int .i64 j.2.2.2], .pointer (some ⟨p, 0, none⟩)] w0 fun e w' => ∃ jb mb, e = .returned (.func (.func 102) #[] #[.pointer (some ⟨jb, 0, none⟩), .pointer (some ⟨mb, 0, none⟩)]) ∧ Hs [] w0 w' [.blk jb #[.int .i64 j.1, .int .i64 j.2.1, .int .i64 j.2.2.1, .int .i64 j.2.2.2] 77, .blk mb #[.pointer (some ⟨p, 0, none⟩)] 27] := by
  refine z_enter Try.func54 rfl ?_
  have H := Hs.nil w0
  refine x_seq <| x_region <| z_box H #[.int .i64 j.1, .int .i64 j.2.1, .int .i64 j.2.2.1, .int .i64 j.2.2.2] 77 (fun v1 g1 H => ?_)
  refine z_box H #[.pointer (some ⟨p, 0, none⟩)] 27 (fun v2 g2 H => ?_)
  refine x_b H [.m] <| x_nil <| x_then <| x_seq <| x_region <| x_b H [.m, .m] <| x_nil ?_
  refine x_then <| x_retc <| x_ret (.func (.func 102) #[] #[.pointer (some ⟨g1, 0, none⟩), .pointer (some ⟨g2, 0, none⟩)]) (by kernel_rfl) (by kernel_rfl) ?_
  exact ⟨_, _, rfl, H.pk [1, 0]⟩
set_option maxRecDepth 100000 in
set_option maxHeartbeats 2000000 in
theorem lvals {jb mb : Nat} {r s b o c y z : Int} {pg sn ns : Nat} (hL : Lay r s b o c y z pg sn ns) {p gl cl gd cd gs cs : Nat} {L : List Int} {D : List Bool} {S : List Int} {pu ru : Nat} (hV : MapV r s z sn pg ns L D S pu ru) (j : Job4) (ht : -9223372036854775808 ≤ j.2.2.1 ∧ j.2.2.1 ≤ 9223372036854775807) (hj : jrP r s b o c pg ns D S j) (hk : j.1 = 1 ∨ j.1 = 2) (W0 : World) (hR : Ro W0 [.blk jb #[.int .i64 j.1, .int .i64 j.2.1, .int .i64 j.2.2.1, .int .i64 j.2.2.2] 77, .blk mb #[.pointer (some ⟨p, 0, none⟩)] 27, .blk p #[.int .i64 r, .int .i64 s, .int .i64 b, .int .i64 o, .int .i64 c, .int .i64 y, .int .i64 z, .slice (some ⟨gl, 0, none⟩) sn cl, .slice (some ⟨gd, 0, none⟩) pg cd, .slice (some ⟨gs, 0, none⟩) ns cs, .int .i64 ((pu : Nat) : Int), .int .i64 ((ru : Nat) : Int)] 118, .row (.slice (some ⟨gl, 0, none⟩) sn cl) 3 1 sn (List.map (Value.int .i64) L), .row (.slice (some ⟨gd, 0, none⟩) pg cd) 4 1 pg (List.map Value.bool D), .row (.slice (some ⟨gs, 0, none⟩) ns cs) 3 1 ns (List.map (Value.int .i64) S)]) :
    SeqStopsK (FW none) 0 Try.prog 102 #[.pointer (some ⟨jb, 0, none⟩), .pointer (some ⟨mb, 0, none⟩)] (fun x : Ent => #[.int .i64 x.1, .int .i64 x.2]) (KpOf [.blk jb #[.int .i64 j.1, .int .i64 j.2.1, .int .i64 j.2.2.1, .int .i64 j.2.2.2] 77, .blk mb #[.pointer (some ⟨p, 0, none⟩)] 27, .blk p #[.int .i64 r, .int .i64 s, .int .i64 b, .int .i64 o, .int .i64 c, .int .i64 y, .int .i64 z, .slice (some ⟨gl, 0, none⟩) sn cl, .slice (some ⟨gd, 0, none⟩) pg cd, .slice (some ⟨gs, 0, none⟩) ns cs, .int .i64 ((pu : Nat) : Int), .int .i64 ((ru : Nat) : Int)] 118, .row (.slice (some ⟨gl, 0, none⟩) sn cl) 3 1 sn (List.map (Value.int .i64) L), .row (.slice (some ⟨gd, 0, none⟩) pg cd) 4 1 pg (List.map Value.bool D), .row (.slice (some ⟨gs, 0, none⟩) ns cs) 3 1 ns (List.map (Value.int .i64) S)]) (fun ys => ys = (linL y r b o c S j ((Rp.cnt b o c j) - j.2.2.2).toNat)) (fun pre => pre <+: (linL y r b o c S j ((Rp.cnt b o c j) - j.2.2.2).toNat)) (List.length (linL y r b o c S j ((Rp.cnt b o c j) - j.2.2.2).toNat)) W0 := fun l J Jx W hW hJ hJx hY h0 => callsFW.2 (by
  refine z_enter Try.func102 rfl ?_
  have H := Hs.nil W
  have R0 : Ro W [.blk jb #[.int .i64 j.1, .int .i64 j.2.1, .int .i64 j.2.2.1, .int .i64 j.2.2.2] 77, .blk mb #[.pointer (some ⟨p, 0, none⟩)] 27, .blk p #[.int .i64 r, .int .i64 s, .int .i64 b, .int .i64 o, .int .i64 c, .int .i64 y, .int .i64 z, .slice (some ⟨gl, 0, none⟩) sn cl, .slice (some ⟨gd, 0, none⟩) pg cd, .slice (some ⟨gs, 0, none⟩) ns cs, .int .i64 (pu : Int), .int .i64 (ru : Int)] 118, .row (.slice (some ⟨gl, 0, none⟩) sn cl) 3 1 sn (List.map (Value.int .i64) L), .row (.slice (some ⟨gd, 0, none⟩) pg cd) 4 1 pg (List.map Value.bool D), .row (.slice (some ⟨gs, 0, none⟩) ns cs) 3 1 ns (List.map (Value.int .i64) S)] := fun i r hi => Res.keep (hR i r hi) fun g hg => hW.block g (Res.lt (hR i r hi) g hg)
  have hlX := linL_len y r b o c S j ((Rp.cnt b o c j) - j.2.2.2).toNat
  have hg := geom_of hL
  have hm := hV.m
  have hpu := hm.hp
  have hru := hm.hr
  have hsn := hL.hsn
  have hz0 := hL.z0
  have hz2 := hL.z2
  have hpg2 := hL.pg2
  have hr8 := hL.r8
  have hs8 := hL.s8
  have hr1 := hL.r1
  have hs0 := hL.s0
  have hns := hL.hns
  have hc1 := hL.c1
  have hc2 := hL.c2
  have hb1 := hL.b1
  have hb2 := hL.b2
  have ho1 := hL.o1
  have ho2 := hL.o2
  obtain ⟨hcn0, hcn1⟩ := cnt_bd hg j
  have hcp : ¬ j.1 = 1 ∨ Rp.cnt b o c j = c := by by_cases e : j.1 = 1; exact .inr (by unfold Rp.cnt; rw [if_pos e]); exact .inl e
  have hcr : ¬ j.1 = 2 ∨ Rp.cnt b o c j = b * o * c := by by_cases e : j.1 = 2; exact .inr (by unfold Rp.cnt; rw [if_neg (by omega), if_pos e]); exact .inl e
  have hnx : 0 ≤ j.2.2.2 ∧ j.2.2.2 ≤ (Rp.cnt b o c j) := by unfold jrP at hj; omega
  refine x_seq <| x_region <| x_b H [.m] <| x_loadc jb 3 (.int .i64 j.2.2.2) ((H.ro R0).cell 0 rfl 3 rfl) (by kernel_rfl) rfl (by kernel_rfl) <| x_eq (.int .i64 (max j.2.2.2 0)) (e_max j.2.2.2 0) (by kernel_rfl) rfl (by kernel_rfl) <| x_b H [.m] <| x_nil ?_
  refine x_then <| x_block <| x_loop (G := Nat × Int × World) (fun gh a w' => match gh with | (k, iv, wb) => ∃ uf1 : Nat → Value, a = frm 41 uf1 [(0, .func (.yield l) #[] #[]), (1, .pointer (some ⟨jb, 0, none⟩)), (2, .pointer (some ⟨mb, 0, none⟩)), (4, .int .i64 iv)] [] ∧ Hs [] wb w' [] ∧ (k ≤ ((Rp.cnt b o c j) - j.2.2.2).toNat) ∧ (iv = j.2.2.2 + (k : Int)) ∧ (J ((linL y r b o c S j ((Rp.cnt b o c j) - j.2.2.2).toNat).take k) wb) ∧ (Ro wb [.blk jb #[.int .i64 j.1, .int .i64 j.2.1, .int .i64 j.2.2.1, .int .i64 j.2.2.2] 77, .blk mb #[.pointer (some ⟨p, 0, none⟩)] 27, .blk p #[.int .i64 r, .int .i64 s, .int .i64 b, .int .i64 o, .int .i64 c, .int .i64 y, .int .i64 z, .slice (some ⟨gl, 0, none⟩) sn cl, .slice (some ⟨gd, 0, none⟩) pg cd, .slice (some ⟨gs, 0, none⟩) ns cs, .int .i64 (pu : Int), .int .i64 (ru : Int)] 118, .row (.slice (some ⟨gl, 0, none⟩) sn cl) 3 1 sn (List.map (Value.int .i64) L), .row (.slice (some ⟨gd, 0, none⟩) pg cd) 4 1 pg (List.map Value.bool D), .row (.slice (some ⟨gs, 0, none⟩) ns cs) 3 1 ns (List.map (Value.int .i64) S)])) (fun gh => match gh with | (k, iv, wb) => ((Rp.cnt b o c j) - j.2.2.2).toNat - k) (0, max j.2.2.2 0, W) ⟨_, frm_of, H, (Nat.zero_le _), (by omega), (by simpa using h0), R0⟩ ?_
  clear H
  rintro ⟨k, iv, wb⟩ _ v1 ⟨uf1, rfl, H, r1, r2, r3, r4⟩
  have hiv := r2
  have hJ1 := r3
  have R0 := r4
  refine x_seq <| x_block <| x_seq <| x_region <| x_loadcn (t := 77) jb 0 [.int .i64 j.1, .int .i64 j.2.1, .int .i64 j.2.2.1, .int .i64 j.2.2.2] ((H.ro R0).cells 0 rfl 0 (by kernel_rfl)) (by kernel_rfl) rfl (by kernel_rfl) (by kernel_rfl) <| x_loadc mb 0 (.pointer (some ⟨p, 0, none⟩)) ((H.ro R0).cell 1 rfl 0 rfl) (by kernel_rfl) rfl (by kernel_rfl) <| x_b H [.m] ?_
  cases h1 : decide (iv < (Rp.cnt b o c j))
  · skip
    have h1p := of_decide_eq_false h1
    refine z_callB (v := .tuple #[.int .i64 0, .int .i64 12]) H (Source_out hL hV j ht iv (fun h => by omega) _ ((H.ro R0).pick [2, 3, 4, 5] [.blk p #[.int .i64 r, .int .i64 s, .int .i64 b, .int .i64 o, .int .i64 c, .int .i64 y, .int .i64 z, .slice (some ⟨gl, 0, none⟩) sn cl, .slice (some ⟨gd, 0, none⟩) pg cd, .slice (some ⟨gs, 0, none⟩) ns cs, .int .i64 (pu : Int), .int .i64 (ru : Int)] 118, .row (.slice (some ⟨gl, 0, none⟩) sn cl) 3 1 sn (List.map (Value.int .i64) L), .row (.slice (some ⟨gd, 0, none⟩) pg cd) 4 1 pg (List.map Value.bool D), .row (.slice (some ⟨gs, 0, none⟩) ns cs) 3 1 ns (List.map (Value.int .i64) S)] (by kernel_rfl))) fun v2 H => x_b H [.m, .m, .m, .m, .m] <| x_nil <| x_then <| x_seq <| x_region <| x_loadcn (t := 77) jb 0 [.int .i64 j.1, .int .i64 j.2.1, .int .i64 j.2.2.1, .int .i64 j.2.2.2] ((H.ro R0).cells 0 rfl 0 (by kernel_rfl)) (by kernel_rfl) rfl (by kernel_rfl) (by kernel_rfl) ?_
    refine x_loadc mb 0 (.pointer (some ⟨p, 0, none⟩)) ((H.ro R0).cell 1 rfl 0 rfl) (by kernel_rfl) rfl (by kernel_rfl) <| x_b H [.m] <| z_callB (v := .tuple #[.int .i64 0, .int .i64 12]) H (Goal_out hL hV j ht iv (fun h => by omega) _ ((H.ro R0).pick [2, 3, 4, 5] [.blk p #[.int .i64 r, .int .i64 s, .int .i64 b, .int .i64 o, .int .i64 c, .int .i64 y, .int .i64 z, .slice (some ⟨gl, 0, none⟩) sn cl, .slice (some ⟨gd, 0, none⟩) pg cd, .slice (some ⟨gs, 0, none⟩) ns cs, .int .i64 (pu : Int), .int .i64 (ru : Int)] 118, .row (.slice (some ⟨gl, 0, none⟩) sn cl) 3 1 sn (List.map (Value.int .i64) L), .row (.slice (some ⟨gd, 0, none⟩) pg cd) 4 1 pg (List.map Value.bool D), .row (.slice (some ⟨gs, 0, none⟩) ns cs) 3 1 ns (List.map (Value.int .i64) S)] (by kernel_rfl))) fun v3 H => x_b H [.m, .m, .m, .m, .m] <| x_nil <| x_then <| x_seq ?_
    refine x_region <| x_b H [.m, .m, .m, .k, .k, .m, .m, .k, .k, .k, .k, .k, .m] <| x_nil <| x_then <| x_t (by kernel_rfl) <| x_retc <| x_blk_ret ?_
    refine x_then_ret <| x_then_ret <| x_blk_ret <| x_ret (.tuple #[]) (by kernel_rfl) (by kernel_rfl) ?_
    have hk1 : k = List.length (linL y r b o c S j ((Rp.cnt b o c j) - j.2.2.2).toNat) := by omega
    have HJ2 := hJ _ _ _ none hJ1 (below_grown H.below) (fun r e => by cases e)
    rw [hk1, List.take_length] at HJ2
    exact ⟨⟨_, rfl⟩, .inl ⟨_, rfl, HJ2⟩⟩
  have h1p := of_decide_eq_true h1
  refine z_callB (v := .tuple #[.int .i64 (atI y r b o c S j.1 j.2.1 iv), .int .i64 0]) H (Source_in hL hV j hj ht hk iv ⟨by omega, by omega⟩ _ ((H.ro R0).pick [2, 3, 4, 5] [.blk p #[.int .i64 r, .int .i64 s, .int .i64 b, .int .i64 o, .int .i64 c, .int .i64 y, .int .i64 z, .slice (some ⟨gl, 0, none⟩) sn cl, .slice (some ⟨gd, 0, none⟩) pg cd, .slice (some ⟨gs, 0, none⟩) ns cs, .int .i64 (pu : Int), .int .i64 (ru : Int)] 118, .row (.slice (some ⟨gl, 0, none⟩) sn cl) 3 1 sn (List.map (Value.int .i64) L), .row (.slice (some ⟨gd, 0, none⟩) pg cd) 4 1 pg (List.map Value.bool D), .row (.slice (some ⟨gs, 0, none⟩) ns cs) 3 1 ns (List.map (Value.int .i64) S)] (by kernel_rfl))) fun v4 H => x_b H [.m, .m, .m, .m, .m] <| x_nil <| x_then <| x_seq <| x_region <| x_loadcn (t := 77) jb 0 [.int .i64 j.1, .int .i64 j.2.1, .int .i64 j.2.2.1, .int .i64 j.2.2.2] ((H.ro R0).cells 0 rfl 0 (by kernel_rfl)) (by kernel_rfl) rfl (by kernel_rfl) (by kernel_rfl) ?_
  refine x_loadc mb 0 (.pointer (some ⟨p, 0, none⟩)) ((H.ro R0).cell 1 rfl 0 rfl) (by kernel_rfl) rfl (by kernel_rfl) <| x_b H [.m] <| z_callB (v := .tuple #[.int .i64 (atI y r b o c S j.1 j.2.2.1 iv), .int .i64 0]) H (Goal_in hL hV j hj ht hk iv ⟨by omega, by omega⟩ _ ((H.ro R0).pick [2, 3, 4, 5] [.blk p #[.int .i64 r, .int .i64 s, .int .i64 b, .int .i64 o, .int .i64 c, .int .i64 y, .int .i64 z, .slice (some ⟨gl, 0, none⟩) sn cl, .slice (some ⟨gd, 0, none⟩) pg cd, .slice (some ⟨gs, 0, none⟩) ns cs, .int .i64 (pu : Int), .int .i64 (ru : Int)] 118, .row (.slice (some ⟨gl, 0, none⟩) sn cl) 3 1 sn (List.map (Value.int .i64) L), .row (.slice (some ⟨gd, 0, none⟩) pg cd) 4 1 pg (List.map Value.bool D), .row (.slice (some ⟨gs, 0, none⟩) ns cs) 3 1 ns (List.map (Value.int .i64) S)] (by kernel_rfl))) fun v5 H => x_b H [.m, .m, .m, .m, .m] <| x_nil <| x_then <| x_seq ?_
  refine x_region <| x_b H [.m, .m, .m, .m, .m, .m, .m, .m, .m, .m] ?_
  have HJ2 := hJ _ _ _ none hJ1 (below_grown H.below) (fun r e => by cases e)
  refine x_yield (hY _ ((linL y r b o c S j ((Rp.cnt b o c j) - j.2.2.2).toNat).getD k (0, 0)) _ HJ2 (by rw [List.length_take]; omega)) (by kernel_rfl) (by rfl) (by rw [linL_get _ _ _ _ _ _ _ (by omega), ← hiv]; kernel_rfl) ?_
  rintro e v2 (⟨rfl, hJ3, hKp⟩ | ⟨rfl, hJx3⟩)
  · skip
    refine ⟨_, rfl, ?_⟩
    have R3 := hKp (H.ro R0)
    clear H
    have H := Hs.nil v2
    refine x_b H [.m, .m] <| x_nil <| x_then <| x_f (by kernel_rfl) <| x_skipc <| x_blk <| x_then ?_
    refine x_region <| x_b H [.m] <| z_ar (iv + 1) <| x_b H [.m] <| x_nil <| x_then ?_
    exact ⟨(k + 1, iv + 1, v2), (by dsimp only; omega), _, frm_of, H, (by omega), (by omega), (by rw [takeNext _ _ k (by omega)]; exact hJ3), R3⟩
  · skip
    refine ⟨_, rfl, ?_⟩
    clear H
    have H := Hs.nil v2
    refine x_b H [.m, .m] <| x_nil <| x_then <| x_t (by kernel_rfl) <| x_retc <| x_blk_ret <| x_then_ret ?_
    refine x_then_ret <| x_blk_ret <| x_ret (.tuple #[]) (by kernel_rfl) (by kernel_rfl) ?_
    exact ⟨⟨_, rfl⟩, .inr ⟨_, by rw [← takeNext _ _ k (by omega)]; exact List.take_prefix _ _, hJx3⟩⟩)
end Go.Proofs.Ytpmnnijjohlloaa
