/- The law RemapPlays, walked. -/
import Derived.Test.YtpmnnijjohlloaaRemapX
import Derived.Test.YtpmnnijjohlloaaRemapY
import Derived.Test.YtpmnnijjohlloaaRemapD
import Derived.Test.YtpmnnijjohlloaaRemapE
import Derived.Test.YtpmnnijjohlloaaRat3
import Derived.Test.YtpmnnijjohlloaaPxZ
namespace Go.Proofs.Ytpmnnijjohlloaa
open Go Go.RowKit
set_option linter.unusedVariables false
set_option linter.unusedSimpArgs false

set_option maxRecDepth 100000 in
set_option maxHeartbeats 4000000 in
theorem Seen_no (r s b o c y z : Int) (hbd : r ≤ 9223372036854775807 ∧ b ≤ 9223372036854775807 ∧ o ≤ 9223372036854775807 ∧ c ≤ 9223372036854775807) (hok : layoutOk r s b o c y z = false) (w0 : World) :
    Calls Try.prog 17 #[.agg #[.int .i64 r, .int .i64 s, .int .i64 b, .int .i64 o, .int .i64 c, .int .i64 y, .int .i64 z]] w0 fun e w' => e = .returned (.int .i64 0) ∧ Below w0.heap.size w0 w' := by
  refine z_enter Try.func17 rfl ?_
  have H := Hs.nil w0
  obtain ⟨hb1, hb2, hb3, hb4⟩ := id hbd
  refine x_seq <| x_region <| z_box H #[.int .i64 r, .int .i64 s, .int .i64 b, .int .i64 o, .int .i64 c, .int .i64 y, .int .i64 z] 25 (fun v1 g1 H => ?_)
  refine x_b H [.m] <| x_nil <| x_then <| x_seq <| x_seq <| x_region <| x_b H [.n 0 0 7 25] ?_
  refine z_callB (v := .bool (layoutOk r s b o c y z)) H (lRight_any _ _ _ _ _ _ _ (by omega) (by omega) (by omega) (by omega) _) fun v2 H => x_b H [.v (.bool (!(layoutOk r s b o c y z)))] <| x_nil <| x_then ?_
  rw [hok]
  refine x_t (by kernel_rfl) <| x_seq <| x_region <| x_b H [.m] <| x_nil <| x_then <| x_retc ?_
  refine x_then_ret <| x_ret (.int .i64 0) (by kernel_rfl) (by kernel_rfl) ?_
  exact ⟨rfl, H.below⟩

set_option maxRecDepth 100000 in
set_option maxHeartbeats 4000000 in
theorem Lines_no (r s b o c y z : Int) (hbd : r ≤ 9223372036854775807 ∧ b ≤ 9223372036854775807 ∧ o ≤ 9223372036854775807 ∧ c ≤ 9223372036854775807) (hok : layoutOk r s b o c y z = false) (w0 : World) :
    Calls Try.prog 23 #[.agg #[.int .i64 r, .int .i64 s, .int .i64 b, .int .i64 o, .int .i64 c, .int .i64 y, .int .i64 z]] w0 fun e w' => e = .returned (.int .i64 0) ∧ Below w0.heap.size w0 w' := by
  refine z_enter Try.func23 rfl ?_
  have H := Hs.nil w0
  obtain ⟨hb1, hb2, hb3, hb4⟩ := id hbd
  refine x_seq <| x_region <| z_box H #[.int .i64 r, .int .i64 s, .int .i64 b, .int .i64 o, .int .i64 c, .int .i64 y, .int .i64 z] 25 (fun v1 g1 H => ?_)
  refine x_b H [.m] <| x_nil <| x_then <| x_seq <| z_region_whole H <| q_b [.n 0 0 7 25] <| q_callB (.int .i64 0) (by kernel_rfl) (fun _ => by kernel_rfl) (fun _ => (Seen_no r s b o c y z hbd hok _)) ?_
  refine q_b [.m, .m, .l 0 4] <| q_ar (0 * c) ⟨by omega, by omega⟩ (by kernel_rfl) (fun _ => by kernel_rfl) <| q_b [.m] <| q_nil ?_
  clear H
  intro v2 H
  refine x_then <| x_retc <| x_ret (.int .i64 (0 * c)) (by kernel_rfl) (by kernel_rfl) ?_
  exact ⟨by rw [show 0 * c = (0 : Int) by rw [Int.zero_mul]], H.below⟩

set_option maxRecDepth 100000 in
set_option maxHeartbeats 4000000 in
theorem rplays_no (r s b o c y z : Int) (ad : Option Addr) (nA cA : Nat) (line : Int) (hbd : r ≤ 9223372036854775807 ∧ b ≤ 9223372036854775807 ∧ o ≤ 9223372036854775807 ∧ c ≤ 9223372036854775807) (hok : layoutOk r s b o c y z = false) (w0 : World) :
    Calls Try.prog 4 #[.agg #[.int .i64 r, .int .i64 s, .int .i64 b, .int .i64 o, .int .i64 c, .int .i64 y, .int .i64 z], .slice ad nA cA, .int .i64 line] w0 fun e w' => e = .returned (.bool true) ∧ Below w0.heap.size w0 w' := by
  refine z_enter Try.func4 rfl ?_
  have H := Hs.nil w0
  obtain ⟨hb1, hb2, hb3, hb4⟩ := id hbd
  refine x_seq <| x_region <| z_box H #[.int .i64 r, .int .i64 s, .int .i64 b, .int .i64 o, .int .i64 c, .int .i64 y, .int .i64 z] 25 (fun v1 g1 H => ?_)
  refine x_b H [.m] <| x_nil <| x_then <| x_seq <| x_seq <| x_region <| z_callB H (anchor19 _) fun v2 H => ?_
  refine x_b H [.m] <| x_nil <| x_then <| x_f (by kernel_rfl) <| x_skipc <| x_then <| x_seq ?_
  refine x_seq <| x_region <| x_b H [.n 0 0 7 25] <| z_call (small_any r s b o c y z (by omega) (by omega) (by omega) (by omega) _) ?_
  rintro _ v3 ⟨tS, rfl, hB⟩
  refine ⟨_, rfl, ?_⟩
  replace H := H.via hB
  clear hB
  refine x_b H [.v (.bool (!tS)), .v (.bool (!tS))] ?_
  cases h1 : tS
  · skip
    refine x_b H [.k, .k, .k, .m] <| x_nil <| x_then <| x_t (by kernel_rfl) <| x_seq <| x_region <| x_b H [.m] ?_
    refine x_nil <| x_then <| x_retc <| x_then_ret <| x_ret (.bool true) (by kernel_rfl) (by kernel_rfl) ?_
    exact ⟨rfl, H.below⟩
  refine x_b H [.m, .m, .v (.bool (decide (30 < (nA : Int)))), .v (.bool (decide (30 < (nA : Int))))] <| x_nil <| x_then ?_
  cases h2 : decide (30 < (nA : Int))
  · skip
    have h2p := of_decide_eq_false h2
    refine x_f (by kernel_rfl) <| x_skipc <| x_then <| x_seq <| x_region <| x_b H [.n 0 0 7 25] <| z_callB H (New_no r s b o c y z hbd hok _) fun v4 H => ?_
    refine x_b H [.m, .m, .m, .m, .m] <| x_nil <| x_then <| x_seq <| x_region <| x_b H [.m, .n 0 0 5 23] <| z_box H #[.int .i64 0, .int .i64 0, .int .i64 0, .int .i64 0, .int .i64 0] 38 (fun v5 g2 H => ?_)
    refine z_store H 0 0 [.int .i64 r, .int .i64 s, .int .i64 b, .int .i64 o, .int .i64 c] (fun v6 H => ?_)
    refine x_nil <| x_then <| x_seq <| x_region <| x_b H [.n 0 0 5 38, .m, .l 1 5, .m, .l 1 6] <| z_callB (v := .bool (layoutOk r s b o c y z)) H (Right19 r s b o c y z _) fun v7 H => x_b H [.v (.bool (layoutOk r s b o c y z))] ?_
    refine x_nil <| x_then <| x_seq <| x_seq <| x_region <| x_b H [.n 1 0 7 25] <| z_callB (v := .bool (layoutOk r s b o c y z)) H (lRight_any _ _ _ _ _ _ _ (by omega) (by omega) (by omega) (by omega) _) fun v8 H => ?_
    refine x_b H [.v (.bool (layoutOk r s b o c y z))] <| x_eq (.bool false) (show Value.bool ((layoutOk r s b o c y z) != (layoutOk r s b o c y z)) = Value.bool false by simp) (by kernel_rfl) rfl (by kernel_rfl) <| x_b H [.m, .v (.bool (layoutOk r s b o c y z)), .v (.bool (!(layoutOk r s b o c y z))), .v (.bool (!(layoutOk r s b o c y z)))] <| x_nil <| x_then ?_
    rw [hok]
    refine x_t (by kernel_rfl) <| x_seq <| x_region <| x_b H [.n 1 0 7 25] <| z_callB (v := .bool (layoutOk r s b o c y z)) H (lRight_any _ _ _ _ _ _ _ (by omega) (by omega) (by omega) (by omega) _) fun v9 H => x_b H [.m, .v (.bool ((layoutOk r s b o c y z) == false)), .v (.bool ((layoutOk r s b o c y z) == false))] ?_
    cases h3 : (layoutOk r s b o c y z) == false
    · skip
      exact absurd h3 (by rw [hok]; decide)
    refine x_b H [.m, .m, .m, .m, .m, .m, .m, .m, .n 1 0 7 25] <| z_callB H (Seen_no r s b o c y z hbd hok _) fun v10 H => x_b H [.m, .m, .m, .n 1 0 7 25] <| z_callB H (Lines_no r s b o c y z hbd hok _) fun v11 H => x_b H [.m, .m, .m] <| x_nil <| z_fr 179 [(6, .bool true)] [] fun uf1 => ?_
    refine x_then <| x_retc <| x_then_ret <| x_ret (.bool true) (by kernel_rfl) (by kernel_rfl) ?_
    exact ⟨rfl, H.below⟩
  have h2p := of_decide_eq_true h2
  refine x_t (by kernel_rfl) <| x_seq <| x_region <| x_b H [.m] <| x_nil <| x_then <| x_retc ?_
  refine x_then_ret <| x_ret (.bool true) (by kernel_rfl) (by kernel_rfl) ?_
  exact ⟨rfl, H.below⟩

theorem MapV.new {r s b o c y z : Int} {pg sn ns : Nat} (hL : Lay r s b o c y z pg sn ns) : MapV r s z sn pg ns (iota sn) (List.replicate pg false) (List.replicate ns (-1)) 0 0 := by
  have hz := hL.z0
  have hs := hL.s0
  have hsn := hL.hsn
  refine ⟨⟨iota_len sn, List.length_replicate, List.length_replicate, by omega, by omega⟩, fun k hk => ?_, fun q hq => .inl ?_⟩
  · rw [iota_get _ _ _ hk]; omega
  · simp [List.getD, hq]

set_option maxRecDepth 100000 in
set_option maxHeartbeats 4000000 in
theorem rplays_yes {r s b o c y z : Int} {pg sn ns : Nat} (hL : Lay r s b o c y z pg sn ns) (ad : Option Addr) (nA cA : Nat) (line : Int) (l : List Int3) (hrg : ∀ k, k < nA → -9223372036854775808 ≤ (l.getD k (0, 0, 0)).2.2 ∧ (l.getD k (0, 0, 0)).2.2 ≤ 9223372036854775807) (w0 : World) (hA : RAt int3L 3 (0, 0, 0) w0 ad nA l) :
    Calls Try.prog 4 #[.agg #[.int .i64 r, .int .i64 s, .int .i64 b, .int .i64 o, .int .i64 c, .int .i64 y, .int .i64 z], .slice ad nA cA, .int .i64 line] w0 fun e w' => e = .returned (.bool true) ∧ Below w0.heap.size w0 w' := by
  refine z_enter Try.func4 rfl ?_
  have H := Hs.nil w0
  have hok := hL.ok
  obtain ⟨-, r1, r8, s0, s8, b1, b2, o1, o2, c1, c2, y0, y4, z0, z2, hpg, hsn, hns, sn1, pg2, ln0, ln2⟩ := id hL
  refine x_seq <| x_region <| z_box H #[.int .i64 r, .int .i64 s, .int .i64 b, .int .i64 o, .int .i64 c, .int .i64 y, .int .i64 z] 25 (fun v1 g1 H => ?_)
  refine x_b H [.m] <| x_nil <| x_then <| x_seq <| x_seq <| x_region <| z_callB H (anchor19 _) fun v2 H => ?_
  refine x_b H [.m] <| x_nil <| x_then <| x_f (by kernel_rfl) <| x_skipc <| x_then <| x_seq ?_
  refine x_seq <| x_region <| x_b H [.n 0 0 7 25] <| z_call (small_any r s b o c y z (by omega) (by omega) (by omega) (by omega) _) ?_
  rintro _ v3 ⟨tS, rfl, hB⟩
  refine ⟨_, rfl, ?_⟩
  replace H := H.via hB
  clear hB
  refine x_b H [.v (.bool (!tS)), .v (.bool (!tS))] ?_
  cases h1 : tS
  · skip
    refine x_b H [.k, .k, .k, .m] <| x_nil <| x_then <| x_t (by kernel_rfl) <| x_seq <| x_region <| x_b H [.m] ?_
    refine x_nil <| x_then <| x_retc <| x_then_ret <| x_ret (.bool true) (by kernel_rfl) (by kernel_rfl) ?_
    exact ⟨rfl, H.below⟩
  refine x_b H [.m, .m, .v (.bool (decide (30 < (nA : Int)))), .v (.bool (decide (30 < (nA : Int))))] <| x_nil <| x_then ?_
  cases h2 : decide (30 < (nA : Int))
  · skip
    have h2p := of_decide_eq_false h2
    refine x_f (by kernel_rfl) <| x_skipc <| x_then <| x_seq <| x_region <| x_b H [.n 0 0 7 25] <| z_call (New_yes hL _) ?_
    rintro _ v4 ⟨p, gl, cl, gd, cd, gs, cs, rfl, hN'⟩
    refine ⟨_, rfl, ?_⟩
    replace H := H.more hN'
    clear hN'
    refine x_b H [.m, .m, .m, .m, .m] <| x_nil <| x_then <| x_seq <| x_region <| x_b H [.m, .n 4 0 5 23] <| z_box H #[.int .i64 0, .int .i64 0, .int .i64 0, .int .i64 0, .int .i64 0] 38 (fun v5 g2 H => ?_)
    refine z_store H 0 0 [.int .i64 r, .int .i64 s, .int .i64 b, .int .i64 o, .int .i64 c] (fun v6 H => ?_)
    refine x_nil <| x_then <| x_seq <| x_region <| x_b H [.n 0 0 5 38, .m, .l 5 5, .m, .l 5 6] <| z_callB (v := .bool (layoutOk r s b o c y z)) H (Right19 r s b o c y z _) fun v7 H => x_b H [.v (.bool (layoutOk r s b o c y z))] ?_
    refine x_nil <| x_then <| x_seq <| x_seq <| x_region <| x_b H [.n 5 0 7 25] <| z_callB (v := .bool (layoutOk r s b o c y z)) H (lRight_any _ _ _ _ _ _ _ (by omega) (by omega) (by omega) (by omega) _) fun v8 H => ?_
    refine x_b H [.v (.bool (layoutOk r s b o c y z))] <| x_eq (.bool false) (show Value.bool ((layoutOk r s b o c y z) != (layoutOk r s b o c y z)) = Value.bool false by simp) (by kernel_rfl) rfl (by kernel_rfl) <| x_b H [.m, .v (.bool (layoutOk r s b o c y z)), .v (.bool (!(layoutOk r s b o c y z))), .v (.bool (!(layoutOk r s b o c y z)))] <| x_nil <| x_then ?_
    rw [hok]
    refine x_f (by kernel_rfl) <| x_skipc <| x_then <| x_seq <| x_seq <| x_region <| x_b H [.m, .m, .m, .m, .m, .m] ?_
    refine x_nil <| z_fr 179 [(1, .slice ad nA cA), (2, .int .i64 line), (3, .pointer (some ⟨g1, 0, none⟩)), (7, .pointer (some ⟨p, 0, none⟩)), (9, .pointer (some ⟨g2, 0, none⟩)), (79, .bool false)] [] fun uf1 => x_then <| x_f (by kernel_rfl) <| x_skipc <| x_then <| x_seq ?_
    refine x_region <| x_b H [.n 0 0 5 38, .m, .l 5 5, .m, .l 5 6] <| z_call (New19 hL _) ?_
    rintro _ v9 ⟨u, cu, rfl, hN'⟩
    refine ⟨_, rfl, ?_⟩
    replace H := H.more hN'
    clear hN'
    refine z_box H #[.int .i64 0, .int .i64 0, .int .i64 0, .int .i64 0, .int .i64 0, .int .i64 0, .int .i64 0, .slice none 0 0, .slice none 0 0, .slice none 0 0, .int .i64 0, .int .i64 0] 43 (fun v10 g3 H => ?_)
    refine z_store H 0 0 [.int .i64 r, .int .i64 s, .int .i64 b, .int .i64 o, .int .i64 c, .int .i64 y, .int .i64 z, .slice (some ⟨u, 0, none⟩) pg cu, .slice none 0 0, .slice none 0 0, .int .i64 ((0 : Nat) : Int), .int .i64 ((0 : Nat) : Int)] (fun v11 H => ?_)
    refine x_nil <| x_then <| x_seq <| x_seq <| z_region_whole H <| q_b [.n 7 0 7 25] <| q_callB (.int .i64 (sn : Int)) (by kernel_rfl) (fun _ => by kernel_rfl) (fun _ => (seen_of hL _)) ?_
    refine q_b [.n 0 0 12 43] <| q_callR (.int .i64 (sn : Int)) (by kernel_rfl) (fun _ => by kernel_rfl) (fun _ H => (Seen19 (pu := 0) (ru := 0) (pv := .slice none 0 0) (kv := .slice none 0 0) hL _ (H.ro1 [1]))) <| q_eq (.bool false) (show Value.bool (!decide ((sn : Int) = (sn : Int))) = Value.bool false by simp) (by kernel_rfl) (fun _ => by kernel_rfl) <| q_b [.m, .n 7 0 7 25] <| q_callB (.int .i64 ((sn : Int) * c)) (by kernel_rfl) (fun _ => by kernel_rfl) (fun _ => (lines_of hL _)) <| q_b [.n 0 0 12 43] <| q_callR (.int .i64 (sn : Int)) (by kernel_rfl) (fun _ => by kernel_rfl) (fun _ H => (Seen19 (pu := 0) (ru := 0) (pv := .slice none 0 0) (kv := .slice none 0 0) hL _ (H.ro1 [1]))) ?_
    refine q_b [.m, .l 2 4] <| q_ar ((sn : Int) * c) ⟨by omega, by omega⟩ (by kernel_rfl) (fun _ => by kernel_rfl) <| q_eq (.bool false) (show Value.bool (!decide (((sn : Int) * c) = ((sn : Int) * c))) = Value.bool false by simp) (by kernel_rfl) (fun _ => by kernel_rfl) <| q_b [.m, .m, .m] <| q_callR (.agg #[.int .i64 r, .int .i64 s, .int .i64 b, .int .i64 o, .int .i64 c, .int .i64 y, .int .i64 z]) (by kernel_rfl) (fun _ => by kernel_rfl) (fun _ H => (Layout_of hL (MapV.new hL).m _ (H.ro1 [3, 4, 5, 6]))) <| q_b [.n 7 0 7 25] ?_
    have h3 : ((decide ((r : Int) = r) && (decide ((s : Int) = s) && (decide ((b : Int) = b) && (decide ((o : Int) = o) && (decide ((c : Int) = c) && true))))) && (decide ((y : Int) = y) && (decide ((z : Int) = z) && true))) = true := by simp
    refine q_val (.bool false) (by kernel_rfl) (fun _ => ((run_neS (t := 25) (x := .tmp 103) (y := .tmp 104) (xs := #[.int .i64 r, .int .i64 s, .int .i64 b, .int .i64 o, .int .i64 c, .int .i64 y, .int .i64 z]) (ys := #[.int .i64 r, .int .i64 s, .int .i64 b, .int .i64 o, .int .i64 c, .int .i64 y, .int .i64 z]) (B := (decide ((r : Int) = r) && (decide ((s : Int) = s) && (decide ((b : Int) = b) && (decide ((o : Int) = o) && (decide ((c : Int) = c) && true))))) && (decide ((y : Int) = y) && (decide ((z : Int) = z) && true))) (by kernel_rfl) (by kernel_rfl) (by kernel_rfl)).trans (by rw [h3]; try rfl))) <| q_b [.m] <| q_nil ?_
    clear H
    intro v12 H
    refine x_then <| x_f (by kernel_rfl) <| x_skipc <| x_then <| x_seq <| x_seq <| x_region ?_
    refine x_b H [.m, .m, .m] <| x_nil <| x_then <| x_block ?_
    replace H := H.nilRow 156 2
    replace H := H.nilRow 156 2
    replace H := H.pk [5, 6, 7, 8, 3, 0, 1, 2, 4, 9]
    refine x_loop (G := Nat × List Int × List Bool × List Int × Nat × Nat × List Ent × List Ent × Value × Value) (fun gh a w' => match gh with | (k, L, D, S, pu, ru, Pg, Rk, pv, kv) => ∃ uf2 : Nat → Value, a = frm 179 uf2 [(2, .int .i64 line), (3, .pointer (some ⟨g1, 0, none⟩)), (7, .pointer (some ⟨p, 0, none⟩)), (11, .pointer (some ⟨g3, 0, none⟩)), (107, .slice ad nA cA), (108, .int .i64 (nA : Int)), (109, .int .i64 (k : Int))] [] ∧ Hs [] w0 w' [.blk p #[.int .i64 r, .int .i64 s, .int .i64 b, .int .i64 o, .int .i64 c, .int .i64 y, .int .i64 z, .slice (some ⟨gl, 0, none⟩) sn cl, .slice (some ⟨gd, 0, none⟩) pg cd, .slice (some ⟨gs, 0, none⟩) ns cs, .int .i64 (pu : Int), .int .i64 (ru : Int)] 118, .row (.slice (some ⟨gl, 0, none⟩) sn cl) 3 1 sn (List.map (Value.int .i64) L), .row (.slice (some ⟨gd, 0, none⟩) pg cd) 4 1 pg (List.map Value.bool D), .row (.slice (some ⟨gs, 0, none⟩) ns cs) 3 1 ns (List.map (Value.int .i64) S), .row (.slice (some ⟨u, 0, none⟩) pg cu) 3 1 pg (List.map (Value.int .i64) (layL y r b o pg)), .row (pv) 156 2 (List.length Pg) (List.flatMap entL Pg), .row (kv) 156 2 (List.length Rk) (List.flatMap entL Rk), .blk g3 #[.int .i64 r, .int .i64 s, .int .i64 b, .int .i64 o, .int .i64 c, .int .i64 y, .int .i64 z, .slice (some ⟨u, 0, none⟩) pg cu, pv, kv, .int .i64 (pu : Int), .int .i64 (ru : Int)] 43, .blk g2 #[.int .i64 r, .int .i64 s, .int .i64 b, .int .i64 o, .int .i64 c] 38, .blk g1 #[.int .i64 r, .int .i64 s, .int .i64 b, .int .i64 o, .int .i64 c, .int .i64 y, .int .i64 z] 25] ∧ (k ≤ nA) ∧ (MapV r s z sn pg ns L D S pu ru) ∧ (DocM pg sn ns L D S Pg Rk) ∧ (Pg.length ≤ k) ∧ (Rk.length ≤ k)) (fun gh => match gh with | (k, L, D, S, pu, ru, Pg, Rk, pv, kv) => nA - k) (0, (iota sn), (List.replicate pg false), (List.replicate ns (-1)), 0, 0, ([] : List Ent), ([] : List Ent), .slice none 0 0, .slice none 0 0) ⟨_, frm_of, H, (Nat.zero_le _), (MapV.new hL), (DocM.new pg sn ns), (Nat.le_refl _), (Nat.le_refl _)⟩ ?_
    clear H
    rintro ⟨k, L, D, S, pu, ru, Pg, Rk, pv, kv⟩ _ v13 ⟨uf2, rfl, H, r1, r2, r3, r4, r5⟩
    have hV := r2
    have hd := r3
    refine x_seq <| x_region <| x_b H [.v (.bool (decide ((k : Int) < (nA : Int))))] <| x_nil <| x_then <| x_seq ?_
    cases h4 : decide ((k : Int) < (nA : Int))
    · skip
      have h4p := of_decide_eq_false h4
      refine x_f (by kernel_rfl) <| x_exit <| x_then_exit <| x_then_exit <| x_blk_exit <| x_then <| x_seq ?_
      refine x_seq <| x_region <| x_b H [.m, .m] ?_
      cases h5 : decide (0 ≤ line ∧ line < (pg : Int))
      · skip
        have h5p := of_decide_eq_false h5
        refine z_callB (v := .tuple #[.int .i64 0, .int .i64 12]) H (by have h := Lies_any hL hV line _ (H.ro1 [0, 1, 2, 3]); unfold liV rngE at h; rw [if_neg h5p, if_neg h5p] at h; exact h) fun v14 H => x_b H [.m, .m, .m, .m, .m] <| x_nil <| x_then <| x_seq <| x_region <| x_b H [.m, .m, .m, .v (.bool (decide (line < 0))), .v (.bool (decide (line < 0)))] ?_
        cases h6 : decide (line < 0)
        · skip
          have h6p := of_decide_eq_false h6
          refine x_b H [.m, .m, .l 7 7, .m, .v (.bool (decide ((pg : Int) ≤ line))), .v (.bool (decide ((pg : Int) ≤ line))), .v (.bool (true != (decide ((pg : Int) ≤ line))))] <| x_nil <| x_then ?_
          cases h7 : true != (decide ((pg : Int) ≤ line))
          · skip
            refine x_f (by kernel_rfl) <| x_skipc <| x_then <| x_seq <| x_region <| x_b H [.m, .m] ?_
            cases h8 : decide (0 ≤ line ∧ line < (sn : Int) * c)
            · skip
              have h8p := of_decide_eq_false h8
              refine z_callB (v := .tuple #[.int .i64 0, .int .i64 0, .int .i64 0, .int .i64 12]) H (by have h := Index_any hL hV line _ (H.ro1 [0, 1, 2, 3]); unfold ixI ixH ixR ixE at h; rw [if_neg h8p, if_neg h8p, if_neg h8p, if_neg h8p] at h; exact h) fun v15 H => x_b H [.m, .m, .m, .m, .m, .m, .m, .m, .m] <| x_nil <| x_then <| x_seq <| x_seq <| x_region ?_
              refine x_b H [.m, .v (.bool (decide (line < 0))), .v (.bool (decide (line < 0)))] ?_
              rw [h6]
              refine x_b H [.m, .n 9 0 7 25] <| z_callB H (lines_of hL _) fun v16 H => x_b H [.v (.bool (decide (((sn : Int) * c) ≤ line))), .v (.bool (decide (((sn : Int) * c) ≤ line)))] <| x_nil <| z_fr 179 [(17, .int .i64 0), (18, .int .i64 0), (19, .int .i64 0), (20, .int .i64 12), (162, .bool (decide (((sn : Int) * c) ≤ line)))] [] fun uf3 => x_then ?_
              cases h9 : decide (((sn : Int) * c) ≤ line)
              · skip
                have h9p := of_decide_eq_false h9
                exfalso; have := h8p; omega
              have h9p := of_decide_eq_true h9
              refine x_t (by kernel_rfl) <| x_seq <| x_region <| x_b H [.m, .m, .m, .m, .m, .m, .m, .m, .m, .m, .m, .m, .m, .m, .m] <| x_nil <| x_then <| x_retc ?_
              refine x_then_ret <| x_ret (.bool true) (by kernel_rfl) (by kernel_rfl) ?_
              exact ⟨rfl, H.below⟩
            have h8p := of_decide_eq_true h8
            refine z_callB (v := .tuple #[.int .i64 (idxP y r b o S (L.getD (line / c).toNat 0) * 64 + line % c), .int .i64 (L.getD (line / c).toNat 0), .int .i64 (pgAt y r b o (L.getD (line / c).toNat 0) / 16384), .int .i64 0]) H (by have h := Index_any hL hV line _ (H.ro1 [0, 1, 2, 3]); unfold ixI ixH ixR ixE at h; rw [if_pos h8p, if_pos h8p, if_pos h8p, if_pos h8p] at h; exact h) fun v17 H => x_b H [.m, .m, .m, .m, .m, .m, .m, .m, .m] <| x_nil <| x_then <| x_seq <| x_seq <| x_region ?_
            refine x_b H [.m, .v (.bool (decide (line < 0))), .v (.bool (decide (line < 0)))] ?_
            rw [h6]
            refine x_b H [.m, .n 9 0 7 25] <| z_callB H (lines_of hL _) fun v18 H => x_b H [.v (.bool (decide (((sn : Int) * c) ≤ line))), .v (.bool (decide (((sn : Int) * c) ≤ line)))] <| x_nil <| z_fr 179 [(17, .int .i64 (idxP y r b o S (L.getD (line / c).toNat 0) * 64 + line % c)), (18, .int .i64 (L.getD (line / c).toNat 0)), (19, .int .i64 (pgAt y r b o (L.getD (line / c).toNat 0) / 16384)), (20, .int .i64 0), (162, .bool (decide (((sn : Int) * c) ≤ line)))] [] fun uf4 => x_then ?_
            cases h10 : decide (((sn : Int) * c) ≤ line)
            · skip
              have h10p := of_decide_eq_false h10
              refine x_f (by kernel_rfl) <| x_skipc <| x_then <| x_seq <| x_region <| x_b H [.m, .m, .m] <| x_nil ?_
              refine x_then <| x_retc <| x_ret (.bool true) (by kernel_rfl) (by kernel_rfl) ?_
              exact ⟨rfl, H.below⟩
            have h10p := of_decide_eq_true h10
            exfalso; have := h8p; omega
          exact absurd h7 (by rw [decide_eq_true (show (pg : Int) ≤ line by have := h5p; omega)]; decide)
        have h6p := of_decide_eq_true h6
        refine x_b H [.k, .k, .k, .k, .k, .m, .m] <| x_nil <| x_then <| x_f (by kernel_rfl) <| x_skipc <| x_then <| x_seq ?_
        refine x_region <| x_b H [.m, .m] ?_
        cases h11 : decide (0 ≤ line ∧ line < (sn : Int) * c)
        · skip
          have h11p := of_decide_eq_false h11
          refine z_callB (v := .tuple #[.int .i64 0, .int .i64 0, .int .i64 0, .int .i64 12]) H (by have h := Index_any hL hV line _ (H.ro1 [0, 1, 2, 3]); unfold ixI ixH ixR ixE at h; rw [if_neg h11p, if_neg h11p, if_neg h11p, if_neg h11p] at h; exact h) fun v19 H => x_b H [.m, .m, .m, .m, .m, .m, .m, .m, .m] <| x_nil <| x_then <| x_seq <| x_seq <| x_region ?_
          refine x_b H [.m, .v (.bool (decide (line < 0))), .v (.bool (decide (line < 0)))] ?_
          rw [h6]
          refine x_b H [.k, .k, .k, .k, .m] <| x_nil <| z_fr 179 [(17, .int .i64 0), (18, .int .i64 0), (19, .int .i64 0), (20, .int .i64 12), (162, .bool true)] [] fun uf5 => x_then <| x_t (by kernel_rfl) <| x_seq <| x_region ?_
          refine x_b H [.m, .m, .m, .m, .m, .m, .m, .m, .m, .m, .m, .m, .m, .m, .m] <| x_nil <| x_then <| x_retc <| x_then_ret <| x_ret (.bool true) (by kernel_rfl) (by kernel_rfl) ?_
          exact ⟨rfl, H.below⟩
        have h11p := of_decide_eq_true h11
        exfalso; have := h11p; have := h6p; omega
      have h5p := of_decide_eq_true h5
      refine z_callB (v := .tuple #[.int .i64 (idxP y r b o S line), .int .i64 0]) H (by have h := Lies_any hL hV line _ (H.ro1 [0, 1, 2, 3]); unfold liV rngE at h; rw [if_pos h5p, if_pos h5p] at h; exact h) fun v20 H => x_b H [.m, .m, .m, .m, .m] <| x_nil <| x_then <| x_seq <| x_region <| x_b H [.m, .m, .m, .v (.bool (decide (line < 0))), .v (.bool (decide (line < 0)))] ?_
      cases h12 : decide (line < 0)
      · skip
        have h12p := of_decide_eq_false h12
        refine x_b H [.m, .m, .l 7 7, .m, .v (.bool (decide ((pg : Int) ≤ line))), .v (.bool (decide ((pg : Int) ≤ line))), .v (.bool (false != (decide ((pg : Int) ≤ line))))] <| x_nil <| x_then ?_
        cases h13 : false != (decide ((pg : Int) ≤ line))
        · skip
          refine x_f (by kernel_rfl) <| x_skipc <| x_then <| x_seq <| x_region <| x_b H [.m, .m] ?_
          cases h14 : decide (0 ≤ line ∧ line < (sn : Int) * c)
          · skip
            have h14p := of_decide_eq_false h14
            refine z_callB (v := .tuple #[.int .i64 0, .int .i64 0, .int .i64 0, .int .i64 12]) H (by have h := Index_any hL hV line _ (H.ro1 [0, 1, 2, 3]); unfold ixI ixH ixR ixE at h; rw [if_neg h14p, if_neg h14p, if_neg h14p, if_neg h14p] at h; exact h) fun v21 H => x_b H [.m, .m, .m, .m, .m, .m, .m, .m, .m] <| x_nil <| x_then <| x_seq <| x_seq <| x_region ?_
            refine x_b H [.m, .v (.bool (decide (line < 0))), .v (.bool (decide (line < 0)))] ?_
            rw [h12]
            refine x_b H [.m, .n 9 0 7 25] <| z_callB H (lines_of hL _) fun v22 H => x_b H [.v (.bool (decide (((sn : Int) * c) ≤ line))), .v (.bool (decide (((sn : Int) * c) ≤ line)))] <| x_nil <| z_fr 179 [(17, .int .i64 0), (18, .int .i64 0), (19, .int .i64 0), (20, .int .i64 12), (162, .bool (decide (((sn : Int) * c) ≤ line)))] [] fun uf6 => x_then ?_
            cases h15 : decide (((sn : Int) * c) ≤ line)
            · skip
              have h15p := of_decide_eq_false h15
              exfalso; have := h14p; omega
            have h15p := of_decide_eq_true h15
            refine x_t (by kernel_rfl) <| x_seq <| x_region <| x_b H [.m, .m, .m, .m, .m, .m, .m, .m, .m, .m, .m, .m, .m, .m, .m] <| x_nil <| x_then <| x_retc ?_
            refine x_then_ret <| x_ret (.bool true) (by kernel_rfl) (by kernel_rfl) ?_
            exact ⟨rfl, H.below⟩
          have h14p := of_decide_eq_true h14
          refine z_callB (v := .tuple #[.int .i64 (idxP y r b o S (L.getD (line / c).toNat 0) * 64 + line % c), .int .i64 (L.getD (line / c).toNat 0), .int .i64 (pgAt y r b o (L.getD (line / c).toNat 0) / 16384), .int .i64 0]) H (by have h := Index_any hL hV line _ (H.ro1 [0, 1, 2, 3]); unfold ixI ixH ixR ixE at h; rw [if_pos h14p, if_pos h14p, if_pos h14p, if_pos h14p] at h; exact h) fun v23 H => x_b H [.m, .m, .m, .m, .m, .m, .m, .m, .m] <| x_nil <| x_then <| x_seq <| x_seq <| x_region ?_
          refine x_b H [.m, .v (.bool (decide (line < 0))), .v (.bool (decide (line < 0)))] ?_
          rw [h12]
          refine x_b H [.m, .n 9 0 7 25] <| z_callB H (lines_of hL _) fun v24 H => x_b H [.v (.bool (decide (((sn : Int) * c) ≤ line))), .v (.bool (decide (((sn : Int) * c) ≤ line)))] <| x_nil <| z_fr 179 [(17, .int .i64 (idxP y r b o S (L.getD (line / c).toNat 0) * 64 + line % c)), (18, .int .i64 (L.getD (line / c).toNat 0)), (19, .int .i64 (pgAt y r b o (L.getD (line / c).toNat 0) / 16384)), (20, .int .i64 0), (162, .bool (decide (((sn : Int) * c) ≤ line)))] [] fun uf7 => x_then ?_
          cases h16 : decide (((sn : Int) * c) ≤ line)
          · skip
            have h16p := of_decide_eq_false h16
            refine x_f (by kernel_rfl) <| x_skipc <| x_then <| x_seq <| x_region <| x_b H [.m, .m, .m] <| x_nil ?_
            refine x_then <| x_retc <| x_ret (.bool true) (by kernel_rfl) (by kernel_rfl) ?_
            exact ⟨rfl, H.below⟩
          have h16p := of_decide_eq_true h16
          exfalso; have := h14p; omega
        exact absurd h13 (by rw [decide_eq_false (show ¬ (pg : Int) ≤ line by have := h5p; omega)]; decide)
      have h12p := of_decide_eq_true h12
      exfalso; have := h5p; omega
    have h4p := of_decide_eq_true h4
    refine x_t (by kernel_rfl) <| x_skipc <| x_then <| x_seq <| x_block <| x_seq <| x_region ?_
    obtain ⟨ga, oa, had, hcell⟩ := hA (by omega)
    refine x_ixO (t := 36) had k nA cA 47 3 (oa + k * 3) (by omega) (by omega) (by kernel_rfl) (by kernel_rfl) (by kernel_rfl) rfl (by kernel_rfl) <| x_loadcn (t := 47) ga (oa + k * 3) [.int .i64 ((l.getD k (0, 0, 0)).1), .int .i64 ((l.getD k (0, 0, 0)).2.1), .int .i64 ((l.getD k (0, 0, 0)).2.2)] (hcell _ H.below k (by omega)) (by kernel_rfl) rfl (by kernel_rfl) (by kernel_rfl) <| z_box H #[.int .i64 0, .int .i64 0, .int .i64 0] 47 (fun v25 g4 H => ?_)
    refine z_store H 0 0 [.int .i64 ((l.getD k (0, 0, 0)).1), .int .i64 ((l.getD k (0, 0, 0)).2.1), .int .i64 ((l.getD k (0, 0, 0)).2.2)] (fun v26 H => ?_)
    refine x_nil <| x_then <| x_seq <| x_region <| x_b H [.m] <| x_nil <| x_then ?_
    refine x_seq <| x_region <| x_b H [.m, .n 8 0 12 43, .n 0 0 3 47] ?_
    have hV1 := hV.step hL (l.getD k (0, 0, 0))
    have hd1 := hd.step hL hV (l.getD k (0, 0, 0))
    have hlp := mvPg_len (sn := sn) (pg := pg) (pu := pu) (D := D) (Pg := Pg) (l.getD k (0, 0, 0))
    have hlr := mvRk_len (r := r) (ns := ns) (ru := ru) (S := S) (Rk := Rk) (l.getD k (0, 0, 0))
    refine z_call (Hs.useE (S := Value × Value) (A := [.blk p #[.int .i64 r, .int .i64 s, .int .i64 b, .int .i64 o, .int .i64 c, .int .i64 y, .int .i64 z, .slice (some ⟨gl, 0, none⟩) sn cl, .slice (some ⟨gd, 0, none⟩) pg cd, .slice (some ⟨gs, 0, none⟩) ns cs, .int .i64 (pu : Int), .int .i64 (ru : Int)] 118, .row (.slice (some ⟨gl, 0, none⟩) sn cl) 3 1 sn (List.map (Value.int .i64) L), .row (.slice (some ⟨gd, 0, none⟩) pg cd) 4 1 pg (List.map Value.bool D), .row (.slice (some ⟨gs, 0, none⟩) ns cs) 3 1 ns (List.map (Value.int .i64) S), .row (.slice (some ⟨u, 0, none⟩) pg cu) 3 1 pg (List.map (Value.int .i64) (layL y r b o pg)), .row (pv) 156 2 (List.length Pg) (List.flatMap entL Pg), .row (kv) 156 2 (List.length Rk) (List.flatMap entL Rk)]) (R := [.blk g4 #[.int .i64 ((l.getD k (0, 0, 0)).1), .int .i64 ((l.getD k (0, 0, 0)).2.1), .int .i64 ((l.getD k (0, 0, 0)).2.2)] 47, .blk g3 #[.int .i64 r, .int .i64 s, .int .i64 b, .int .i64 o, .int .i64 c, .int .i64 y, .int .i64 z, .slice (some ⟨u, 0, none⟩) pg cu, pv, kv, .int .i64 (pu : Int), .int .i64 (ru : Int)] 43, .blk g2 #[.int .i64 r, .int .i64 s, .int .i64 b, .int .i64 o, .int .i64 c] 38, .blk g1 #[.int .i64 r, .int .i64 s, .int .i64 b, .int .i64 o, .int .i64 c, .int .i64 y, .int .i64 z] 25]) (fun zv => [.blk p #[.int .i64 r, .int .i64 s, .int .i64 b, .int .i64 o, .int .i64 c, .int .i64 y, .int .i64 z, .slice (some ⟨gl, 0, none⟩) sn cl, .slice (some ⟨gd, 0, none⟩) pg cd, .slice (some ⟨gs, 0, none⟩) ns cs, .int .i64 (((mvPu z pu (l.getD k (0, 0, 0))) : Nat) : Int), .int .i64 (((mvRu s ru (l.getD k (0, 0, 0))) : Nat) : Int)] 118, .row (.slice (some ⟨gl, 0, none⟩) sn cl) 3 1 sn (List.map (Value.int .i64) (mvL sn pg pu D L (l.getD k (0, 0, 0)))), .row (.slice (some ⟨gd, 0, none⟩) pg cd) 4 1 pg (List.map Value.bool (mvD sn pg pu D (l.getD k (0, 0, 0)))), .row (.slice (some ⟨gs, 0, none⟩) ns cs) 3 1 ns (List.map (Value.int .i64) (mvS r ns ru S (l.getD k (0, 0, 0)))), .row (.slice (some ⟨u, 0, none⟩) pg cu) 3 1 pg (List.map (Value.int .i64) (layL y r b o pg)), .row (zv.1) 156 2 (List.length (mvPg sn pg pu D Pg (l.getD k (0, 0, 0)))) (List.flatMap entL (mvPg sn pg pu D Pg (l.getD k (0, 0, 0)))), .row (zv.2) 156 2 (List.length (mvRk r ns ru S Rk (l.getD k (0, 0, 0)))) (List.flatMap entL (mvRk r ns ru S Rk (l.getD k (0, 0, 0))))]) (fun zv => .tuple #[.agg #[.int .i64 r, .int .i64 s, .int .i64 b, .int .i64 o, .int .i64 c, .int .i64 y, .int .i64 z, .slice (some ⟨u, 0, none⟩) pg cu, zv.1, zv.2, .int .i64 (((mvPu z pu (l.getD k (0, 0, 0))) : Nat) : Int), .int .i64 (((mvRu s ru (l.getD k (0, 0, 0))) : Nat) : Int)], .bool true]) (H.pick [1, 2, 3, 4, 5, 6, 7, 0, 8, 9, 10] _ (by decide) (by kernel_rfl)) (fun h => rstep hL hV hd (by omega) (by omega) (l.getD k (0, 0, 0)) (hrg k (by omega)) _ h)) ?_
    rintro _ v27 ⟨⟨us1, us2⟩, rfl, H'⟩
    refine ⟨_, rfl, ?_⟩
    clear H
    have H := H'
    clear H'
    refine x_b H [.m, .m, .m] ?_
    have h17o := H.rowOne 5 rfl
    have h18o := H.rowOne 6 rfl
    refine z_store H 8 0 [.int .i64 r, .int .i64 s, .int .i64 b, .int .i64 o, .int .i64 c, .int .i64 y, .int .i64 z, .slice (some ⟨u, 0, none⟩) pg cu, us1, us2, .int .i64 (((mvPu z pu (l.getD k (0, 0, 0))) : Nat) : Int), .int .i64 (((mvRu s ru (l.getD k (0, 0, 0))) : Nat) : Int)] (fun v28 H => ?_) (h1 := (by simp only [List.all_cons, List.all_nil, h17o, h18o, Bool.and_true, Bool.true_and] <;> rfl))
    refine x_b H [.m] <| x_nil <| x_then <| x_seq <| x_region <| x_b H [.m, .m, .m, .m, .n 8 0 12 43] <| z_callH (v := .bool true) (H.useI [0, 1, 2, 3, 4, 5, 6] (fun h => rsame hL hV1 hd1 (by omega) (by omega) _ h)) fun v29 H => ?_
    refine x_b H [.m, .m] <| x_nil <| x_then <| x_f (by kernel_rfl) <| x_skipc <| x_blk <| x_then ?_
    refine x_region <| z_ar ((k : Int) + 1) <| x_b H [.m] <| x_nil <| x_then ?_
    replace H := H.pk [0, 1, 2, 3, 4, 5, 6, 8, 9, 10]
    exact ⟨(k + 1, (mvL sn pg pu D L (l.getD k (0, 0, 0))), (mvD sn pg pu D (l.getD k (0, 0, 0))), (mvS r ns ru S (l.getD k (0, 0, 0))), (mvPu z pu (l.getD k (0, 0, 0))), (mvRu s ru (l.getD k (0, 0, 0))), (mvPg sn pg pu D Pg (l.getD k (0, 0, 0))), (mvRk r ns ru S Rk (l.getD k (0, 0, 0))), us1, us2), (by dsimp only; omega), _, frm_of, H, (by omega), hV1, hd1, (by omega), (by omega)⟩
  have h2p := of_decide_eq_true h2
  refine x_t (by kernel_rfl) <| x_seq <| x_region <| x_b H [.m] <| x_nil <| x_then <| x_retc ?_
  refine x_then_ret <| x_ret (.bool true) (by kernel_rfl) (by kernel_rfl) ?_
  exact ⟨rfl, H.below⟩

end Go.Proofs.Ytpmnnijjohlloaa
