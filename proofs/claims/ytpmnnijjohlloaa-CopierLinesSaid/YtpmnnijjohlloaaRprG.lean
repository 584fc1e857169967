/- Contracts: an index's place, a rank's lines. -/
import Derived.Test.YtpmnnijjohlloaaRprS
import Derived.Test.YtpmnnijjohlloaaPxZ
namespace Go.Proofs.Ytpmnnijjohlloaa
open Go Go.RowKit
set_option linter.unusedVariables false
set_option linter.unusedSimpArgs false
theorem e_andM (x m M : Int) (k : Nat) (hm : m = 2 ^ k - 1) (hM : (2 : Int) ^ k = M) (hk : k ≤ 63) (h0 : 0 ≤ x) (h1 : x ≤ 9223372036854775807) : Value.int .i64 (bits .and .i64 x m) = .int .i64 (x % M) := by
  rw [hm, bits_mask IntKind.i64 63 (by decide) (fun n h0 h1 => by rw [IntKind.wrap_i64]; omega) k hk x h0 (by omega), hM]
set_option maxRecDepth 100000 in
set_option maxHeartbeats 4000000 in
theorem place_any (i : Int) (h0 : 0 ≤ i) (h1 : i ≤ 9223372036854775807) (w0 : World) :
    Calls Try.prog 134 #[.int .i64 i] w0 fun e w' => e = .returned (.agg #[.int .i64 (i / 1048576), .int .i64 (i / 65536 % 16), .int .i64 (i / 64 % 1024), .int .i64 (i % 64)]) ∧ Below w0.heap.size w0 w' := by
  refine z_enter Try.func134 rfl ?_
  have H := Hs.nil w0
  refine x_seq <| x_region <| z_box H #[.int .i64 0, .int .i64 0, .int .i64 0, .int .i64 0] 171 (fun v1 g1 H => ?_)
  refine x_nil <| x_then <| x_seq <| x_region <| x_b H [.m] <| x_eq (.int .i64 (i / 1048576)) (e_shr i 1048576 (by decide)) (by kernel_rfl) rfl (by kernel_rfl) <| x_b H [.m] ?_
  refine x_eq (.int .i64 (i / 65536)) (e_shr i 65536 (by decide)) (by kernel_rfl) rfl (by kernel_rfl) <| x_eq (.int .i64 (i / 65536 % 16)) (e_andM _ _ 16 4 rfl rfl (by decide) (by omega) (by omega)) (by kernel_rfl) rfl (by kernel_rfl) <| x_b H [.m] <| x_eq (.int .i64 (i / 64)) (e_shr i 64 (by decide)) (by kernel_rfl) rfl (by kernel_rfl) <| x_eq (.int .i64 (i / 64 % 1024)) (e_andM _ _ 1024 10 rfl rfl (by decide) (by omega) (by omega)) (by kernel_rfl) rfl (by kernel_rfl) <| x_b H [.m] <| x_eq (.int .i64 (i % 64)) (e_andM _ _ 64 6 rfl rfl (by decide) (by omega) (by omega)) (by kernel_rfl) rfl (by kernel_rfl) ?_
  refine x_b H [.m] <| z_store H 0 0 [.int .i64 (i / 1048576), .int .i64 (i / 65536 % 16), .int .i64 (i / 64 % 1024), .int .i64 (i % 64)] (fun v2 H => ?_)
  refine x_nil <| x_then <| x_retc <| x_ret (.agg #[.int .i64 (i / 1048576), .int .i64 (i / 65536 % 16), .int .i64 (i / 64 % 1024), .int .i64 (i % 64)]) (by kernel_rfl) (x_rescell H 0 g1 0 #[.int .i64 (i / 1048576), .int .i64 (i / 65536 % 16), .int .i64 (i / 64 % 1024), .int .i64 (i % 64)] 171 [.int .i64 (i / 1048576), .int .i64 (i / 65536 % 16), .int .i64 (i / 64 % 1024), .int .i64 (i % 64)] (fun x => x) (by kernel_rfl) (by kernel_rfl) (by kernel_rfl)) ?_
  exact ⟨rfl, H.below⟩
set_option maxRecDepth 100000 in
set_option maxHeartbeats 4000000 in
theorem At_in {r s b o c : Int} (hg : geomOk r s b o c = true) (i : Int) (h0 : 0 ≤ i) (h1 : i ≤ 9223372036854775807) (q1 : i / 1048576 < r + s) (q2 : i / 65536 % 16 < b) (q3 : i / 64 % 1024 < o) (q4 : i % 64 < c) (w0 : World) :
    Calls Try.prog 130 #[.agg #[.int .i64 r, .int .i64 s, .int .i64 b, .int .i64 o, .int .i64 c], .int .i64 i] w0 fun e w' => e = .returned (.tuple #[.agg #[.int .i64 (i / 1048576), .int .i64 (i / 65536 % 16), .int .i64 (i / 64 % 1024), .int .i64 (i % 64)], .int .i64 0]) ∧ Below w0.heap.size w0 w' := by
  refine z_enter Try.func130 rfl ?_
  have H := Hs.nil w0
  have k0 : (decide (i < 0)) = false := by simp; omega
  obtain ⟨⟨d1, d2⟩, ⟨d3, d4⟩, ⟨d5, d6⟩, ⟨d7, d8⟩, ⟨d9, d10⟩, _⟩ := geom_bd hg
  refine x_seq <| x_region <| z_box H #[.int .i64 r, .int .i64 s, .int .i64 b, .int .i64 o, .int .i64 c] 23 (fun v1 g1 H => ?_)
  refine z_box H #[.int .i64 0, .int .i64 0, .int .i64 0, .int .i64 0] 171 (fun v2 g2 H => ?_)
  refine x_b H [.m] <| x_nil <| x_then <| x_seq <| x_region <| x_b H [.m] <| z_callB (v := .agg #[.int .i64 (i / 1048576), .int .i64 (i / 65536 % 16), .int .i64 (i / 64 % 1024), .int .i64 (i % 64)]) H (place_any i (by omega) (by omega) _) fun v3 H => ?_
  refine z_box H #[.int .i64 0, .int .i64 0, .int .i64 0, .int .i64 0] 171 (fun v4 g3 H => ?_)
  refine z_store H 0 0 [.int .i64 (i / 1048576), .int .i64 (i / 65536 % 16), .int .i64 (i / 64 % 1024), .int .i64 (i % 64)] (fun v5 H => ?_)
  refine x_nil <| x_then <| x_seq <| x_seq <| x_region <| x_b H [.m, .v (.bool (decide (i < 0))), .v (.bool (decide (i < 0)))] ?_
  rw [k0]
  refine x_b H [.n 2 0 5 23, .n 0 0 4 171] <| z_callB (v := .bool true) H (Holds_in (rk := i / 1048576) (bk := i / 65536 % 16) (rw := i / 64 % 1024) (cl := i % 64) hg (by omega) (by omega) (by omega) (by omega) _) fun v6 H => x_b H [.m, .m] <| x_nil <| x_then <| x_f (by kernel_rfl) <| x_skipc ?_
  refine x_then <| x_seq <| x_region <| x_b H [.n 0 0 4 171] <| z_store H 1 0 [.int .i64 (i / 1048576), .int .i64 (i / 65536 % 16), .int .i64 (i / 64 % 1024), .int .i64 (i % 64)] (fun v7 H => ?_)
  refine x_b H [.m] <| x_nil <| x_then <| x_retc <| x_ret (.tuple #[.agg #[.int .i64 (i / 1048576), .int .i64 (i / 65536 % 16), .int .i64 (i / 64 % 1024), .int .i64 (i % 64)], .int .i64 0]) (by kernel_rfl) (x_rescell H 1 g2 0 #[.int .i64 (i / 1048576), .int .i64 (i / 65536 % 16), .int .i64 (i / 64 % 1024), .int .i64 (i % 64)] 171 [.int .i64 (i / 1048576), .int .i64 (i / 65536 % 16), .int .i64 (i / 64 % 1024), .int .i64 (i % 64)] (fun x => .tuple #[x, .int .i64 0]) (by kernel_rfl) (by kernel_rfl) (by kernel_rfl)) ?_
  exact ⟨rfl, H.below⟩
set_option maxRecDepth 100000 in
set_option maxHeartbeats 4000000 in
theorem order_in {r s b o c : Int} (hg : geomOk r s b o c = true) (i : Int) (h0 : 0 ≤ i) (h1 : i ≤ 1000000000) (q1 : i / 1048576 < r + s) (q2 : i / 65536 % 16 < b) (q3 : i / 64 % 1024 < o) (q4 : i % 64 < c) (w0 : World) :
    Calls Try.prog 119 #[.agg #[.int .i64 r, .int .i64 s, .int .i64 b, .int .i64 o, .int .i64 c], .int .i64 i] w0 fun e w' => e = .returned (.int .i64 (ordI o c i)) ∧ Below w0.heap.size w0 w' := by
  refine z_enter Try.func119 rfl ?_
  have H := Hs.nil w0
  obtain ⟨⟨d1, d2⟩, ⟨d3, d4⟩, ⟨d5, d6⟩, ⟨d7, d8⟩, ⟨d9, d10⟩, _⟩ := geom_bd hg
  obtain ⟨u1, u2⟩ := mul_bd (x := i / 65536 % 16) (y := o) (p := 16) (q := 1024) (by omega) (by omega) (by omega) (by omega)
  obtain ⟨u3, u4⟩ := mul_bd (x := i / 65536 % 16 * o + i / 64 % 1024) (y := c) (p := 17408) (q := 64) (by omega) (by omega) (by omega) (by omega)
  refine x_seq <| x_region <| z_box H #[.int .i64 r, .int .i64 s, .int .i64 b, .int .i64 o, .int .i64 c] 23 (fun v1 g1 H => ?_)
  refine x_b H [.m] <| x_nil <| x_then <| x_seq <| x_region <| x_b H [.n 0 0 5 23, .m] <| z_callB (v := .tuple #[.agg #[.int .i64 (i / 1048576), .int .i64 (i / 65536 % 16), .int .i64 (i / 64 % 1024), .int .i64 (i % 64)], .int .i64 0]) H (At_in hg i h0 (by omega) q1 q2 q3 q4 _) fun v2 H => ?_
  refine x_b H [.m, .m, .m] <| z_box H #[.int .i64 0, .int .i64 0, .int .i64 0, .int .i64 0] 171 (fun v3 g2 H => ?_)
  refine z_store H 0 0 [.int .i64 (i / 1048576), .int .i64 (i / 65536 % 16), .int .i64 (i / 64 % 1024), .int .i64 (i % 64)] (fun v4 H => ?_)
  refine x_b H [.m] <| x_nil <| x_then <| x_seq <| x_seq <| x_region <| x_b H [.m, .m] ?_
  refine x_nil <| x_then <| x_f (by kernel_rfl) <| x_skipc <| x_then <| x_seq <| x_region ?_
  refine x_b H [.m, .l 0 1, .m, .l 1 3] <| z_ar ((i / 65536 % 16) * o) <| x_b H [.m, .l 0 2] <| z_ar (((i / 65536 % 16) * o) + (i / 64 % 1024)) <| x_b H [.m, .l 1 4] <| z_ar ((((i / 65536 % 16) * o) + (i / 64 % 1024)) * c) <| x_b H [.m, .l 0 3] ?_
  refine z_ar (((((i / 65536 % 16) * o) + (i / 64 % 1024)) * c) + (i % 64)) <| x_b H [.m] <| x_nil <| x_then <| x_retc <| x_ret (.int .i64 (((((i / 65536 % 16) * o) + (i / 64 % 1024)) * c) + (i % 64))) (by kernel_rfl) (by kernel_rfl) ?_
  exact ⟨by unfold ordI; rfl, H.below⟩
set_option maxRecDepth 100000 in
set_option maxHeartbeats 4000000 in
theorem nth_in {r s b o c : Int} (hg : geomOk r s b o c = true) (rk i : Int) (q1 : 0 ≤ rk ∧ rk < r + s) (h0 : 0 ≤ i) (h1 : i < b * o * c) (w0 : World) :
    Calls Try.prog 120 #[.agg #[.int .i64 r, .int .i64 s, .int .i64 b, .int .i64 o, .int .i64 c], .int .i64 rk, .int .i64 i] w0 fun e w' => e = .returned (.tuple #[.int .i64 (nthI o c rk i), .int .i64 0]) ∧ Below w0.heap.size w0 w' := by
  refine z_enter Try.func120 rfl ?_
  have H := Hs.nil w0
  obtain ⟨⟨d1, d2⟩, ⟨d3, d4⟩, ⟨d5, d6⟩, ⟨d7, d8⟩, ⟨d9, d10⟩, _⟩ := geom_bd hg
  obtain ⟨⟨n1, n2⟩, ⟨n3, n4⟩, ⟨n5, n6⟩, n7⟩ := nth_bd hg h0 h1
  have n9 : i / c ≤ i := Int.ediv_le_self _ h0
  have n8 : i ≤ 8388608 := by have := (mul_bd (x := b * o) (y := c) (p := 16384) (q := 64) (by have := (mul_bd (x := b) (y := o) (p := 16) (q := 1024) (by omega) (by omega) (by omega) (by omega)); omega) (by have := (mul_bd (x := b) (y := o) (p := 16) (q := 1024) (by omega) (by omega) (by omega) (by omega)); omega) (by omega) (by omega)); omega
  refine x_seq <| x_region <| z_box H #[.int .i64 r, .int .i64 s, .int .i64 b, .int .i64 o, .int .i64 c] 23 (fun v1 g1 H => ?_)
  refine x_b H [.m, .m] <| x_nil <| x_then <| x_seq <| x_region <| x_b H [.m, .m, .m, .l 0 4] <| x_rem i c (i % c) rfl (by omega) (by omega) (by kernel_rfl) rfl (by kernel_rfl) ?_
  refine x_b H [.m] <| z_box H #[.int .i64 0, .int .i64 0, .int .i64 0, .int .i64 0] 171 (fun v2 g2 H => ?_)
  refine z_store H 0 0 [.int .i64 rk, .int .i64 0, .int .i64 0, .int .i64 (i % c)] (fun v3 H => ?_)
  refine x_nil <| x_then <| x_seq <| x_region <| x_b H [.m, .m, .l 1 4] <| x_quo i c (i / c) rfl (by omega) ⟨by omega, by omega⟩ (by kernel_rfl) rfl (by kernel_rfl) <| x_b H [.m] ?_
  refine x_nil <| x_then <| x_seq <| z_region_s H 12 [1] <| s_b [(0, .m), (1, .m), (2, .l 0 3)] 9 <| s_y 3 (y_rem (i / c) o ((i / c) % o) rfl (by omega) (by omega) (by kernel_rfl) (fun _ => by kernel_rfl)) <| s_b [(4, .m), (5, .m), (6, .l 0 3)] 5 ?_
  refine s_y 7 (y_quo (i / c) o ((i / c) / o) rfl (by omega) ⟨by omega, by omega⟩ (by kernel_rfl) (fun _ => by kernel_rfl)) <| s_b [(8, .m)] 3 <| s_one 9 rfl (by kernel_rfl) rfl ?_
  clear H
  intro v4 H
  refine z_store H 0 2 [.int .i64 ((i / c) % o)] (fun v5 H => ?_)
  refine x_nil <| x_then <| z_next H [1] [0] rfl <| s_b [(10, .m)] 1 <| s_one 11 rfl (by kernel_rfl) rfl ?_
  clear H
  intro v6 H
  refine z_store H 0 1 [.int .i64 ((i / c) / o)] (fun v7 H => ?_)
  refine x_nil <| x_then <| z_next H [0, 1] [1] rfl <| s_done (by kernel_rfl) ?_
  clear H
  intro v8 H
  refine x_then <| x_seq <| x_region <| x_b H [.n 1 0 5 23, .n 0 0 4 171] <| z_callB (v := .tuple #[.int .i64 (rk * 1048576 + ((i / c) / o) * 65536 + ((i / c) % o) * 64 + (i % c)), .int .i64 0]) H (gIndex_in hg (by omega) (by omega) (by omega) (by omega) _) fun v9 H => x_b H [.m, .m, .m, .m] <| x_nil ?_
  refine x_then <| x_retc <| x_ret (.tuple #[.int .i64 (rk * 1048576 + ((i / c) / o) * 65536 + ((i / c) % o) * 64 + (i % c)), .int .i64 0]) (by kernel_rfl) (by kernel_rfl) ?_
  have e : rk * 1048576 + ((i / c) / o) * 65536 + ((i / c) % o) * 64 + (i % c) = nthI o c rk i := by unfold nthI; omega
  exact ⟨by rw [e], H.below⟩
end Go.Proofs.Ytpmnnijjohlloaa
