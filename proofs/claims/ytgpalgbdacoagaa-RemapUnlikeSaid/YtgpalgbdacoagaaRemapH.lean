/- Contracts for RemapUnlike: has, At, Spare, Dead at any number. -/
import Derived.Test.YtgpalgbdacoagaaRemapG
namespace Go.Proofs.Ytgpalgbdacoagaa
open Go Go.RowKit
set_option linter.unusedVariables false
set_option linter.unusedSimpArgs false

theorem e_and (x m M : Int) (k : Nat) (hm : m = 2 ^ k - 1) (hM : (2 : Int) ^ k = M) (hk : k ≤ 63) (h0 : 0 ≤ x) (h1 : x ≤ 9223372036854775807) : Value.int .i64 (bits .and .i64 x m) = .int .i64 (x % M) := by
  rw [hm, bits_mask IntKind.i64 63 (by decide) (fun n h0 h1 => by rw [IntKind.wrap_i64]; omega) k hk x h0 (by omega), hM]

set_option maxRecDepth 100000 in
set_option maxHeartbeats 1000000 in
theorem has_row (g n cap : Nat) (l : List Int) (x : Int) (hl : l.length = n) (hn : n ≤ 4096) (hx : ∀ k, k < n → ¬ x = l.getD k 0) (w0 : World) (hR : Ro w0 [.row (.slice (some ⟨g, 0, none⟩) n cap) 3 1 n (List.map (Value.int .i64) l)]) :
    Calls Try.prog 59 #[.slice (some ⟨g, 0, none⟩) n cap, .int .i64 x] w0 fun e w' => e = .returned (.bool false) ∧ Below w0.heap.size w0 w' := by
  refine x_enter Try.func59 rfl #[.slice (some ⟨g, 0, none⟩) n cap, .int .i64 x, undef, undef, undef, undef, undef, undef, undef, undef, undef, undef, undef, undef, undef, undef, undef] (by kernel_rfl) ?_
  have H := Hs.nil w0
  have R0 := hR
  refine x_seq ?_
  refine x_region ?_
  refine x_val (.bool false) (by kernel_rfl) rfl (by kernel_rfl) ?_
  refine x_nil ?_
  refine x_then ?_
  refine x_seq ?_
  refine x_seq ?_
  refine x_region ?_
  refine x_val (.slice (some ⟨g, 0, none⟩) n cap) (by kernel_rfl) rfl (by kernel_rfl) ?_
  refine x_val (.int .i64 ((n : Nat) : Int)) (by kernel_rfl) rfl (by kernel_rfl) ?_
  refine x_val (.int .i64 0) (by kernel_rfl) rfl (by kernel_rfl) ?_
  refine x_nil ?_
  refine x_then ?_
  refine x_block ?_
  refine x_loop (G := Nat) (fun (k : Nat) a w' => ∃ u4 : Value, ∃ u6 : Value, ∃ u10 : Value, ∃ u11 : Value, ∃ u12 : Value, ∃ u13 : Value, ∃ u14 : Value, ∃ u15 : Value, ∃ u16 : Value, a = { tmps := #[.slice (some ⟨g, 0, none⟩) n cap, .int .i64 x, undef, undef, u4, undef, u6, .slice (some ⟨g, 0, none⟩) n cap, .int .i64 ((n : Nat) : Int), .int .i64 ((k : Nat) : Int), u10, u11, u12, u13, u14, u15, u16], defers := [] } ∧ Hs [] w0 w' [] ∧ (k ≤ n)) (fun (k : Nat) => n - k) 0 ⟨.bool false, undef, undef, undef, undef, undef, undef, undef, undef, (by kernel_rfl), H, (Nat.zero_le _)⟩ ?_
  clear H
  rintro k _ v1 ⟨u4, u6, u10, u11, u12, u13, u14, u15, u16, rfl, H, r1⟩
  refine x_seq ?_
  refine x_region ?_
  refine x_val (.bool (decide (((k : Nat) : Int) < ((n : Nat) : Int)))) (by kernel_rfl) rfl (by kernel_rfl) ?_
  refine x_nil ?_
  refine x_then ?_
  refine x_seq ?_
  cases h1 : decide (((k : Nat) : Int) < ((n : Nat) : Int))
  · skip
    have h1p := of_decide_eq_false h1
    refine x_f (by kernel_rfl) ?_
    refine x_exit ?_
    refine x_then_exit ?_
    refine x_then_exit ?_
    refine x_blk_exit ?_
    refine x_then ?_
    refine x_seq ?_
    refine x_region ?_
    refine x_val (.bool false) (by kernel_rfl) rfl (by kernel_rfl) ?_
    refine x_nil ?_
    refine x_then ?_
    refine x_retc ?_
    refine x_ret (.bool false) (by kernel_rfl) (by kernel_rfl) ?_
    exact ⟨rfl, H.below⟩
  · skip
    have h1p := of_decide_eq_true h1
    refine x_t (by kernel_rfl) ?_
    refine x_skipc ?_
    refine x_then ?_
    refine x_seq ?_
    refine x_block ?_
    refine x_seq ?_
    refine x_region ?_
    refine x_ix (t := 106) g 0 k n cap 3 1 k (by omega) (by omega) (by kernel_rfl) (by kernel_rfl) (by kernel_rfl) rfl (by kernel_rfl) ?_
    refine x_loadc g k (.int .i64 (l.getD k 0)) ((H.ro R0).rowCell 0 rfl k (mapAt 0 (by omega))) (by kernel_rfl) rfl (by kernel_rfl) ?_
    refine x_val (.int .i64 (l.getD k 0)) (by kernel_rfl) rfl (by kernel_rfl) ?_
    refine x_nil ?_
    refine x_then ?_
    refine x_seq ?_
    refine x_region ?_
    refine x_val (.int .i64 x) (by kernel_rfl) rfl (by kernel_rfl) ?_
    refine x_val (.int .i64 (l.getD k 0)) (by kernel_rfl) rfl (by kernel_rfl) ?_
    refine x_val (.bool (decide (x = (l.getD k 0)))) (by kernel_rfl) rfl (by kernel_rfl) ?_
    refine x_nil ?_
    refine x_then ?_
    cases h2 : decide (x = (l.getD k 0))
    · skip
      have h2p := of_decide_eq_false h2
      refine x_f (by kernel_rfl) ?_
      refine x_skipc ?_
      refine x_blk ?_
      refine x_then ?_
      refine x_region ?_
      refine x_ar (((k : Nat) : Int) + 1) ⟨by omega, by omega⟩ (by kernel_rfl) rfl (by kernel_rfl) ?_
      refine x_val (.int .i64 (((k : Nat) : Int) + 1)) (by kernel_rfl) rfl (by kernel_rfl) ?_
      refine x_nil ?_
      refine x_then ?_
      exact ⟨(k + 1), (by omega), u4, (.int .i64 (l.getD k 0)), (.bool true), (.pointer (some ⟨g, k, none⟩)), (.int .i64 (l.getD k 0)), (.int .i64 x), (.int .i64 (l.getD k 0)), (.bool false), (.int .i64 (((k : Nat) : Int) + 1)), (by kernel_rfl), H, (by omega)⟩
    · skip
      have h2p := of_decide_eq_true h2
      exact absurd (of_decide_eq_true h2) (hx k (by omega))

set_option maxRecDepth 100000 in
set_option maxHeartbeats 1000000 in
theorem has_nil (x : Int) (w0 : World) :
    Calls Try.prog 59 #[.slice none 0 0, .int .i64 x] w0 fun e w' => e = .returned (.bool false) ∧ Below w0.heap.size w0 w' := by
  refine x_enter Try.func59 rfl #[.slice none 0 0, .int .i64 x, undef, undef, undef, undef, undef, undef, undef, undef, undef, undef, undef, undef, undef, undef, undef] (by kernel_rfl) ?_
  have H := Hs.nil w0
  refine x_seq ?_
  refine x_region ?_
  refine x_val (.bool false) (by kernel_rfl) rfl (by kernel_rfl) ?_
  refine x_nil ?_
  refine x_then ?_
  refine x_seq ?_
  refine x_seq ?_
  refine x_region ?_
  refine x_val (.slice none 0 0) (by kernel_rfl) rfl (by kernel_rfl) ?_
  refine x_val (.int .i64 0) (by kernel_rfl) rfl (by kernel_rfl) ?_
  refine x_val (.int .i64 0) (by kernel_rfl) rfl (by kernel_rfl) ?_
  refine x_nil ?_
  refine x_then ?_
  refine x_block ?_
  refine x_loop (G := Unit) (fun (_ : Unit) a w' => ∃ u4 : Value, ∃ u6 : Value, ∃ u10 : Value, ∃ u11 : Value, ∃ u12 : Value, ∃ u13 : Value, ∃ u14 : Value, ∃ u15 : Value, ∃ u16 : Value, a = { tmps := #[.slice none 0 0, .int .i64 x, undef, undef, u4, undef, u6, .slice none 0 0, .int .i64 0, .int .i64 0, u10, u11, u12, u13, u14, u15, u16], defers := [] } ∧ Hs [] w0 w' []) (fun _ => 0) () ⟨.bool false, undef, undef, undef, undef, undef, undef, undef, undef, (by kernel_rfl), H⟩ ?_
  clear H
  rintro _ _ v1 ⟨u4, u6, u10, u11, u12, u13, u14, u15, u16, rfl, H⟩
  refine x_seq ?_
  refine x_region ?_
  refine x_val (.bool false) (by kernel_rfl) rfl (by kernel_rfl) ?_
  refine x_nil ?_
  refine x_then ?_
  refine x_seq ?_
  refine x_f (by kernel_rfl) ?_
  refine x_exit ?_
  refine x_then_exit ?_
  refine x_then_exit ?_
  refine x_blk_exit ?_
  refine x_then ?_
  refine x_seq ?_
  refine x_region ?_
  refine x_val (.bool false) (by kernel_rfl) rfl (by kernel_rfl) ?_
  refine x_nil ?_
  refine x_then ?_
  refine x_retc ?_
  refine x_ret (.bool false) (by kernel_rfl) (by kernel_rfl) ?_
  exact ⟨rfl, H.below⟩

set_option maxRecDepth 100000 in
set_option maxHeartbeats 1000000 in
theorem place_any (i : Int) (h0 : 0 ≤ i) (h1 : i ≤ 9223372036854775807) (w0 : World) :
    Calls Try.prog 115 #[.int .i64 i] w0 fun e w' => e = .returned (.agg #[.int .i64 (i / 1048576), .int .i64 (i / 65536 % 16), .int .i64 (i / 64 % 1024), .int .i64 (i % 64)]) ∧ Below w0.heap.size w0 w' := by
  refine x_enter Try.func115 rfl #[.int .i64 i, undef, undef, undef, undef, undef, undef, undef, undef, undef, undef, undef, undef, undef] (by kernel_rfl) ?_
  have H := Hs.nil w0
  refine x_seq ?_
  refine x_region ?_
  refine x_box H #[.int .i64 0, .int .i64 0, .int .i64 0, .int .i64 0] 113 (by kernel_rfl) rfl (by kernel_rfl) ?_
  clear H
  intro v1 g1 H
  refine x_nil ?_
  refine x_then ?_
  refine x_seq ?_
  refine x_region ?_
  refine x_val (.int .i64 i) (by kernel_rfl) rfl (by kernel_rfl) ?_
  refine x_eq (.int .i64 (i / 1048576)) (e_shr i 1048576 (by decide)) (by kernel_rfl) rfl (by kernel_rfl) ?_
  refine x_val (.int .i64 i) (by kernel_rfl) rfl (by kernel_rfl) ?_
  refine x_eq (.int .i64 (i / 65536)) (e_shr i 65536 (by decide)) (by kernel_rfl) rfl (by kernel_rfl) ?_
  refine x_eq (.int .i64 (i / 65536 % 16)) (e_and _ _ 16 4 rfl rfl (by decide) (by omega) (by omega)) (by kernel_rfl) rfl (by kernel_rfl) ?_
  refine x_val (.int .i64 i) (by kernel_rfl) rfl (by kernel_rfl) ?_
  refine x_eq (.int .i64 (i / 64)) (e_shr i 64 (by decide)) (by kernel_rfl) rfl (by kernel_rfl) ?_
  refine x_eq (.int .i64 (i / 64 % 1024)) (e_and _ _ 1024 10 rfl rfl (by decide) (by omega) (by omega)) (by kernel_rfl) rfl (by kernel_rfl) ?_
  refine x_val (.int .i64 i) (by kernel_rfl) rfl (by kernel_rfl) ?_
  refine x_eq (.int .i64 (i % 64)) (e_and _ _ 64 6 rfl rfl (by decide) (by omega) (by omega)) (by kernel_rfl) rfl (by kernel_rfl) ?_
  refine x_val (.agg #[.int .i64 (i / 1048576), .int .i64 (i / 65536 % 16), .int .i64 (i / 64 % 1024), .int .i64 (i % 64)]) (by kernel_rfl) rfl (by kernel_rfl) ?_
  refine x_store (t := 113) (v := .agg #[.int .i64 (i / 1048576), .int .i64 (i / 65536 % 16), .int .i64 (i / 64 % 1024), .int .i64 (i % 64)]) H 0 g1 0 #[.int .i64 0, .int .i64 0, .int .i64 0, .int .i64 0] #[.int .i64 (i / 1048576), .int .i64 (i / 65536 % 16), .int .i64 (i / 64 % 1024), .int .i64 (i % 64)] 113 [.int .i64 (i / 1048576), .int .i64 (i / 65536 % 16), .int .i64 (i / 64 % 1024), .int .i64 (i % 64)] [.blk g1 #[.int .i64 (i / 1048576), .int .i64 (i / 65536 % 16), .int .i64 (i / 64 % 1024), .int .i64 (i % 64)] 113] (by kernel_rfl) rfl (by kernel_rfl) (by kernel_rfl) (by kernel_rfl) (by kernel_rfl) (by kernel_rfl) (by kernel_rfl) (by kernel_rfl) (by kernel_rfl) ?_
  clear H
  intro v2 H
  refine x_nil ?_
  refine x_frame' { tmps := #[.int .i64 i, undef, .pointer (some ⟨g1, 0, none⟩), .int .i64 i, .int .i64 (i / 1048576), .int .i64 i, .int .i64 (i / 65536), .int .i64 (i / 65536 % 16), .int .i64 i, .int .i64 (i / 64), .int .i64 (i / 64 % 1024), .int .i64 i, .int .i64 (i % 64), .agg #[.int .i64 (i / 1048576), .int .i64 (i / 65536 % 16), .int .i64 (i / 64 % 1024), .int .i64 (i % 64)]], defers := [] } (by kernel_rfl) ?_
  refine x_then ?_
  refine x_retc ?_
  refine x_ret (.agg #[.int .i64 (i / 1048576), .int .i64 (i / 65536 % 16), .int .i64 (i / 64 % 1024), .int .i64 (i % 64)]) (by kernel_rfl) (x_rescell H 0 g1 0 #[.int .i64 (i / 1048576), .int .i64 (i / 65536 % 16), .int .i64 (i / 64 % 1024), .int .i64 (i % 64)] 113 [.int .i64 (i / 1048576), .int .i64 (i / 65536 % 16), .int .i64 (i / 64 % 1024), .int .i64 (i % 64)] (fun x => x) (by kernel_rfl) (by kernel_rfl) (by kernel_rfl)) ?_
  exact ⟨rfl, H.below⟩

set_option maxRecDepth 100000 in
set_option maxHeartbeats 1000000 in
theorem At_in {r s b o c : Int} (hg : geomOk r s b o c = true) (i : Int) (h0 : 0 ≤ i) (h1 : i ≤ 9223372036854775807) (q1 : i / 1048576 < r + s) (q2 : i / 65536 % 16 < b) (q3 : i / 64 % 1024 < o) (q4 : i % 64 < c) (w0 : World) :
    Calls Try.prog 58 #[.agg #[.int .i64 r, .int .i64 s, .int .i64 b, .int .i64 o, .int .i64 c], .int .i64 i] w0 fun e w' => e = .returned (.tuple #[.agg #[.int .i64 (i / 1048576), .int .i64 (i / 65536 % 16), .int .i64 (i / 64 % 1024), .int .i64 (i % 64)], .int .i64 0]) ∧ Below w0.heap.size w0 w' := by
  refine x_enter Try.func58 rfl #[.agg #[.int .i64 r, .int .i64 s, .int .i64 b, .int .i64 o, .int .i64 c], .int .i64 i, undef, undef, undef, undef, undef, undef, undef, undef, undef, undef, undef, undef, undef, undef, undef, undef, undef] (by kernel_rfl) ?_
  have H := Hs.nil w0
  have k0 : (decide (i < 0)) = false := by simp; omega
  obtain ⟨⟨d1, d2⟩, ⟨d3, d4⟩, ⟨d5, d6⟩, ⟨d7, d8⟩, ⟨d9, d10⟩, _⟩ := geom_bd hg
  refine x_seq ?_
  refine x_region ?_
  refine x_box H #[.int .i64 r, .int .i64 s, .int .i64 b, .int .i64 o, .int .i64 c] 67 (by kernel_rfl) rfl (by kernel_rfl) ?_
  clear H
  intro v1 g1 H
  refine x_box H #[.int .i64 0, .int .i64 0, .int .i64 0, .int .i64 0] 113 (by kernel_rfl) rfl (by kernel_rfl) ?_
  clear H
  intro v2 g2 H
  refine x_val (.int .i64 0) (by kernel_rfl) rfl (by kernel_rfl) ?_
  refine x_nil ?_
  refine x_then ?_
  refine x_seq ?_
  refine x_region ?_
  refine x_val (.int .i64 i) (by kernel_rfl) rfl (by kernel_rfl) ?_
  refine x_callB (.agg #[.int .i64 (i / 1048576), .int .i64 (i / 65536 % 16), .int .i64 (i / 64 % 1024), .int .i64 (i % 64)]) H (by kernel_rfl) rfl (by kernel_rfl) (place_any i (by omega) (by omega) _) ?_
  clear H
  intro v3 H
  refine x_box H #[.int .i64 0, .int .i64 0, .int .i64 0, .int .i64 0] 113 (by kernel_rfl) rfl (by kernel_rfl) ?_
  clear H
  intro v4 g3 H
  refine x_store (t := 113) (v := .agg #[.int .i64 (i / 1048576), .int .i64 (i / 65536 % 16), .int .i64 (i / 64 % 1024), .int .i64 (i % 64)]) H 0 g3 0 #[.int .i64 0, .int .i64 0, .int .i64 0, .int .i64 0] #[.int .i64 (i / 1048576), .int .i64 (i / 65536 % 16), .int .i64 (i / 64 % 1024), .int .i64 (i % 64)] 113 [.int .i64 (i / 1048576), .int .i64 (i / 65536 % 16), .int .i64 (i / 64 % 1024), .int .i64 (i % 64)] [.blk g3 #[.int .i64 (i / 1048576), .int .i64 (i / 65536 % 16), .int .i64 (i / 64 % 1024), .int .i64 (i % 64)] 113, .blk g2 #[.int .i64 0, .int .i64 0, .int .i64 0, .int .i64 0] 113, .blk g1 #[.int .i64 r, .int .i64 s, .int .i64 b, .int .i64 o, .int .i64 c] 67] (by kernel_rfl) rfl (by kernel_rfl) (by kernel_rfl) (by kernel_rfl) (by kernel_rfl) (by kernel_rfl) (by kernel_rfl) (by kernel_rfl) (by kernel_rfl) ?_
  clear H
  intro v5 H
  refine x_nil ?_
  refine x_then ?_
  refine x_seq ?_
  refine x_seq ?_
  refine x_region ?_
  refine x_val (.int .i64 i) (by kernel_rfl) rfl (by kernel_rfl) ?_
  refine x_val (.bool (decide (i < 0))) (by kernel_rfl) rfl (by kernel_rfl) ?_
  refine x_val (.bool (decide (i < 0))) (by kernel_rfl) rfl (by kernel_rfl) ?_
  rw [k0]
  refine x_loadn (t := 67) H 2 g1 0 #[.int .i64 r, .int .i64 s, .int .i64 b, .int .i64 o, .int .i64 c] 67 [.int .i64 r, .int .i64 s, .int .i64 b, .int .i64 o, .int .i64 c] (by kernel_rfl) (by kernel_rfl) (by kernel_rfl) rfl (by kernel_rfl) (by kernel_rfl) ?_
  refine x_loadn (t := 113) H 0 g3 0 #[.int .i64 (i / 1048576), .int .i64 (i / 65536 % 16), .int .i64 (i / 64 % 1024), .int .i64 (i % 64)] 113 [.int .i64 (i / 1048576), .int .i64 (i / 65536 % 16), .int .i64 (i / 64 % 1024), .int .i64 (i % 64)] (by kernel_rfl) (by kernel_rfl) (by kernel_rfl) rfl (by kernel_rfl) (by kernel_rfl) ?_
  refine x_callB (.bool true) H (by kernel_rfl) rfl (by kernel_rfl) (Holds_in (rk := i / 1048576) (bk := i / 65536 % 16) (rw := i / 64 % 1024) (cl := i % 64) hg (by omega) (by omega) (by omega) (by omega) _) ?_
  clear H
  intro v6 H
  refine x_val (.bool false) (by kernel_rfl) rfl (by kernel_rfl) ?_
  refine x_val (.bool false) (by kernel_rfl) rfl (by kernel_rfl) ?_
  refine x_nil ?_
  refine x_frame' { tmps := #[.agg #[.int .i64 r, .int .i64 s, .int .i64 b, .int .i64 o, .int .i64 c], .int .i64 i, .pointer (some ⟨g1, 0, none⟩), undef, .pointer (some ⟨g2, 0, none⟩), .int .i64 0, .pointer (some ⟨g3, 0, none⟩), .int .i64 i, .agg #[.int .i64 (i / 1048576), .int .i64 (i / 65536 % 16), .int .i64 (i / 64 % 1024), .int .i64 (i % 64)], .int .i64 i, .bool false, .bool false, .agg #[.int .i64 r, .int .i64 s, .int .i64 b, .int .i64 o, .int .i64 c], .agg #[.int .i64 (i / 1048576), .int .i64 (i / 65536 % 16), .int .i64 (i / 64 % 1024), .int .i64 (i % 64)], .bool true, .bool false, .bool false, undef, undef], defers := [] } (by kernel_rfl) ?_
  refine x_then ?_
  refine x_f (by kernel_rfl) ?_
  refine x_skipc ?_
  refine x_then ?_
  refine x_seq ?_
  refine x_region ?_
  refine x_loadn (t := 113) H 0 g3 0 #[.int .i64 (i / 1048576), .int .i64 (i / 65536 % 16), .int .i64 (i / 64 % 1024), .int .i64 (i % 64)] 113 [.int .i64 (i / 1048576), .int .i64 (i / 65536 % 16), .int .i64 (i / 64 % 1024), .int .i64 (i % 64)] (by kernel_rfl) (by kernel_rfl) (by kernel_rfl) rfl (by kernel_rfl) (by kernel_rfl) ?_
  refine x_store (t := 113) (v := .agg #[.int .i64 (i / 1048576), .int .i64 (i / 65536 % 16), .int .i64 (i / 64 % 1024), .int .i64 (i % 64)]) H 1 g2 0 #[.int .i64 0, .int .i64 0, .int .i64 0, .int .i64 0] #[.int .i64 (i / 1048576), .int .i64 (i / 65536 % 16), .int .i64 (i / 64 % 1024), .int .i64 (i % 64)] 113 [.int .i64 (i / 1048576), .int .i64 (i / 65536 % 16), .int .i64 (i / 64 % 1024), .int .i64 (i % 64)] [.blk g3 #[.int .i64 (i / 1048576), .int .i64 (i / 65536 % 16), .int .i64 (i / 64 % 1024), .int .i64 (i % 64)] 113, .blk g2 #[.int .i64 (i / 1048576), .int .i64 (i / 65536 % 16), .int .i64 (i / 64 % 1024), .int .i64 (i % 64)] 113, .blk g1 #[.int .i64 r, .int .i64 s, .int .i64 b, .int .i64 o, .int .i64 c] 67] (by kernel_rfl) rfl (by kernel_rfl) (by kernel_rfl) (by kernel_rfl) (by kernel_rfl) (by kernel_rfl) (by kernel_rfl) (by kernel_rfl) (by kernel_rfl) ?_
  clear H
  intro v7 H
  refine x_val (.int .i64 0) (by kernel_rfl) rfl (by kernel_rfl) ?_
  refine x_nil ?_
  refine x_then ?_
  refine x_retc ?_
  refine x_ret (.tuple #[.agg #[.int .i64 (i / 1048576), .int .i64 (i / 65536 % 16), .int .i64 (i / 64 % 1024), .int .i64 (i % 64)], .int .i64 0]) (by kernel_rfl) (x_rescell H 1 g2 0 #[.int .i64 (i / 1048576), .int .i64 (i / 65536 % 16), .int .i64 (i / 64 % 1024), .int .i64 (i % 64)] 113 [.int .i64 (i / 1048576), .int .i64 (i / 65536 % 16), .int .i64 (i / 64 % 1024), .int .i64 (i % 64)] (fun x => .tuple #[x, .int .i64 0]) (by kernel_rfl) (by kernel_rfl) (by kernel_rfl)) ?_
  exact ⟨rfl, H.below⟩

end Go.Proofs.Ytgpalgbdacoagaa
