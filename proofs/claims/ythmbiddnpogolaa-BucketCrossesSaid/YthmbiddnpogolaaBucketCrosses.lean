/- Between two times at which a bucket crosses its level fell below the limit: for every input the Go function BucketCrosses returns true. -/
import Derived.Test.YthmbiddnpogolaaBucketPlain
import Derived.Test.YthmbiddnpogolaaOpen
import Derived.Lib.Hide
namespace Go.Proofs.Ythmbiddnpogolaa.bucketCrosses
open Go.ChangeShapes Go.WideShapes Go.ChangeAt Go.RowKit
set_option linter.unusedVariables false

theorem and1023 (x : Int) : 0 ≤ bits BinOp.and IntKind.i64 x 1023 ∧ bits BinOp.and IntKind.i64 x 1023 ≤ 1023 := by
  have h : ((BitVec.ofInt 64 x) &&& (BitVec.ofInt 64 1023)).toNat ≤ 1023 := by
    rw [BitVec.toNat_and]
    exact Nat.le_trans Nat.and_le_right (by decide)
  have e : bits BinOp.and IntKind.i64 x 1023 = IntKind.i64.wrap (((BitVec.ofInt 64 x) &&& (BitVec.ofInt 64 1023)).toNat : Int) := rfl
  rw [e, IntKind.wrap_i64]
  omega

theorem walk_out (l e : Int) (ad : Option Addr) (len cap : Nat) (h : ruleOk l e = false ∨ ruleOk l e = true ∧ 60 < len) (hm : len ≤ maxLen) (w : World) :
    Calls Try.prog 7 #[.agg #[.int .i64 l, .int .i64 e], .slice ad len cap] w fun e' w' => e' = .returned (.bool true) ∧ Below w.heap.size w w' := by
  unfold maxLen at hm
  rcases h with h | ⟨h, hl⟩
  all_goals
    (try have q : decide (60 < (len : Int)) = true := by simp; omega)
    go_enter Try.func7, Try.ntmps7
    go_wp2_with fail
    refine (anchor15_any _).mono ?_; rintro e' w1 ⟨rfl, hb⟩
    obtain ⟨b0, hb⟩ := out1 hb
    obtain ⟨c_b0_0, c_b0_1, f_b0_0, f_b0_1⟩ := cells2 b0
    have y_b0 := lt_blk b0
    go_wp2_with fail
    refine (rule_any _ _ _).mono ?_; rw [h]; rintro e' w2 ⟨rfl, hb2⟩
    clear c_b0_0 f_b0_0 c_b0_1 f_b0_1 y_b0
    replace b0 := blkKeep b0 hb2
    replace hb := belowKeep hb hb2
    go_wp2
    go_ret
    exact ⟨rfl, hb⟩

def at0 (ad : Option Addr) (w : World) (len : Nat) (zs : List Int) : Prop :=
  0 < len → ∃ b off, ad = some ⟨b, off, none⟩ ∧ b < w.heap.size ∧ (∀ i, i < len → w.cell? ⟨b, off + i, none⟩ = some (.int .i64 (zs.getD i 0))) ∧ ∀ i, i < len → zs.getD i 0 ≤ 9223372036854775807

theorem le_ticks {v a l e t : Int} (h : bOk v a l e = true) (ht : 0 ≤ t) : ticksL v a l e t ≤ v ∧ bOk (ticksL v a l e t) (ticksA v a l e t) l e = true := by
  obtain ⟨n, rfl⟩ := Int.eq_ofNat_of_zero_le ht
  exact ⟨ticks_le h n, ticks_ok h n⟩

theorem fill_ok {v a l e n : Int} (h : bOk v a l e = true) (hn : 0 ≤ n) : bOk (min (v + n) 65536) a l e = true := by
  obtain ⟨⟨⟨l0, l1⟩, e0, e1⟩, ⟨v0, v1⟩, a0, a1⟩ := bOk_iff.1 h
  exact bOk_iff.2 ⟨⟨⟨l0, l1⟩, e0, e1⟩, ⟨by omega, by omega⟩, a0, a1⟩

set_option maxRecDepth 100000 in
set_option maxHeartbeats 4000000 in
theorem walk_in (l e : Int) (ad : Option Addr) (len cap : Nat) (zs : List Int) (h : ruleOk l e = true) (hlen : len ≤ 60) (w : World) (hz : at0 ad w len zs) :
    Calls Try.prog 7 #[.agg #[.int .i64 l, .int .i64 e], .slice ad len cap] w fun e' w' => e' = .returned (.bool true) ∧ Below w.heap.size w w' := by
  have q : decide (60 < (len : Int)) = false := by simp; omega
  go_enter Try.func7, Try.ntmps7
  go_wp2_with fail
  refine (anchor15_any _).mono ?_; rintro e' w1 ⟨rfl, hb⟩
  obtain ⟨b0, hb⟩ := out1 hb
  obtain ⟨c_b0_0, c_b0_1, f_b0_0, f_b0_1⟩ := cells2 b0
  have y_b0 := lt_blk b0
  go_wp2_with fail
  refine (rule_any _ _ _).mono ?_; rw [h]; rintro e' w2 ⟨rfl, hb2⟩
  clear c_b0_0 f_b0_0 c_b0_1 f_b0_1 y_b0
  replace b0 := blkKeep b0 hb2
  replace hb := belowKeep hb hb2
  have z0 := lt_blk b0
  replace b0 := blkPast b0 (.cells #[.int .i64 0, .int .i64 0] 37)
  have b1 := blk0 w2 (.cells #[.int .i64 0, .int .i64 0] 37)
  replace hb := hb.alloc hb.size (.cells #[.int .i64 0, .int .i64 0] 37)
  go_wp2
  generalize hw4 : w2.alloc (.cells #[.int .i64 0, .int .i64 0] 37) = w4 at *
  generalize hg : w2.heap.size = g at *
  clear hw4
  have hl1 : 1 ≤ l := by simp [ruleOk, inB] at h; omega
  have hok0 : bOk 0 0 l e = true := by rw [bOk00]; exact h
  go_loopw [6, 23] (fun hi i wr => ∃ (k : Nat) (v a : Int), k ≤ len ∧ i = .int .i64 k ∧ hi = .bool (decide (l ≤ v)) ∧ bOk v a l e = true ∧ Below w.heap.size w wr ∧
      wr.heap[w.heap.size]? = some (.cells #[.int .i64 l, .int .i64 e] 35 (0, 0)) ∧ wr.heap[g]? = some (.cells #[.int .i64 v, .int .i64 a] 37 (0, 0)))
    (fun _ i _ => len - (intOf i).toNat)
  case atStart =>
    have : decide (l ≤ (0 : Int)) = false := by simp; omega
    exact ⟨0, 0, 0, Nat.zero_le _, rfl, by rw [this], hok0, hb, b0, b1⟩
  case round =>
    obtain ⟨k, v, a, hk, rfl, rfl, hok, hb, b0, b1⟩ := hrel
    obtain ⟨-, ⟨v0, v1⟩, a0, a1⟩ := bOk_iff.1 hok
    by_cases hlt : k < len
    · obtain ⟨ba, off, rfl, hba, hcell, hmax⟩ := hz (by omega)
      have hc := (hb.cell (p := ⟨ba, off + k, none⟩) hba).trans (hcell k hlt)
      have hmx := hmax k hlt
      generalize zs.getD k 0 = z at hc hmx
      clear hcell hmax
      by_cases hneg : z < 0
      · obtain ⟨m0, m1⟩ := and1023 z
        obtain ⟨T, HT⟩ : ∃ T, Hid (bits BinOp.and IntKind.i64 z 1023 = T) := ⟨_, rfl⟩
        rw [HT.out] at m0 m1
        have hT := HT.out
        obtain ⟨t1, t2⟩ := le_ticks hok (show 0 ≤ 1 + T by omega)
        obtain ⟨V1, E1⟩ : ∃ V, Hid (ticksL v a l e (1 + T) = V) := ⟨_, rfl⟩
        obtain ⟨A1, E2⟩ : ∃ A, Hid (ticksA v a l e (1 + T) = A) := ⟨_, rfl⟩
        rw [E1.out, E2.out] at t2
        rw [E1.out] at t1
        obtain ⟨c_b0_0, c_b0_1, f_b0_0, f_b0_1⟩ := cells2 b0
        have y_b0 := lt_blk b0
        obtain ⟨c_b1_0, c_b1_1, f_b1_0, f_b1_1⟩ := cells2 b1
        have y_b1 := lt_blk b1
        by_cases hlv : l ≤ v
        · have d1 : decide (l ≤ v) = true := by simpa using hlv
          go_wp2_with fail
          refine (bticks_any _ _ _ _ _ (by omega) _).mono ?_; rw [E1.out, E2.out]; rintro e' w6 ⟨rfl, hb6⟩
          clear c_b0_0 f_b0_0 c_b0_1 f_b0_1 y_b0 c_b1_0 f_b1_0 c_b1_1 f_b1_1 y_b1
          replace b0 := blkKeep b0 hb6
          replace b1 := blkKeep b1 hb6
          replace hb := belowKeep hb hb6
          obtain ⟨c_b0_0, c_b0_1, f_b0_0, f_b0_1⟩ := cells2 b0
          have y_b0 := lt_blk b0
          obtain ⟨c_b1_0, c_b1_1, f_b1_0, f_b1_1⟩ := cells2 b1
          have y_b1 := lt_blk b1
          go_wp2
          go_roundw
          case rel => exact ⟨k + 1, V1, A1, by omega, by go_num, rfl, t2, put2b hb (by omega) _ _, put2o b0 (by omega) _ _, put2 b1 _ _⟩
          case measure => simp [intOf]; omega
        · have d1 : decide (l ≤ v) = false := by simpa using hlv
          have d2 : decide (l ≤ V1) = false := by simp; omega
          go_wp2_with fail
          refine (bticks_any _ _ _ _ _ (by omega) _).mono ?_; rw [E1.out, E2.out]; rintro e' w6 ⟨rfl, hb6⟩
          clear c_b0_0 f_b0_0 c_b0_1 f_b0_1 y_b0 c_b1_0 f_b1_0 c_b1_1 f_b1_1 y_b1
          replace b0 := blkKeep b0 hb6
          replace b1 := blkKeep b1 hb6
          replace hb := belowKeep hb hb6
          obtain ⟨c_b0_0, c_b0_1, f_b0_0, f_b0_1⟩ := cells2 b0
          have y_b0 := lt_blk b0
          obtain ⟨c_b1_0, c_b1_1, f_b1_0, f_b1_1⟩ := cells2 b1
          have y_b1 := lt_blk b1
          go_wp2
          go_roundw
          case rel => exact ⟨k + 1, V1, A1, by omega, by go_num, by rw [d2], t2, put2b hb (by omega) _ _, put2o b0 (by omega) _ _, put2 b1 _ _⟩
          case measure => simp [intOf]; omega
      · have hz0 : 0 ≤ z := by omega
        have t2 := fill_ok hok hz0
        obtain ⟨M, E1⟩ : ∃ M, Hid (min (v + z) 65536 = M) := ⟨_, rfl⟩
        rw [E1.out] at t2
        by_cases hlv : l ≤ v
        · have d1 : decide (l ≤ v) = true := by simpa using hlv
          have d2 : (decide (v < l) && decide (l ≤ M)) = false := by simp; omega
          have D2 := Lib.hid d2
          clear d2
          have d3 : l ≤ M := by have := E1.out; omega
          obtain ⟨c_b0_0, c_b0_1, f_b0_0, f_b0_1⟩ := cells2 b0
          have y_b0 := lt_blk b0
          obtain ⟨c_b1_0, c_b1_1, f_b1_0, f_b1_1⟩ := cells2 b1
          have y_b1 := lt_blk b1
          go_wp2_with fail
          refine (bfill_good _ _ _ _ _ hok hz0 hmx _).mono ?_; rw [E1.out, D2.out]; rintro e' w6 ⟨rfl, hb6⟩
          clear c_b0_0 f_b0_0 c_b0_1 f_b0_1 y_b0 c_b1_0 f_b1_0 c_b1_1 f_b1_1 y_b1
          replace b0 := blkKeep b0 hb6
          replace b1 := blkKeep b1 hb6
          replace hb := belowKeep hb hb6
          have z1 := lt_blk b1
          obtain ⟨c_b0_0, c_b0_1, f_b0_0, f_b0_1⟩ := cells2 b0
          have y_b0 := lt_blk b0
          obtain ⟨c_b1_0, c_b1_1, f_b1_0, f_b1_1⟩ := cells2 b1
          have y_b1 := lt_blk b1
          have b2 := blk0 w6 (.cells #[.int .i64 M, .int .i64 a] 37)
          go_wp2
          go_roundw
          case rel => exact ⟨k + 1, M, a, by omega, by go_num, by first | rfl | simp [d3], t2, (put2b hb (by omega) _ _).alloc (by simpa using hb.size) _, blkPast (put2o b0 (by omega) _ _) _, blkPast (put2 b1 _ _) _⟩
          case measure => simp [intOf]; omega
        · have d1 : decide (l ≤ v) = false := by simpa using hlv
          have d2 : (decide (v < l) && decide (l ≤ M)) = decide (l ≤ M) := by simp; omega
          have D2 := Lib.hid d2
          clear d2
          obtain ⟨c_b0_0, c_b0_1, f_b0_0, f_b0_1⟩ := cells2 b0
          have y_b0 := lt_blk b0
          obtain ⟨c_b1_0, c_b1_1, f_b1_0, f_b1_1⟩ := cells2 b1
          have y_b1 := lt_blk b1
          go_wp2_with fail
          refine (bfill_good _ _ _ _ _ hok hz0 hmx _).mono ?_; rw [E1.out, D2.out]; rintro e' w6 ⟨rfl, hb6⟩
          clear c_b0_0 f_b0_0 c_b0_1 f_b0_1 y_b0 c_b1_0 f_b1_0 c_b1_1 f_b1_1 y_b1
          replace b0 := blkKeep b0 hb6
          replace b1 := blkKeep b1 hb6
          replace hb := belowKeep hb hb6
          have z1 := lt_blk b1
          obtain ⟨c_b0_0, c_b0_1, f_b0_0, f_b0_1⟩ := cells2 b0
          have y_b0 := lt_blk b0
          obtain ⟨c_b1_0, c_b1_1, f_b1_0, f_b1_1⟩ := cells2 b1
          have y_b1 := lt_blk b1
          go_wp2
          go_roundw
          case rel => exact ⟨k + 1, M, a, by omega, by go_num, rfl, t2, (put2b hb (by omega) _ _).alloc (by simpa using hb.size) _, blkPast (put2o b0 (by omega) _ _) _, blkPast (put2 b1 _ _) _⟩
          case measure => simp [intOf]; omega
    · obtain rfl : k = len := by omega
      obtain ⟨c_b0_0, c_b0_1, f_b0_0, f_b0_1⟩ := cells2 b0
      have y_b0 := lt_blk b0
      obtain ⟨c_b1_0, c_b1_1, f_b1_0, f_b1_1⟩ := cells2 b1
      have y_b1 := lt_blk b1
      go_wp2
      go_ret
      exact ⟨rfl, hb⟩

theorem walk (l e : Int) (ad : Option Addr) (len cap : Nat) (rows : List (List Value)) (hl : len ≤ cap) (hm : cap ≤ maxLen) (w : World) (hr : rowsAt w [.inl .i64] ad len rows) :
    Calls Try.prog 7 #[.agg #[.int .i64 l, .int .i64 e], .slice ad len cap] w fun e' w' => e' = .returned (.bool true) ∧ Below w.heap.size w w' := by
  cases h : ruleOk l e
  · exact walk_out l e ad len cap (Or.inl h) (by omega) w
  · by_cases h6 : 60 < len
    · exact walk_out l e ad len cap (Or.inr ⟨h, h6⟩) (by omega) w
    · by_cases h0 : 0 < len
      · obtain ⟨b, off, zs, h1, h2, h3, h4, h5⟩ := ints_of_rows hr h0
        exact walk_in l e ad len cap zs h (by omega) w (fun _ => ⟨b, off, h1, h2, h4, fun i hi => (h5 i hi).2⟩)
      · exact walk_in l e ad len cap [] h (by omega) w (fun h' => absurd h' h0)

theorem own : ownKnob Try.prog.godebug = none := by kernel_rfl
theorem laidOut : laidOutB Try.prog = true := by kernel_rfl
theorem pl0 : plain Try.prog 6 35 = some [.inl .i64, .inl .i64] := by kernel_rfl
theorem pl1 : plain Try.prog 6 3 = some [.inl .i64] := by kernel_rfl
theorem ce1 : Try.prog.cellsOf 3 = 1 := by kernel_rfl
set_option maxRecDepth 100000 in
theorem lifted (os : Os) (started : os.Started) (H : Type) (enc : TypeId × Value → H) :
    ReturnsInHanded {} Try.checked os 7 .any (Rows.bucketCrossesSpec.pre6 enc Try.prog Try.f7 Rows.bucketCrossesRow.domain false) (Rows.bucketCrossesSpec.post enc Try.prog Try.f7 false true false false) := by
  refine returnsInHanded_of_change (C := Try.checked) own started (by kernel_rfl) Try.func7
    (ChangeSpec.witness6 (enc := enc) (C := Try.checked) false ⟨#[], #[.agg #[.int .i64 0, .int .i64 0], .slice none 0 0], []⟩ 8 (by kernel_rfl) (by kernel_rfl) (by kernel_rfl) (by kernel_rfl)) ?_
  intro W base args ds gs before hval0 hW hcnd _
  have hval : ∀ (j : Nat) t v, Try.f7.params[j]? = some t → args[j]? = some v → Value.okWide Try.prog W .any base t v := hval0
  have hW' := hW
  obtain ⟨p, q, hA0, hV, rfl, hfz, hnd⟩ := hW
  have hA : DataW.TrodAll enc Try.prog W 0 (fun _ => true) true Try.f7.params.toList args.toList ds p := hA0
  rw [Try.params7] at hA hval
  obtain ⟨v0, vs0, d0, ds0, p0, q0, hargs, rfl, rfl, h0, r0⟩ := trodAll_cons hA
  obtain ⟨v1, vs1, d1, ds1, p1, q1, rfl, rfl, rfl, h1, r1⟩ := trodAll_cons r0
  obtain ⟨rfl, rfl, rfl⟩ := trodAll_nil r1
  obtain rfl : args = #[v0, v1] := by cases args; simp_all
  obtain ⟨rfl, rfl⟩ := trodVars_none hV
  have k0 := h0
  have lt0 : ∀ x ∈ p0, x.block < W.heap.size := by obtain ⟨m, hm⟩ := k0; exact DataW.trod_lt m _ _ _ hm
  obtain ⟨cs0, rfl, fit0⟩ := open_struct 6 pl0 Try.underlying35 (hval 0 35 v0 rfl rfl) h0
  simp only [fitsAll_cons, fitsAll_nil, lfFits] at fit0
  obtain ⟨_, _, rfl, ⟨a0_0, rfl, w0_0⟩, _, _, rfl, ⟨a0_1, rfl, w0_1⟩, rfl⟩ := fit0
  have k1 := h1
  have lt1 : ∀ x ∈ p1, x.block < W.heap.size := by obtain ⟨m, hm⟩ := k1; exact DataW.trod_lt m _ _ _ hm
  obtain ⟨a1, len1, cap1, rows1, rfl, hl1, hm1, hr1⟩ := open_slice_plain 6 Try.underlying51 pl1 (ce1.trans rfl) (hval 1 51 v1 rfl rfl) h1
  clear hA0 hval0
  refine (walk a0_0 a0_1 a1 len1 cap1 rows1 hl1 hm1 W hr1).mono fun e W' ⟨he, bel⟩ => ?_
  subst he
  exact ⟨_, rfl, _, _, _, [], _, [], hW', trodAll_mk1 (shut_bool Try.underlying4 _), (trodAll_cons_mk (Below.trod laidOut (by kernel_rfl) (of_decide_eq_true (by kernel_rfl)) k0 bel lt0) (trodAll_cons_mk (Below.trod laidOut (by kernel_rfl) (of_decide_eq_true (by kernel_rfl)) k1 bel lt1) trodAll_mk0)), rfl, bel.frame _, fun h => by cases h⟩

theorem over : Rows.bucketCrossesRow.holds Try.pinned (OpenSpec.ofChange Rows.bucketCrossesSpec) :=
  OpenClaim.holds_of_wide 7 Try.f7 rfl rfl rfl rfl rfl rfl rfl ⟨rfl, rfl, rfl, rfl, rfl⟩ rfl rfl rfl rfl rfl (by kernel_rfl) Try.func7 (by kernel_rfl)
    (of_decide_eq_true (by kernel_rfl)) (by unfold Func.isWrapper; first | (rw [if_pos (by decide +kernel)]; kernel_rfl) | (rw [if_neg (by decide +kernel)]; exact ⟨rfl, rfl⟩))
    (fun os started H enc _ => lifted os started H enc)

/-- The statement. -/
theorem proved : Rows.BucketCrossesSaid := over
#print axioms proved
end Go.Proofs.Ythmbiddnpogolaa.bucketCrosses
