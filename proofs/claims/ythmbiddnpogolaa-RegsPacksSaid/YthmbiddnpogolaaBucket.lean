/- Contracts of the buckets (bucket.Bucket, bucket.Rule) and of the document's buckets (cuirassref15.B). -/
import Derived.Test.YthmbiddnpogolaaBase
import Derived.WalkKit
import Derived.ProofKit
import Derived.OpenShut
import Derived.WalkLawsBesides
import Derived.WalkSpells
import Derived.Deep.QuietTactic
import Derived.BigQuiet
import Derived.Deep.RegionHeld3
import Derived.BigRegion
import Derived.Outline
namespace Go.Proofs.Ythmbiddnpogolaa
open Go.ChangeShapes Go.WideShapes Go.ChangeAt Go.RowKit
set_option linter.unusedVariables false

def inB (n a b : Int) : Bool := decide (a ≤ n ∧ n ≤ b)
theorem within_any (n a b : Int) (w : World) :
    Calls Try.prog 58 #[.int .i64 n, .int .i64 a, .int .i64 b] w fun e w' => e = .returned (.bool (inB n a b)) ∧ w = w' := by
  go_enter Try.func58, Try.ntmps58
  go_wp2
  all_goals (go_ret; exact ⟨ret_bool (by rw [Bool.eq_iff_iff]; simp [inB]; try omega), rfl⟩)

def ruleOk (l e : Int) : Bool := inB l 1 65536 && inB e 1 65536
theorem rule_any (l e : Int) (w : World) :
    Calls Try.prog 26 #[.agg #[.int .i64 l, .int .i64 e]] w fun e' w' => e' = .returned (.bool (ruleOk l e)) ∧ Below w.heap.size w w' := by
  cases h1 : inB l 1 65536
  all_goals
    go_enter Try.func26, Try.ntmps26
    go_wp2_with (go_at_call 58; refine (within_any _ _ _ _).mono ?_; rintro e w' ⟨rfl, rfl⟩)
    go_ret
    exact ⟨ret_bool (by simp [ruleOk, h1]), (Below.refl _ _).alloc (Nat.le_refl _) _⟩

def bOk (v a l e : Int) : Bool := ruleOk l e && (inB v 0 65536 && inB a 0 (e - 1))
theorem bright_any (v a l e : Int) (w : World) :
    Calls Try.prog 24 #[.agg #[.int .i64 v, .int .i64 a], .agg #[.int .i64 l, .int .i64 e]] w fun e' w' => e' = .returned (.bool (bOk v a l e)) ∧ Below w.heap.size w w' := by
  cases h0 : ruleOk l e
  · go_enter Try.func24, Try.ntmps24
    go_wp2_with (go_at_call 26; refine (rule_any _ _ _).mono ?_; rintro e' w1 ⟨rfl, hb⟩)
    go_ret
    exact ⟨ret_bool (by simp [bOk, h0]), (after2 hb).2.2.2⟩
  · have he : 1 ≤ e ∧ e ≤ 65536 := by simp [ruleOk, inB] at h0; omega
    obtain ⟨he0, he1⟩ := he
    cases h1 : inB v 0 65536
    all_goals
      go_enter Try.func24, Try.ntmps24
      go_wp2_with fail
      refine (rule_any _ _ _).mono ?_; rintro e' w1 ⟨rfl, hb⟩
      obtain ⟨b0, b1, hz, hb⟩ := after2 hb
      obtain ⟨k0, k1, f0, f1⟩ := cells2 b0
      obtain ⟨k2, k3, f2, f3⟩ := cells2 b1
      go_wp2_with (go_at_call 58; refine (within_any _ _ _ _).mono ?_; rintro e w' ⟨rfl, rfl⟩)
      go_ret
      exact ⟨ret_bool (by simp [bOk, h0, h1]), hb⟩

theorem of_any (l e v a : Int) (w : World) :
    Calls Try.prog 22 #[.agg #[.int .i64 l, .int .i64 e], .agg #[.int .i64 v, .int .i64 a]] w fun e' w' => e' = .returned (.agg #[.int .i64 l, .int .i64 e, .int .i64 v, .int .i64 a]) ∧ Below w.heap.size w w' := by
  go_enter Try.func22, Try.ntmps22
  go_wp2
  refine bodyPost_ret (v := .agg #[.int .i64 l, .int .i64 e, .int .i64 v, .int .i64 a]) (by simp [results, Try.results22, go_sem]) rfl ⟨rfl, alloc3 _ _ _ _⟩

/-- What Fill makes of the level. -/
def fillB (v a l e n : Int) : Int := if bOk v a l e && decide (0 ≤ n) then min (v + n) 65536 else v
def crossB (v a l e n : Int) : Bool := bOk v a l e && decide (0 ≤ n) && decide (v < l) && decide (l ≤ min (v + n) 65536)

theorem bOk_iff {v a l e : Int} : bOk v a l e = true ↔ ((1 ≤ l ∧ l ≤ 65536) ∧ 1 ≤ e ∧ e ≤ 65536) ∧ (0 ≤ v ∧ v ≤ 65536) ∧ 0 ≤ a ∧ a ≤ e - 1 := by
  simp [bOk, ruleOk, inB]

theorem bfill_bad (v a l e n : Int) (h : bOk v a l e = false) (w : World) :
    Calls Try.prog 23 #[.agg #[.int .i64 v, .int .i64 a], .agg #[.int .i64 l, .int .i64 e], .int .i64 n] w fun e' w' => e' = .returned (.tuple #[.agg #[.int .i64 v, .int .i64 a], .bool false]) ∧ Below w.heap.size w w' := by
  go_enter Try.func23, Try.ntmps23
  go_wp2_with fail
  refine (bright_any _ _ _ _ _).mono ?_; rintro e' w1 ⟨rfl, hb⟩
  obtain ⟨b0, b1, b2, hz, hb⟩ := after3 hb
  obtain ⟨k0, k1, f0, f1⟩ := cells2 b0
  obtain ⟨k2, k3, f2, f3⟩ := cells2 b1
  obtain ⟨k4, k5, f4, f5⟩ := cells2 b2
  go_wp2
  refine bodyPost_ret (v := .tuple #[.agg #[.int .i64 v, .int .i64 a], .bool false]) (by simp [results, Try.results23, go_sem, *]) rfl ⟨rfl, ?_⟩
  exact ((hb.setCell (by simp <;> omega) _).setCell (by simp <;> omega) _)

theorem bfill_neg (v a l e n : Int) (h : n < 0) (w : World) :
    Calls Try.prog 23 #[.agg #[.int .i64 v, .int .i64 a], .agg #[.int .i64 l, .int .i64 e], .int .i64 n] w fun e' w' => e' = .returned (.tuple #[.agg #[.int .i64 v, .int .i64 a], .bool false]) ∧ Below w.heap.size w w' := by
  cases h0 : bOk v a l e
  · exact bfill_bad v a l e n h0 w
  go_enter Try.func23, Try.ntmps23
  go_wp2_with fail
  refine (bright_any _ _ _ _ _).mono ?_; rintro e' w1 ⟨rfl, hb⟩
  obtain ⟨b0, b1, b2, hz, hb⟩ := after3 hb
  obtain ⟨k0, k1, f0, f1⟩ := cells2 b0
  obtain ⟨k2, k3, f2, f3⟩ := cells2 b1
  obtain ⟨k4, k5, f4, f5⟩ := cells2 b2
  go_wp2
  refine bodyPost_ret (v := .tuple #[.agg #[.int .i64 v, .int .i64 a], .bool false]) (by simp [results, Try.results23, go_sem, *]) rfl ⟨rfl, ?_⟩
  exact ((hb.setCell (by simp <;> omega) _).setCell (by simp <;> omega) _)

theorem bfill_good (v a l e n : Int) (h : bOk v a l e = true) (hn : 0 ≤ n) (hn2 : n ≤ 9223372036854775807) (w : World) :
    Calls Try.prog 23 #[.agg #[.int .i64 v, .int .i64 a], .agg #[.int .i64 l, .int .i64 e], .int .i64 n] w fun e' w' => e' = .returned (.tuple #[.agg #[.int .i64 (min (v + n) 65536), .int .i64 a], .bool (decide (v < l) && decide (l ≤ min (v + n) 65536))]) ∧ Below w.heap.size w w' := by
  obtain ⟨⟨⟨l0, l1⟩, e0, e1⟩, ⟨v0, v1⟩, a0, a1⟩ := bOk_iff.1 h
  have hvl2 : ¬ v < l → decide (v < l) = false := fun h => by simpa using h
  by_cases hvl : v < l <;> by_cases hnm : n ≤ 65536 - v
  · have HM : Hid (min (v + n) 65536 = v + n) := by show min (v + n) 65536 = v + n; omega
    rw [HM.out]
    go_enter Try.func23, Try.ntmps23
    go_wp2_with fail
    refine (bright_any _ _ _ _ _).mono ?_; rintro e' w1 ⟨rfl, hb⟩
    obtain ⟨b0, b1, b2, hz, hb⟩ := after3 hb
    obtain ⟨k0, k1, f0, f1⟩ := cells2 b0
    obtain ⟨k2, k3, f2, f3⟩ := cells2 b1
    obtain ⟨k4, k5, f4, f5⟩ := cells2 b2
    have s0 := setSame k0 (.int .i64 (v + n))
    go_wp2
    go_region
    go_wp2
    refine bodyPost_ret (v := .tuple #[.agg #[.int .i64 (v + n), .int .i64 a], .bool (decide (l ≤ v + n))]) (by simp [results, Try.results23, go_sem, *]) rfl ⟨?_, ?_⟩
    · exact ret_x_bool (by first | (rw [hvl3]; rfl) | simp [hvl])
    · exact (((hb.setCell (by simp) _).setCell (by simp <;> omega) _).setCell (by simp <;> omega) _).drew
  · have HM : Hid (min (v + n) 65536 = v + (65536 - v)) := by show min (v + n) 65536 = v + (65536 - v); omega
    rw [HM.out]
    go_enter Try.func23, Try.ntmps23
    go_wp2_with fail
    refine (bright_any _ _ _ _ _).mono ?_; rintro e' w1 ⟨rfl, hb⟩
    obtain ⟨b0, b1, b2, hz, hb⟩ := after3 hb
    obtain ⟨k0, k1, f0, f1⟩ := cells2 b0
    obtain ⟨k2, k3, f2, f3⟩ := cells2 b1
    obtain ⟨k4, k5, f4, f5⟩ := cells2 b2
    have s0 := setSame k0 (.int .i64 (v + (65536 - v)))
    go_wp2
    go_region
    go_wp2
    refine bodyPost_ret (v := .tuple #[.agg #[.int .i64 (v + (65536 - v)), .int .i64 a], .bool (decide (l ≤ v + (65536 - v)))]) (by simp [results, Try.results23, go_sem, *]) rfl ⟨?_, ?_⟩
    · exact ret_x_bool (by first | (rw [hvl3]; rfl) | simp [hvl])
    · exact (((hb.setCell (by simp) _).setCell (by simp <;> omega) _).setCell (by simp <;> omega) _).drew
  · have HM : Hid (min (v + n) 65536 = v + n) := by show min (v + n) 65536 = v + n; omega
    rw [HM.out]
    have hvl3 := hvl2 hvl
    go_enter Try.func23, Try.ntmps23
    go_wp2_with fail
    refine (bright_any _ _ _ _ _).mono ?_; rintro e' w1 ⟨rfl, hb⟩
    obtain ⟨b0, b1, b2, hz, hb⟩ := after3 hb
    obtain ⟨k0, k1, f0, f1⟩ := cells2 b0
    obtain ⟨k2, k3, f2, f3⟩ := cells2 b1
    obtain ⟨k4, k5, f4, f5⟩ := cells2 b2
    have s0 := setSame k0 (.int .i64 (v + n))
    go_wp2
    go_region
    go_wp2
    refine bodyPost_ret (v := .tuple #[.agg #[.int .i64 (v + n), .int .i64 a], .bool false]) (by simp [results, Try.results23, go_sem, *]) rfl ⟨?_, ?_⟩
    · exact ret_x_bool (by first | (rw [hvl3]; rfl) | simp [hvl])
    · exact (((hb.setCell (by simp) _).setCell (by simp <;> omega) _).setCell (by simp <;> omega) _).drew
  · have HM : Hid (min (v + n) 65536 = v + (65536 - v)) := by show min (v + n) 65536 = v + (65536 - v); omega
    rw [HM.out]
    have hvl3 := hvl2 hvl
    go_enter Try.func23, Try.ntmps23
    go_wp2_with fail
    refine (bright_any _ _ _ _ _).mono ?_; rintro e' w1 ⟨rfl, hb⟩
    obtain ⟨b0, b1, b2, hz, hb⟩ := after3 hb
    obtain ⟨k0, k1, f0, f1⟩ := cells2 b0
    obtain ⟨k2, k3, f2, f3⟩ := cells2 b1
    obtain ⟨k4, k5, f4, f5⟩ := cells2 b2
    have s0 := setSame k0 (.int .i64 (v + (65536 - v)))
    go_wp2
    go_region
    go_wp2
    refine bodyPost_ret (v := .tuple #[.agg #[.int .i64 (v + (65536 - v)), .int .i64 a], .bool false]) (by simp [results, Try.results23, go_sem, *]) rfl ⟨?_, ?_⟩
    · exact ret_x_bool (by first | (rw [hvl3]; rfl) | simp [hvl])
    · exact (((hb.setCell (by simp) _).setCell (by simp <;> omega) _).setCell (by simp <;> omega) _).drew

theorem bfill_any (v a l e n : Int) (hn2 : n ≤ 9223372036854775807) (w : World) :
    Calls Try.prog 23 #[.agg #[.int .i64 v, .int .i64 a], .agg #[.int .i64 l, .int .i64 e], .int .i64 n] w fun e' w' => e' = .returned (.tuple #[.agg #[.int .i64 (fillB v a l e n), .int .i64 a], .bool (crossB v a l e n)]) ∧ Below w.heap.size w w' := by
  cases h : bOk v a l e
  · rw [show fillB v a l e n = v by simp [fillB, h], show crossB v a l e n = false by simp [crossB, h]]
    exact bfill_bad v a l e n h w
  · by_cases hn : 0 ≤ n
    · rw [show fillB v a l e n = min (v + n) 65536 by simp [fillB, h, hn], show crossB v a l e n = (decide (v < l) && decide (l ≤ min (v + n) 65536)) by simp [crossB, h, hn]]
      exact bfill_good v a l e n h hn hn2 w
    · rw [show fillB v a l e n = v by simp [fillB, h, hn], show crossB v a l e n = false by simp [crossB, h, hn]]
      exact bfill_neg v a l e n (by omega) w

/-! ### ticks -/
def ticksL (v a l e n : Int) : Int := if bOk v a l e && decide (1 ≤ n) && decide (e - a ≤ n) then max 0 (v - 1 - min ((n - (e - a)) / e) 65536) else v
def ticksA (v a l e n : Int) : Int := if bOk v a l e && decide (1 ≤ n) then (if n < e - a then a + n else (n - (e - a)) % e) else a

theorem bticks_bad (v a l e n : Int) (h : bOk v a l e = false) (w : World) :
    Calls Try.prog 30 #[.agg #[.int .i64 v, .int .i64 a], .agg #[.int .i64 l, .int .i64 e], .int .i64 n] w fun e' w' => e' = .returned (.agg #[.int .i64 v, .int .i64 a]) ∧ Below w.heap.size w w' := by
  go_enter Try.func30, Try.ntmps30
  go_wp2_with fail
  refine (bright_any _ _ _ _ _).mono ?_; rintro e' w1 ⟨rfl, hb⟩
  obtain ⟨b0, b1, b2, hz, hb⟩ := after3 hb
  obtain ⟨k0, k1, f0, f1⟩ := cells2 b0
  obtain ⟨k2, k3, f2, f3⟩ := cells2 b1
  obtain ⟨k4, k5, f4, f5⟩ := cells2 b2
  go_wp2
  refine bodyPost_ret (v := .agg #[.int .i64 v, .int .i64 a]) (by simp [results, Try.results30, go_sem, *]) rfl ⟨rfl, ?_⟩
  exact ((hb.setCell (by simp <;> omega) _).setCell (by simp <;> omega) _)

theorem bticks_neg (v a l e n : Int) (h : n < 1) (w : World) :
    Calls Try.prog 30 #[.agg #[.int .i64 v, .int .i64 a], .agg #[.int .i64 l, .int .i64 e], .int .i64 n] w fun e' w' => e' = .returned (.agg #[.int .i64 v, .int .i64 a]) ∧ Below w.heap.size w w' := by
  cases h0 : bOk v a l e
  · exact bticks_bad v a l e n h0 w
  go_enter Try.func30, Try.ntmps30
  go_wp2_with fail
  refine (bright_any _ _ _ _ _).mono ?_; rintro e' w1 ⟨rfl, hb⟩
  obtain ⟨b0, b1, b2, hz, hb⟩ := after3 hb
  obtain ⟨k0, k1, f0, f1⟩ := cells2 b0
  obtain ⟨k2, k3, f2, f3⟩ := cells2 b1
  obtain ⟨k4, k5, f4, f5⟩ := cells2 b2
  go_wp2
  refine bodyPost_ret (v := .agg #[.int .i64 v, .int .i64 a]) (by simp [results, Try.results30, go_sem, *]) rfl ⟨rfl, ?_⟩
  exact ((hb.setCell (by simp <;> omega) _).setCell (by simp <;> omega) _)

theorem bticks_few (v a l e n : Int) (h : bOk v a l e = true) (h1 : 1 ≤ n) (h2 : n < e - a) (w : World) :
    Calls Try.prog 30 #[.agg #[.int .i64 v, .int .i64 a], .agg #[.int .i64 l, .int .i64 e], .int .i64 n] w fun e' w' => e' = .returned (.agg #[.int .i64 v, .int .i64 (a + n)]) ∧ Below w.heap.size w w' := by
  obtain ⟨⟨⟨l0, l1⟩, e0, e1⟩, ⟨v0, v1⟩, a0, a1⟩ := bOk_iff.1 h
  go_enter Try.func30, Try.ntmps30
  go_wp2_with fail
  refine (bright_any _ _ _ _ _).mono ?_; rintro e' w1 ⟨rfl, hb⟩
  obtain ⟨b0, b1, b2, hz, hb⟩ := after3 hb
  obtain ⟨k0, k1, f0, f1⟩ := cells2 b0
  obtain ⟨k2, k3, f2, f3⟩ := cells2 b1
  obtain ⟨k4, k5, f4, f5⟩ := cells2 b2
  have s0 := setSame k1 (.int .i64 (a + n))
  go_wp2
  refine bodyPost_ret (v := .agg #[.int .i64 v, .int .i64 (a + n)]) (by simp [results, Try.results30, go_sem, *]) rfl ⟨rfl, ?_⟩
  exact (((hb.setCell (by simp <;> omega) _).setCell (by simp <;> omega) _).setCell (by simp <;> omega) _)

theorem bticks_many (v a l e n : Int) (h : bOk v a l e = true) (h2 : e - a ≤ n) (h3 : n ≤ 9223372036854775807) (w : World) :
    Calls Try.prog 30 #[.agg #[.int .i64 v, .int .i64 a], .agg #[.int .i64 l, .int .i64 e], .int .i64 n] w fun e' w' => e' = .returned (.agg #[.int .i64 (max 0 (v - 1 - min ((n - (e - a)) / e) 65536)), .int .i64 ((n - (e - a)) % e)]) ∧ Below w.heap.size w w' := by
  obtain ⟨⟨⟨l0, l1⟩, e0, e1⟩, ⟨v0, v1⟩, a0, a1⟩ := bOk_iff.1 h
  have hq0 : 0 ≤ (n - (e - a)) / e := Int.ediv_nonneg (by omega) (by omega)
  have hq1 : (n - (e - a)) / e ≤ n - (e - a) := Int.ediv_le_self _ (by omega)
  by_cases c1 : (n - (e - a)) / e ≤ 65536 <;> by_cases c2 : (n - (e - a)) / e < v - 1
  · have c3 := c2
    have HV : Hid (max 0 (v - 1 - min ((n - (e - a)) / e) 65536) = v - 1 - (n - (e - a)) / e) := by show _ = _; omega
    rw [HV.out]
    go_enter Try.func30, Try.ntmps30
    go_wp2_with fail
    refine (bright_any _ _ _ _ _).mono ?_; rintro e' w1 ⟨rfl, hb⟩
    obtain ⟨b0, b1, b2, hz, hb⟩ := after3 hb
    obtain ⟨k0, k1, f0, f1⟩ := cells2 b0
    obtain ⟨k2, k3, f2, f3⟩ := cells2 b1
    obtain ⟨k4, k5, f4, f5⟩ := cells2 b2
    have s0 := setSame k1 (.int .i64 ((n - (e - a)) % e))
    go_wp2
    go_region
    go_wp2
    refine bodyPost_ret (v := .agg #[.int .i64 (v - 1 - (n - (e - a)) / e), .int .i64 ((n - (e - a)) % e)]) (by simp [results, Try.results30, go_sem, *]) rfl ⟨rfl, ?_⟩
    exact (((((hb.setCell (by simp <;> omega) _).setCell (by simp <;> omega) _).setCell (by simp <;> omega) _).setCell (by simp <;> omega) _).drew)
  · have c3 := c2
    have HV : Hid (max 0 (v - 1 - min ((n - (e - a)) / e) 65536) = 0) := by show _ = _; omega
    rw [HV.out]
    go_enter Try.func30, Try.ntmps30
    go_wp2_with fail
    refine (bright_any _ _ _ _ _).mono ?_; rintro e' w1 ⟨rfl, hb⟩
    obtain ⟨b0, b1, b2, hz, hb⟩ := after3 hb
    obtain ⟨k0, k1, f0, f1⟩ := cells2 b0
    obtain ⟨k2, k3, f2, f3⟩ := cells2 b1
    obtain ⟨k4, k5, f4, f5⟩ := cells2 b2
    have s0 := setSame k1 (.int .i64 ((n - (e - a)) % e))
    go_wp2
    go_region
    go_wp2
    refine bodyPost_ret (v := .agg #[.int .i64 (0), .int .i64 ((n - (e - a)) % e)]) (by simp [results, Try.results30, go_sem, *]) rfl ⟨rfl, ?_⟩
    exact (((((hb.setCell (by simp <;> omega) _).setCell (by simp <;> omega) _).setCell (by simp <;> omega) _).setCell (by simp <;> omega) _).drew)
  · exfalso; omega
  · have c3 := c2
    have HV : Hid (max 0 (v - 1 - min ((n - (e - a)) / e) 65536) = 0) := by show _ = _; omega
    rw [HV.out]
    go_enter Try.func30, Try.ntmps30
    go_wp2_with fail
    refine (bright_any _ _ _ _ _).mono ?_; rintro e' w1 ⟨rfl, hb⟩
    obtain ⟨b0, b1, b2, hz, hb⟩ := after3 hb
    obtain ⟨k0, k1, f0, f1⟩ := cells2 b0
    obtain ⟨k2, k3, f2, f3⟩ := cells2 b1
    obtain ⟨k4, k5, f4, f5⟩ := cells2 b2
    have s0 := setSame k1 (.int .i64 ((n - (e - a)) % e))
    go_wp2
    go_region
    go_wp2
    refine bodyPost_ret (v := .agg #[.int .i64 (0), .int .i64 ((n - (e - a)) % e)]) (by simp [results, Try.results30, go_sem, *]) rfl ⟨rfl, ?_⟩
    exact (((((hb.setCell (by simp <;> omega) _).setCell (by simp <;> omega) _).setCell (by simp <;> omega) _).setCell (by simp <;> omega) _).drew)

theorem bticks_any (v a l e n : Int) (h3 : n ≤ 9223372036854775807) (w : World) :
    Calls Try.prog 30 #[.agg #[.int .i64 v, .int .i64 a], .agg #[.int .i64 l, .int .i64 e], .int .i64 n] w fun e' w' => e' = .returned (.agg #[.int .i64 (ticksL v a l e n), .int .i64 (ticksA v a l e n)]) ∧ Below w.heap.size w w' := by
  cases h : bOk v a l e
  · rw [show ticksL v a l e n = v by simp [ticksL, h], show ticksA v a l e n = a by simp [ticksA, h]]
    exact bticks_bad v a l e n h w
  · by_cases hn : 1 ≤ n
    · by_cases h2 : n < e - a
      · rw [show ticksL v a l e n = v by simp only [ticksL]; rw [if_neg]; simp; omega, show ticksA v a l e n = a + n by simp [ticksA, h, hn, h2]]
        exact bticks_few v a l e n h hn h2 w
      · have h2' : e - a ≤ n := by omega
        rw [show ticksL v a l e n = max 0 (v - 1 - min ((n - (e - a)) / e) 65536) by simp [ticksL, h, hn, h2'], show ticksA v a l e n = (n - (e - a)) % e by simp [ticksA, h, hn, h2]]
        exact bticks_many v a l e n h h2' h3 w
    · rw [show ticksL v a l e n = v by simp [ticksL, h, hn], show ticksA v a l e n = a by simp [ticksA, h, hn]]
      exact bticks_neg v a l e n (by omega) w

theorem btick_any (v a l e : Int) (w : World) :
    Calls Try.prog 27 #[.agg #[.int .i64 v, .int .i64 a], .agg #[.int .i64 l, .int .i64 e]] w fun e' w' => e' = .returned (.agg #[.int .i64 (ticksL v a l e 1), .int .i64 (ticksA v a l e 1)]) ∧ Below w.heap.size w w' := by
  go_enter Try.func27, Try.ntmps27
  go_wp2_with fail
  refine (bticks_any _ _ _ _ _ (by omega) _).mono ?_; rintro e' w1 ⟨rfl, hb⟩
  obtain ⟨b0, b1, b2, hz, hb⟩ := after3 hb
  obtain ⟨k4, k5, f4, f5⟩ := cells2 b2
  go_wp2
  refine bodyPost_ret (v := .agg #[.int .i64 (ticksL v a l e 1), .int .i64 (ticksA v a l e 1)]) (by simp [results, Try.results27, go_sem, *]) rfl ⟨rfl, ?_⟩
  exact ((hb.setCell (by simp <;> omega) _).setCell (by simp <;> omega) _)

end Go.Proofs.Ythmbiddnpogolaa
