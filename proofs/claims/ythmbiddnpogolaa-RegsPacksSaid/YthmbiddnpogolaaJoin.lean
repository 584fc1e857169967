/- Contracts: fields put together (regs.join, the document's Join), a word taken apart (regs.part), a truth as a number. -/
import Derived.Test.YthmbiddnpogolaaBase
import Derived.Test.YthmbiddnpogolaaRegs
import Derived.Test.YthmbiddnpogolaaPlain26b
import Derived.Lib.Hide
namespace Go.Proofs.Ythmbiddnpogolaa
open Go.ChangeShapes Go.WideShapes Go.ChangeAt Go.RowKit
set_option linter.unusedVariables false

/-- Block g holds fields: a width and a value each. -/
def fieldsAt (w : World) (g : Nat) (fs : List (Nat × Nat)) : Prop :=
  ∀ i, i < fs.length → w.cell? ⟨g, i * 2, none⟩ = some (.int .i64 (fs.getD i (0, 0)).1) ∧ w.cell? ⟨g, i * 2 + 1, none⟩ = some (.int .u64 (fs.getD i (0, 0)).2)
def fieldsOk (fs : List (Nat × Nat)) : Prop := (∀ f ∈ fs, 1 ≤ f.1 ∧ f.2 < 18446744073709551616) ∧ P26.wid fs ≤ 64

theorem take_snoc {α : Type} [Inhabited α] (l : List α) (k : Nat) (h : k < l.length) (d : α) : l.take (k + 1) = l.take k ++ [l.getD k d] := by
  rw [List.take_succ_eq_append_getElem h, List.getD_eq_getElem?_getD, List.getElem?_eq_getElem h]; rfl
theorem wid_take_le (fs : List (Nat × Nat)) (k : Nat) : P26.wid (fs.take k) ≤ P26.wid fs := by
  have e : fs.take k ++ fs.drop k = fs := List.take_append_drop k fs
  have : P26.wid (fs.take k ++ fs.drop k) = P26.wid fs := by rw [e]
  rw [P26.wid_append] at this
  omega

theorem and_eq (v n : Nat) (hv : v < 18446744073709551616) (hn : n ≤ 64) : bits BinOp.and IntKind.u64 (v : Int) (2 ^ n - 1) = ((v % 2 ^ n : Nat) : Int) := by
  have hp := Nat.two_pow_pos n
  have hle : 2 ^ n ≤ 2 ^ 64 := Nat.pow_le_pow_right (by omega) hn
  have e2 : ((2 : Int) ^ n - 1) = ((2 ^ n - 1 : Nat) : Int) := by
    rw [Int.ofNat_sub hp]; simp
  rw [e2, u64_and_nat _ _ hv (by omega), Nat.and_two_pow_sub_one_eq_mod]

theorem join_any (g cap : Nat) (fs : List (Nat × Nat)) (hok : fieldsOk fs) (w : World) (hg : g < w.heap.size) (hf : fieldsAt w g fs) :
    Calls Try.prog 91 #[.slice (some ⟨g, 0, none⟩) fs.length cap] w fun e w' => e = .returned (.int .u64 (P26.joinN fs)) ∧ Below w.heap.size w w' := by
  have hlen : fs.length ≤ 64 := by
    have key : ∀ l : List (Nat × Nat), (∀ f ∈ l, 1 ≤ f.1 ∧ f.2 < 18446744073709551616) → l.length ≤ P26.wid l := by
      intro l
      induction l with
      | nil => intro _; simp
      | cons f l ih => intro h; rw [P26.wid_cons]; have := ih (fun x hx => h x (by simp [hx])); have := (h f (by simp)).1; simp; omega
    have := key fs hok.1
    have := hok.2
    omega
  go_enter Try.func91, Try.ntmps91
  go_wp2
  go_loopw [3, 4, 9] (fun a p i wr => ∃ k : Nat, k ≤ fs.length ∧ i = .int .i64 k ∧ a = .int .u64 (P26.joinN (fs.take k)) ∧ p = .int .i64 (P26.wid (fs.take k)) ∧ Below w.heap.size w wr)
    (fun _ _ i _ => fs.length - (intOf i).toNat)
  case atStart => exact ⟨0, Nat.zero_le _, rfl, rfl, rfl, Below.refl _ _⟩
  case round =>
    obtain ⟨k, hk, rfl, rfl, rfl, hb⟩ := hrel
    by_cases hlt : k < fs.length
    · obtain ⟨c0, c1⟩ := hf k hlt
      replace c0 := (hb.cell (p := ⟨g, k * 2, none⟩) hg).trans c0
      replace c1 := (hb.cell (p := ⟨g, k * 2 + 1, none⟩) hg).trans c1
      have hsn := take_snoc fs k hlt (0, 0)
      obtain ⟨f1, f2⟩ := hok.1 _ (show fs.getD k (0, 0) ∈ fs by rw [List.getD_eq_getElem?_getD, List.getElem?_eq_getElem hlt]; exact List.getElem_mem _)
      have hw1 : P26.wid (fs.take (k + 1)) = P26.wid (fs.take k) + (fs.getD k (0, 0)).1 := by rw [hsn, P26.wid_snoc]
      have hw2 := wid_take_le fs (k + 1)
      have hj1 : P26.joinN (fs.take (k + 1)) = P26.putV (P26.joinN (fs.take k)) (P26.wid (fs.take k)) (fs.getD k (0, 0)).1 ((fs.getD k (0, 0)).2 % 2 ^ (fs.getD k (0, 0)).1) := by rw [hsn, P26.joinN_snoc]
      have hjl := P26.join_lt (fs.take k) (Nat.le_trans (wid_take_le fs k) hok.2)
      have h64 := hok.2
      clear hsn
      generalize (fs.getD k (0, 0)).1 = n at *
      generalize (fs.getD k (0, 0)).2 = v at *
      have HW1 := Lib.hid hw1
      have HJ1 := Lib.hid hj1
      rw [hw1] at hw2
      clear hw1 hj1
      generalize P26.joinN (fs.take k) = X at *
      generalize P26.wid (fs.take k) = A at *
      have hand := and_eq v n f2 (by omega)
      have hu : v % 2 ^ n < 2 ^ n := Nat.mod_lt _ (Nat.two_pow_pos _)
      have HJ2 : Hid (P26.joinN (fs.take (k + 1)) = P26.putV X A n (v % 2 ^ n)) := HJ1.out
      clear HJ1
      generalize v % 2 ^ n = u at *
      obtain ⟨Y, HY⟩ : ∃ Y, Hid (P26.putV X A n u = Y) := ⟨_, rfl⟩
      rw [HY.out] at HJ2
      go_wp2
      have b0 := blk0 wr (.cells #[.int .i64 n, .int .u64 v] 158)
      have hb2 := hb.alloc hb.size (.cells #[.int .i64 n, .int .u64 v] 158)
      obtain ⟨c_b0_0, c_b0_1, -, -⟩ := cells2 b0
      have y_b0 := lt_blk b0
      refine wp_region_whole (fun w' => Below w.heap.size w w' ∧ w'.heap[wr.heap.size]? = some (.cells #[.int .i64 n, .int .u64 v] 158 (0, 0)) ∧ w'.cell? ⟨wr.heap.size, 0, none⟩ = some (.int .i64 n) ∧ w'.cell? ⟨wr.heap.size, 1, none⟩ = some (.int .u64 v)) (by kernel_rfl) (by kernel_rfl) ?_ ?_
      · (try dsimp only); (first | (go_split_ands; (repeat' apply And.intro) <;> first | assumption | exact Below.drew (by assumption) | exact blkDrew (by assumption) | exact cellKeep (by assumption) (by assumption) | exact belowKeep (by assumption) (by assumption) | exact blkKeep (by assumption) (by assumption)))
      first | (refine quiet_neg (by rfl) ?_; simp only [Act.put, List.setIfInBounds_toArray, List.set_cons_zero, List.set_cons_succ]) | (refine quiet_ex (by rfl) ?_; apply Exists.intro; refine ⟨fun w0 hS => ?_, ?_⟩; (focus ((try dsimp only at hS); go_simp; (first | done | (with_reducible rfl) | (go_at_call 57; refine (ones_any _ (by omega) (by omega) _).mono ?_; rintro e' w1 ⟨rfl, rfl⟩; refine ⟨rfl, ?_⟩; (try dsimp only); (first | (go_split_ands; (repeat' apply And.intro) <;> first | assumption | exact Below.drew (by assumption) | exact blkDrew (by assumption) | exact cellKeep (by assumption) (by assumption) | exact belowKeep (by assumption) (by assumption) | exact blkKeep (by assumption) (by assumption)))) | (go_at_call 55; refine (putU_yes X A n u hjl (by omega) (by omega) hu _).mono ?_; rw [HY.out]; rintro e' w1 ⟨rfl, rfl⟩; refine ⟨rfl, ?_⟩; (try dsimp only); (first | (go_split_ands; (repeat' apply And.intro) <;> first | assumption | exact Below.drew (by assumption) | exact blkDrew (by assumption) | exact cellKeep (by assumption) (by assumption) | exact belowKeep (by assumption) (by assumption) | exact blkKeep (by assumption) (by assumption))))))); (try simp only [Act.put, List.setIfInBounds_toArray, List.set_cons_zero, List.set_cons_succ]))
      first | (refine quiet_neg (by rfl) ?_; simp only [Act.put, List.setIfInBounds_toArray, List.set_cons_zero, List.set_cons_succ]) | (refine quiet_ex (by rfl) ?_; apply Exists.intro; refine ⟨fun w0 hS => ?_, ?_⟩; (focus ((try dsimp only at hS); go_simp; (first | done | (with_reducible rfl) | (go_at_call 57; refine (ones_any _ (by omega) (by omega) _).mono ?_; rintro e' w1 ⟨rfl, rfl⟩; refine ⟨rfl, ?_⟩; (try dsimp only); (first | (go_split_ands; (repeat' apply And.intro) <;> first | assumption | exact Below.drew (by assumption) | exact blkDrew (by assumption) | exact cellKeep (by assumption) (by assumption) | exact belowKeep (by assumption) (by assumption) | exact blkKeep (by assumption) (by assumption)))) | (go_at_call 55; refine (putU_yes X A n u hjl (by omega) (by omega) hu _).mono ?_; rw [HY.out]; rintro e' w1 ⟨rfl, rfl⟩; refine ⟨rfl, ?_⟩; (try dsimp only); (first | (go_split_ands; (repeat' apply And.intro) <;> first | assumption | exact Below.drew (by assumption) | exact blkDrew (by assumption) | exact cellKeep (by assumption) (by assumption) | exact belowKeep (by assumption) (by assumption) | exact blkKeep (by assumption) (by assumption))))))); (try simp only [Act.put, List.setIfInBounds_toArray, List.set_cons_zero, List.set_cons_succ]))
      first | (refine quiet_neg (by rfl) ?_; simp only [Act.put, List.setIfInBounds_toArray, List.set_cons_zero, List.set_cons_succ]) | (refine quiet_ex (by rfl) ?_; apply Exists.intro; refine ⟨fun w0 hS => ?_, ?_⟩; (focus ((try dsimp only at hS); go_simp; (first | done | (with_reducible rfl) | (go_at_call 57; refine (ones_any _ (by omega) (by omega) _).mono ?_; rintro e' w1 ⟨rfl, rfl⟩; refine ⟨rfl, ?_⟩; (try dsimp only); (first | (go_split_ands; (repeat' apply And.intro) <;> first | assumption | exact Below.drew (by assumption) | exact blkDrew (by assumption) | exact cellKeep (by assumption) (by assumption) | exact belowKeep (by assumption) (by assumption) | exact blkKeep (by assumption) (by assumption)))) | (go_at_call 55; refine (putU_yes X A n u hjl (by omega) (by omega) hu _).mono ?_; rw [HY.out]; rintro e' w1 ⟨rfl, rfl⟩; refine ⟨rfl, ?_⟩; (try dsimp only); (first | (go_split_ands; (repeat' apply And.intro) <;> first | assumption | exact Below.drew (by assumption) | exact blkDrew (by assumption) | exact cellKeep (by assumption) (by assumption) | exact belowKeep (by assumption) (by assumption) | exact blkKeep (by assumption) (by assumption))))))); (try simp only [Act.put, List.setIfInBounds_toArray, List.set_cons_zero, List.set_cons_succ]))
      first | (refine quiet_neg (by rfl) ?_; simp only [Act.put, List.setIfInBounds_toArray, List.set_cons_zero, List.set_cons_succ]) | (refine quiet_ex (by rfl) ?_; apply Exists.intro; refine ⟨fun w0 hS => ?_, ?_⟩; (focus ((try dsimp only at hS); go_simp; (first | done | (with_reducible rfl) | (go_at_call 57; refine (ones_any _ (by omega) (by omega) _).mono ?_; rintro e' w1 ⟨rfl, rfl⟩; refine ⟨rfl, ?_⟩; (try dsimp only); (first | (go_split_ands; (repeat' apply And.intro) <;> first | assumption | exact Below.drew (by assumption) | exact blkDrew (by assumption) | exact cellKeep (by assumption) (by assumption) | exact belowKeep (by assumption) (by assumption) | exact blkKeep (by assumption) (by assumption)))) | (go_at_call 55; refine (putU_yes X A n u hjl (by omega) (by omega) hu _).mono ?_; rw [HY.out]; rintro e' w1 ⟨rfl, rfl⟩; refine ⟨rfl, ?_⟩; (try dsimp only); (first | (go_split_ands; (repeat' apply And.intro) <;> first | assumption | exact Below.drew (by assumption) | exact blkDrew (by assumption) | exact cellKeep (by assumption) (by assumption) | exact belowKeep (by assumption) (by assumption) | exact blkKeep (by assumption) (by assumption))))))); (try simp only [Act.put, List.setIfInBounds_toArray, List.set_cons_zero, List.set_cons_succ]))
      first | (refine quiet_neg (by rfl) ?_; simp only [Act.put, List.setIfInBounds_toArray, List.set_cons_zero, List.set_cons_succ]) | (refine quiet_ex (by rfl) ?_; apply Exists.intro; refine ⟨fun w0 hS => ?_, ?_⟩; (focus ((try dsimp only at hS); go_simp; (first | done | (with_reducible rfl) | (go_at_call 57; refine (ones_any _ (by omega) (by omega) _).mono ?_; rintro e' w1 ⟨rfl, rfl⟩; refine ⟨rfl, ?_⟩; (try dsimp only); (first | (go_split_ands; (repeat' apply And.intro) <;> first | assumption | exact Below.drew (by assumption) | exact blkDrew (by assumption) | exact cellKeep (by assumption) (by assumption) | exact belowKeep (by assumption) (by assumption) | exact blkKeep (by assumption) (by assumption)))) | (go_at_call 55; refine (putU_yes X A n u hjl (by omega) (by omega) hu _).mono ?_; rw [HY.out]; rintro e' w1 ⟨rfl, rfl⟩; refine ⟨rfl, ?_⟩; (try dsimp only); (first | (go_split_ands; (repeat' apply And.intro) <;> first | assumption | exact Below.drew (by assumption) | exact blkDrew (by assumption) | exact cellKeep (by assumption) (by assumption) | exact belowKeep (by assumption) (by assumption) | exact blkKeep (by assumption) (by assumption))))))); (try simp only [Act.put, List.setIfInBounds_toArray, List.set_cons_zero, List.set_cons_succ]))
      first | (refine quiet_neg (by rfl) ?_; simp only [Act.put, List.setIfInBounds_toArray, List.set_cons_zero, List.set_cons_succ]) | (refine quiet_ex (by rfl) ?_; apply Exists.intro; refine ⟨fun w0 hS => ?_, ?_⟩; (focus ((try dsimp only at hS); go_simp; (first | done | (with_reducible rfl) | (go_at_call 57; refine (ones_any _ (by omega) (by omega) _).mono ?_; rintro e' w1 ⟨rfl, rfl⟩; refine ⟨rfl, ?_⟩; (try dsimp only); (first | (go_split_ands; (repeat' apply And.intro) <;> first | assumption | exact Below.drew (by assumption) | exact blkDrew (by assumption) | exact cellKeep (by assumption) (by assumption) | exact belowKeep (by assumption) (by assumption) | exact blkKeep (by assumption) (by assumption)))) | (go_at_call 55; refine (putU_yes X A n u hjl (by omega) (by omega) hu _).mono ?_; rw [HY.out]; rintro e' w1 ⟨rfl, rfl⟩; refine ⟨rfl, ?_⟩; (try dsimp only); (first | (go_split_ands; (repeat' apply And.intro) <;> first | assumption | exact Below.drew (by assumption) | exact blkDrew (by assumption) | exact cellKeep (by assumption) (by assumption) | exact belowKeep (by assumption) (by assumption) | exact blkKeep (by assumption) (by assumption))))))); (try simp only [Act.put, List.setIfInBounds_toArray, List.set_cons_zero, List.set_cons_succ]))
      first | (refine quiet_neg (by rfl) ?_; simp only [Act.put, List.setIfInBounds_toArray, List.set_cons_zero, List.set_cons_succ]) | (refine quiet_ex (by rfl) ?_; apply Exists.intro; refine ⟨fun w0 hS => ?_, ?_⟩; (focus ((try dsimp only at hS); go_simp; (first | done | (with_reducible rfl) | (go_at_call 57; refine (ones_any _ (by omega) (by omega) _).mono ?_; rintro e' w1 ⟨rfl, rfl⟩; refine ⟨rfl, ?_⟩; (try dsimp only); (first | (go_split_ands; (repeat' apply And.intro) <;> first | assumption | exact Below.drew (by assumption) | exact blkDrew (by assumption) | exact cellKeep (by assumption) (by assumption) | exact belowKeep (by assumption) (by assumption) | exact blkKeep (by assumption) (by assumption)))) | (go_at_call 55; refine (putU_yes X A n u hjl (by omega) (by omega) hu _).mono ?_; rw [HY.out]; rintro e' w1 ⟨rfl, rfl⟩; refine ⟨rfl, ?_⟩; (try dsimp only); (first | (go_split_ands; (repeat' apply And.intro) <;> first | assumption | exact Below.drew (by assumption) | exact blkDrew (by assumption) | exact cellKeep (by assumption) (by assumption) | exact belowKeep (by assumption) (by assumption) | exact blkKeep (by assumption) (by assumption))))))); (try simp only [Act.put, List.setIfInBounds_toArray, List.set_cons_zero, List.set_cons_succ]))
      first | (refine quiet_neg (by rfl) ?_; simp only [Act.put, List.setIfInBounds_toArray, List.set_cons_zero, List.set_cons_succ]) | (refine quiet_ex (by rfl) ?_; apply Exists.intro; refine ⟨fun w0 hS => ?_, ?_⟩; (focus ((try dsimp only at hS); go_simp; (first | done | (with_reducible rfl) | (go_at_call 57; refine (ones_any _ (by omega) (by omega) _).mono ?_; rintro e' w1 ⟨rfl, rfl⟩; refine ⟨rfl, ?_⟩; (try dsimp only); (first | (go_split_ands; (repeat' apply And.intro) <;> first | assumption | exact Below.drew (by assumption) | exact blkDrew (by assumption) | exact cellKeep (by assumption) (by assumption) | exact belowKeep (by assumption) (by assumption) | exact blkKeep (by assumption) (by assumption)))) | (go_at_call 55; refine (putU_yes X A n u hjl (by omega) (by omega) hu _).mono ?_; rw [HY.out]; rintro e' w1 ⟨rfl, rfl⟩; refine ⟨rfl, ?_⟩; (try dsimp only); (first | (go_split_ands; (repeat' apply And.intro) <;> first | assumption | exact Below.drew (by assumption) | exact blkDrew (by assumption) | exact cellKeep (by assumption) (by assumption) | exact belowKeep (by assumption) (by assumption) | exact blkKeep (by assumption) (by assumption))))))); (try simp only [Act.put, List.setIfInBounds_toArray, List.set_cons_zero, List.set_cons_succ]))
      first | (refine quiet_neg (by rfl) ?_; simp only [Act.put, List.setIfInBounds_toArray, List.set_cons_zero, List.set_cons_succ]) | (refine quiet_ex (by rfl) ?_; apply Exists.intro; refine ⟨fun w0 hS => ?_, ?_⟩; (focus ((try dsimp only at hS); go_simp; (first | done | (with_reducible rfl) | (go_at_call 57; refine (ones_any _ (by omega) (by omega) _).mono ?_; rintro e' w1 ⟨rfl, rfl⟩; refine ⟨rfl, ?_⟩; (try dsimp only); (first | (go_split_ands; (repeat' apply And.intro) <;> first | assumption | exact Below.drew (by assumption) | exact blkDrew (by assumption) | exact cellKeep (by assumption) (by assumption) | exact belowKeep (by assumption) (by assumption) | exact blkKeep (by assumption) (by assumption)))) | (go_at_call 55; refine (putU_yes X A n u hjl (by omega) (by omega) hu _).mono ?_; rw [HY.out]; rintro e' w1 ⟨rfl, rfl⟩; refine ⟨rfl, ?_⟩; (try dsimp only); (first | (go_split_ands; (repeat' apply And.intro) <;> first | assumption | exact Below.drew (by assumption) | exact blkDrew (by assumption) | exact cellKeep (by assumption) (by assumption) | exact belowKeep (by assumption) (by assumption) | exact blkKeep (by assumption) (by assumption))))))); (try simp only [Act.put, List.setIfInBounds_toArray, List.set_cons_zero, List.set_cons_succ]))
      first | (refine quiet_neg (by rfl) ?_; simp only [Act.put, List.setIfInBounds_toArray, List.set_cons_zero, List.set_cons_succ]) | (refine quiet_ex (by rfl) ?_; apply Exists.intro; refine ⟨fun w0 hS => ?_, ?_⟩; (focus ((try dsimp only at hS); go_simp; (first | done | (with_reducible rfl) | (go_at_call 57; refine (ones_any _ (by omega) (by omega) _).mono ?_; rintro e' w1 ⟨rfl, rfl⟩; refine ⟨rfl, ?_⟩; (try dsimp only); (first | (go_split_ands; (repeat' apply And.intro) <;> first | assumption | exact Below.drew (by assumption) | exact blkDrew (by assumption) | exact cellKeep (by assumption) (by assumption) | exact belowKeep (by assumption) (by assumption) | exact blkKeep (by assumption) (by assumption)))) | (go_at_call 55; refine (putU_yes X A n u hjl (by omega) (by omega) hu _).mono ?_; rw [HY.out]; rintro e' w1 ⟨rfl, rfl⟩; refine ⟨rfl, ?_⟩; (try dsimp only); (first | (go_split_ands; (repeat' apply And.intro) <;> first | assumption | exact Below.drew (by assumption) | exact blkDrew (by assumption) | exact cellKeep (by assumption) (by assumption) | exact belowKeep (by assumption) (by assumption) | exact blkKeep (by assumption) (by assumption))))))); (try simp only [Act.put, List.setIfInBounds_toArray, List.set_cons_zero, List.set_cons_succ]))
      first | (refine quiet_neg (by rfl) ?_; simp only [Act.put, List.setIfInBounds_toArray, List.set_cons_zero, List.set_cons_succ]) | (refine quiet_ex (by rfl) ?_; apply Exists.intro; refine ⟨fun w0 hS => ?_, ?_⟩; (focus ((try dsimp only at hS); go_simp; (first | done | (with_reducible rfl) | (go_at_call 57; refine (ones_any _ (by omega) (by omega) _).mono ?_; rintro e' w1 ⟨rfl, rfl⟩; refine ⟨rfl, ?_⟩; (try dsimp only); (first | (go_split_ands; (repeat' apply And.intro) <;> first | assumption | exact Below.drew (by assumption) | exact blkDrew (by assumption) | exact cellKeep (by assumption) (by assumption) | exact belowKeep (by assumption) (by assumption) | exact blkKeep (by assumption) (by assumption)))) | (go_at_call 55; refine (putU_yes X A n u hjl (by omega) (by omega) hu _).mono ?_; rw [HY.out]; rintro e' w1 ⟨rfl, rfl⟩; refine ⟨rfl, ?_⟩; (try dsimp only); (first | (go_split_ands; (repeat' apply And.intro) <;> first | assumption | exact Below.drew (by assumption) | exact blkDrew (by assumption) | exact cellKeep (by assumption) (by assumption) | exact belowKeep (by assumption) (by assumption) | exact blkKeep (by assumption) (by assumption))))))); (try simp only [Act.put, List.setIfInBounds_toArray, List.set_cons_zero, List.set_cons_succ]))
      first | (refine quiet_neg (by rfl) ?_; simp only [Act.put, List.setIfInBounds_toArray, List.set_cons_zero, List.set_cons_succ]) | (refine quiet_ex (by rfl) ?_; apply Exists.intro; refine ⟨fun w0 hS => ?_, ?_⟩; (focus ((try dsimp only at hS); go_simp; (first | done | (with_reducible rfl) | (go_at_call 57; refine (ones_any _ (by omega) (by omega) _).mono ?_; rintro e' w1 ⟨rfl, rfl⟩; refine ⟨rfl, ?_⟩; (try dsimp only); (first | (go_split_ands; (repeat' apply And.intro) <;> first | assumption | exact Below.drew (by assumption) | exact blkDrew (by assumption) | exact cellKeep (by assumption) (by assumption) | exact belowKeep (by assumption) (by assumption) | exact blkKeep (by assumption) (by assumption)))) | (go_at_call 55; refine (putU_yes X A n u hjl (by omega) (by omega) hu _).mono ?_; rw [HY.out]; rintro e' w1 ⟨rfl, rfl⟩; refine ⟨rfl, ?_⟩; (try dsimp only); (first | (go_split_ands; (repeat' apply And.intro) <;> first | assumption | exact Below.drew (by assumption) | exact blkDrew (by assumption) | exact cellKeep (by assumption) (by assumption) | exact belowKeep (by assumption) (by assumption) | exact blkKeep (by assumption) (by assumption))))))); (try simp only [Act.put, List.setIfInBounds_toArray, List.set_cons_zero, List.set_cons_succ]))
      first | (refine quiet_neg (by rfl) ?_; simp only [Act.put, List.setIfInBounds_toArray, List.set_cons_zero, List.set_cons_succ]) | (refine quiet_ex (by rfl) ?_; apply Exists.intro; refine ⟨fun w0 hS => ?_, ?_⟩; (focus ((try dsimp only at hS); go_simp; (first | done | (with_reducible rfl) | (go_at_call 57; refine (ones_any _ (by omega) (by omega) _).mono ?_; rintro e' w1 ⟨rfl, rfl⟩; refine ⟨rfl, ?_⟩; (try dsimp only); (first | (go_split_ands; (repeat' apply And.intro) <;> first | assumption | exact Below.drew (by assumption) | exact blkDrew (by assumption) | exact cellKeep (by assumption) (by assumption) | exact belowKeep (by assumption) (by assumption) | exact blkKeep (by assumption) (by assumption)))) | (go_at_call 55; refine (putU_yes X A n u hjl (by omega) (by omega) hu _).mono ?_; rw [HY.out]; rintro e' w1 ⟨rfl, rfl⟩; refine ⟨rfl, ?_⟩; (try dsimp only); (first | (go_split_ands; (repeat' apply And.intro) <;> first | assumption | exact Below.drew (by assumption) | exact blkDrew (by assumption) | exact cellKeep (by assumption) (by assumption) | exact belowKeep (by assumption) (by assumption) | exact blkKeep (by assumption) (by assumption))))))); (try simp only [Act.put, List.setIfInBounds_toArray, List.set_cons_zero, List.set_cons_succ]))
      first | (refine quiet_neg (by rfl) ?_; simp only [Act.put, List.setIfInBounds_toArray, List.set_cons_zero, List.set_cons_succ]) | (refine quiet_ex (by rfl) ?_; apply Exists.intro; refine ⟨fun w0 hS => ?_, ?_⟩; (focus ((try dsimp only at hS); go_simp; (first | done | (with_reducible rfl) | (go_at_call 57; refine (ones_any _ (by omega) (by omega) _).mono ?_; rintro e' w1 ⟨rfl, rfl⟩; refine ⟨rfl, ?_⟩; (try dsimp only); (first | (go_split_ands; (repeat' apply And.intro) <;> first | assumption | exact Below.drew (by assumption) | exact blkDrew (by assumption) | exact cellKeep (by assumption) (by assumption) | exact belowKeep (by assumption) (by assumption) | exact blkKeep (by assumption) (by assumption)))) | (go_at_call 55; refine (putU_yes X A n u hjl (by omega) (by omega) hu _).mono ?_; rw [HY.out]; rintro e' w1 ⟨rfl, rfl⟩; refine ⟨rfl, ?_⟩; (try dsimp only); (first | (go_split_ands; (repeat' apply And.intro) <;> first | assumption | exact Below.drew (by assumption) | exact blkDrew (by assumption) | exact cellKeep (by assumption) (by assumption) | exact belowKeep (by assumption) (by assumption) | exact blkKeep (by assumption) (by assumption))))))); (try simp only [Act.put, List.setIfInBounds_toArray, List.set_cons_zero, List.set_cons_succ]))
      first | (refine quiet_neg (by rfl) ?_; simp only [Act.put, List.setIfInBounds_toArray, List.set_cons_zero, List.set_cons_succ]) | (refine quiet_ex (by rfl) ?_; apply Exists.intro; refine ⟨fun w0 hS => ?_, ?_⟩; (focus ((try dsimp only at hS); go_simp; (first | done | (with_reducible rfl) | (go_at_call 57; refine (ones_any _ (by omega) (by omega) _).mono ?_; rintro e' w1 ⟨rfl, rfl⟩; refine ⟨rfl, ?_⟩; (try dsimp only); (first | (go_split_ands; (repeat' apply And.intro) <;> first | assumption | exact Below.drew (by assumption) | exact blkDrew (by assumption) | exact cellKeep (by assumption) (by assumption) | exact belowKeep (by assumption) (by assumption) | exact blkKeep (by assumption) (by assumption)))) | (go_at_call 55; refine (putU_yes X A n u hjl (by omega) (by omega) hu _).mono ?_; rw [HY.out]; rintro e' w1 ⟨rfl, rfl⟩; refine ⟨rfl, ?_⟩; (try dsimp only); (first | (go_split_ands; (repeat' apply And.intro) <;> first | assumption | exact Below.drew (by assumption) | exact blkDrew (by assumption) | exact cellKeep (by assumption) (by assumption) | exact belowKeep (by assumption) (by assumption) | exact blkKeep (by assumption) (by assumption))))))); (try simp only [Act.put, List.setIfInBounds_toArray, List.set_cons_zero, List.set_cons_succ]))
      refine wpQuiet_nil ?_
      intro w' hS
      try dsimp only at hS
      obtain ⟨hb, b1, hrest⟩ := hS
      clear hrest
      obtain ⟨c_b1_0, c_b1_1, -, -⟩ := cells2 b1
      have y_b1 := lt_blk b1
      go_wp2
      go_roundw
      case rel => exact ⟨k + 1, by omega, by go_num, by rw [HJ2.out], by rw [HW1.out]; go_num, hb⟩
      case measure => simp [intOf]; omega
    · obtain rfl : k = fs.length := by omega
      rw [List.take_length]
      go_wp2
      go_ret
      exact ⟨rfl, hb⟩

theorem wrapK (X v q : Nat) (h : X + v * q < 2 ^ 64) : IntKind.u64.wrap ((X : Int) + IntKind.u64.wrap ((v : Int) * q)) = ((X + v * q : Nat) : Int) := by
  have e : (v : Int) * q = ((v * q : Nat) : Int) := by simp
  rw [e]
  generalize v * q = m at *
  rw [IntKind.wrap_u64, IntKind.wrap_u64]
  omega
theorem wrapJ (X v p q : Nat) (h : X + v % p * q < 2 ^ 64) : IntKind.u64.wrap ((X : Int) + IntKind.u64.wrap ((v : Int) % p * q)) = ((X + v % p * q : Nat) : Int) := by
  have e : (v : Int) % p = ((v % p : Nat) : Int) := by simp
  rw [e]
  exact wrapK X (v % p) q h
theorem len_wid {fs : List (Nat × Nat)} (h : fieldsOk fs) : fs.length ≤ 64 := by
  have key : ∀ l : List (Nat × Nat), (∀ f ∈ l, 1 ≤ f.1 ∧ f.2 < 18446744073709551616) → l.length ≤ P26.wid l := by
    intro l
    induction l with
    | nil => intro _; simp
    | cons f l ih => intro h; rw [P26.wid_cons]; have := ih (fun x hx => h x (by simp [hx])); have := (h f (by simp)).1; simp; omega
  have := key fs h.1
  have := h.2
  omega

set_option maxHeartbeats 1000000 in
theorem Join_any (g cap : Nat) (fs : List (Nat × Nat)) (hok : fieldsOk fs) (w : World) (hg : g < w.heap.size) (hf : fieldsAt w g fs) :
    Calls Try.prog 80 #[.slice (some ⟨g, 0, none⟩) fs.length cap] w fun e w' => e = .returned (.int .u64 (P26.sumN fs)) ∧ w = w' := by
  have hlen := len_wid hok
  go_enter Try.func80, Try.ntmps80
  go_wp2
  go_loop [3, 4, 5, 6] (fun a p i v => ∃ k : Nat, k ≤ fs.length ∧ i = .int .i64 k ∧ a = .int .u64 (P26.sumN (fs.take k)) ∧ p = .int .i64 (P26.wid (fs.take k)))
    (fun _ _ i _ => fs.length - (intOf i).toNat)
  case atStart => exact ⟨0, Nat.zero_le _, rfl, rfl, rfl⟩
  case round =>
    obtain ⟨k, hk, rfl, rfl, rfl⟩ := hrel
    by_cases hlt : k < fs.length
    · obtain ⟨c0, c1⟩ := hf k hlt
      have hsn := take_snoc fs k hlt (0, 0)
      obtain ⟨f1, f2⟩ := hok.1 _ (show fs.getD k (0, 0) ∈ fs by rw [List.getD_eq_getElem?_getD, List.getElem?_eq_getElem hlt]; exact List.getElem_mem _)
      have hw1 : P26.wid (fs.take (k + 1)) = P26.wid (fs.take k) + (fs.getD k (0, 0)).1 := by rw [hsn, P26.wid_snoc]
      have hw2 := wid_take_le fs (k + 1)
      have hj1 : P26.sumN (fs.take (k + 1)) = P26.sumN (fs.take k) + (fs.getD k (0, 0)).2 % 2 ^ (fs.getD k (0, 0)).1 * 2 ^ P26.wid (fs.take k) := by rw [hsn, P26.sumN_snoc]
      have h64 := hok.2
      have hs1 := P26.join_sum (fs.take (k + 1)) (by omega)
      have hs2 := P26.join_lt (fs.take (k + 1)) (by omega)
      rw [hs1.1] at hs2
      clear hsn hs1
      generalize (fs.getD k (0, 0)).1 = n at *
      generalize (fs.getD k (0, 0)).2 = v at *
      rw [hw1] at hw2
      have HW1 := Lib.hid hw1
      clear hw1
      generalize P26.wid (fs.take k) = A at *
      rw [hj1] at hs2
      have HJ1 := Lib.hid hj1
      clear hj1
      generalize P26.sumN (fs.take k) = X at *
      obtain ⟨q, HQ⟩ : ∃ q : Nat, Hid (2 ^ A = q) := ⟨2 ^ A, Lib.hid rfl⟩
      have hq : 0 < q := by have := Nat.two_pow_pos A; have := HQ.out; omega
      rw [HQ.out] at hs2
      have HJ2 : Hid (P26.sumN (fs.take (k + 1)) = X + v % 2 ^ n * q) := by show _ = _; rw [HJ1.out, HQ.out]
      by_cases hn : n < 64
      · obtain ⟨p, HP⟩ : ∃ p : Nat, Hid (2 ^ n = p) := ⟨2 ^ n, Lib.hid rfl⟩
        have hp : 0 < p := by have := Nat.two_pow_pos n; have := HP.out; omega
        rw [HP.out] at hs2
        have HJ3 : Hid (P26.sumN (fs.take (k + 1)) = X + v % p * q) := by show _ = _; rw [HJ2.out, HP.out]
        have hp2 : (p : Int) ≠ 0 := by omega
        go_wp2_with fail
        refine (power_any n hn _).mono ?_
        rw [HP.out]
        rintro e w' ⟨rfl, rfl⟩
        go_wp2_with fail
        refine (power_any A (by omega) _).mono ?_
        rw [HQ.out]
        rintro e w' ⟨rfl, rfl⟩
        go_wp2
        go_round
        case rel => exact ⟨k + 1, by omega, by go_num, by rw [HJ3.out]; exact congrArg _ (wrapJ X v p q hs2), by rw [HW1.out]; go_num⟩
        case measure => simp [intOf]; omega
      · obtain rfl : n = 64 := by omega
        have hv64 : v % 2 ^ 64 = v := Nat.mod_eq_of_lt (by omega)
        rw [hv64] at hs2
        have HJ3 : Hid (P26.sumN (fs.take (k + 1)) = X + v * q) := by show _ = _; rw [HJ2.out, hv64]
        clear hv64
        go_wp2_with fail
        refine (power_any A (by omega) _).mono ?_
        rw [HQ.out]
        rintro e w' ⟨rfl, rfl⟩
        go_wp2
        go_round
        case rel => exact ⟨k + 1, by omega, by go_num, by rw [HJ3.out]; first | exact congrArg _ (wrapK X v q hs2) | exact congrArg _ (by simp), by rw [HW1.out]; go_num⟩
        case measure => simp [intOf]; omega
    · obtain rfl : k = fs.length := by omega
      rw [List.take_length]
      go_wp2
      go_ret
      exact ⟨rfl, rfl⟩
end Go.Proofs.Ythmbiddnpogolaa
