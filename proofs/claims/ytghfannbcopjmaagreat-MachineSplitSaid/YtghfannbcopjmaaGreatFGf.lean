import Derived.Test.YtghfannbcopjmaaGreatFxX
namespace Go.Proofs.YtghfannbcopjmaaGreat
open Go Go.RowKit
set_option linter.unusedVariables false
set_option linter.unusedSimpArgs false
set_option maxRecDepth 100000
def tw (a : Nat) : Nat := if a < 128 then 2 * a else xr (2 * a % 256) 29
theorem tw_lt {a : Nat} (h : a < 256) : tw a < 256 := by
 unfold tw
 split
 ·omega
 ·exact xr_lt (by omega) (by decide)
theorem twice0 (a : Nat) (h : a < 256) (q : decide (((a / 128 * 128 : Nat) : Int) = 0) = true) : Sp P 203 [vb a] [] (vb (2 * a % 256)) [] :=
 Sp.of (fn := Tryz.f203) rfl rfl 3 [] (.e 4 (bTop a (by omega)) (.t (congrArg (!·) q) (.e 10 (bShl a (by omega)) .nil))) (by kernel_rfl) (by kernel_rfl)
theorem twice1 (a : Nat) (h : a < 256) (q : decide (((a / 128 * 128 : Nat) : Int) = 0) = false) : Sp P 203 [vb a] [] (vb (xr (2 * a % 256) 29)) [] :=
 Sp.of (fn := Tryz.f203) rfl rfl 3 [] (.e 4 (bTop a (by omega)) (.t (congrArg (!·) q) (.e 7 (bShl a (by omega)) (.e 8 (bXor (2 * a % 256) 29 (by omega) (by omega)) .nil)))) (by kernel_rfl) (by kernel_rfl)
theorem twice_sp (a : Nat) (h : a < 256) : Sp P 203 [vb a] [] (vb (tw a)) [] := by
 by_cases hq : a < 128
 ·have e : tw a = 2 * a % 256 := by unfold tw; rw [if_pos hq]; omega
  rw [e]
  exact twice0 a h (by simp; omega)
 ·have e : tw a = xr (2 * a % 256) 29 := by unfold tw; rw [if_neg hq]
  rw [e]
  exact twice1 a h (by simp; omega)
def cu (x : Int) : Nat := (x % 255).toNat
theorem cu_lt (x : Int) : cu x < 255 := by unfold cu; omega
theorem cuA {x : Int} (h : ¬ x.tmod 255 < 0) : Value.int .i64 (x.tmod 255) = .int .i64 ((cu x : Nat) : Int) := by
 congr 1
 have h1 := Int.tmod_add_mul_tdiv x 255
 have h2 := Int.tmod_lt_of_pos x (b := 255) (by decide)
 unfold cu
 omega
theorem cuB {x : Int} (h : x.tmod 255 < 0) : Value.int .i64 (IntKind.i64.wrap (x.tmod 255 + 255)) = .int .i64 ((cu x : Nat) : Int) := by
 have h1 := Int.tmod_add_mul_tdiv x 255
 have h2 : -255 < x.tmod 255 := by
  rcases Int.le_total 0 x with h3 | h3
  ·have := Int.tmod_nonneg 255 h3; omega
  ·have h4 := Int.neg_tmod x 255
   have h5 := Int.tmod_lt_of_pos (-x) (b := 255) (by decide)
   omega
 refine aW ⟨?_, ?_, ?_⟩ <;> unfold cu <;> omega
theorem cut0 (x : Int) (q : ¬ x.tmod 255 < 0) : Sp P 243 [vi x] [] (vn (cu x)) [] :=
 Sp.of (fn := Tryz.f243) rfl rfl 3 [] (.e 4 (cuA q) (.t (show (decide (((cu x : Nat) : Int) < 0)) = false from decide_eq_false (by omega)) .nil)) (by kernel_rfl) (by kernel_rfl)
theorem cut1 (x : Int) (q : x.tmod 255 < 0) : Sp P 243 [vi x] [] (vn (cu x)) [] :=
 Sp.of (fn := Tryz.f243) rfl rfl 3 [] (.t (show (decide (x.tmod 255 < 0)) = true from decide_eq_true q) (.e 8 (cuB q) .nil)) (by kernel_rfl) (by kernel_rfl)
theorem cut_sp (x : Int) : Sp P 243 [vi x] [] (vn (cu x)) [] := by
 by_cases q : x.tmod 255 < 0
 ·exact cut1 x q
 ·exact cut0 x q
def pw : Nat → Nat
 | 0 => 1
 | i + 1 => tw (pw i)
theorem pw_lt : ∀ i, pw i < 256
 | 0 => by decide
 | i + 1 => tw_lt (pw_lt i)
def ex (i : Nat) : Nat := if i < 255 then pw i else 0
theorem ex_lt (i : Nat) : ex i < 256 := by unfold ex; split; exact pw_lt i; decide
def lgs : Nat → Nat → Nat
 | 0, _ => 0
 | n + 1, v => if v = pw n then n else lgs n v
def lg (v : Nat) : Nat := lgs 255 v
theorem lgs_lt : ∀ n v : Nat, n ≤ 255 → lgs n v < 255
 | 0, v, _ => by simp [lgs]
 | n + 1, v, h => by
  unfold lgs
  split
  ·omega
  ·exact lgs_lt n v (by omega)
theorem lg_lt (v : Nat) : lg v < 255 := lgs_lt 255 v (Nat.le_refl _)
def exA : Nat → Nat → Int
 | 0 => fun _ => 0
 | n + 1 => upI (exA n) n ((pw n : Nat) : Int)
def lgA : Nat → Nat → Int
 | 0 => fun _ => 0
 | n + 1 => upI (lgA n) (pw n) ((n : Nat) : Int)
theorem exA_eq (n : Nat) : exA n = nf fun i => if i < n then pw i else 0 := by
 induction n with
 | zero => rfl
 | succ n ih =>
  funext i
  unfold exA
  rw [ih]
  unfold upI nf
  by_cases h : i = n
  ·subst h
   rw [if_pos rfl]
   show _ = (((if i < i + 1 then pw i else 0) : Nat) : Int)
   rw [if_pos (by omega)]
  ·rw [if_neg h]
   show (((if i < n then pw i else 0) : Nat) : Int) = (((if i < n + 1 then pw i else 0) : Nat) : Int)
   by_cases h2 : i < n
   ·rw [if_pos h2, if_pos (by omega)]
   ·rw [if_neg h2, if_neg (by omega)]
theorem lgA_eq (n : Nat) : lgA n = nf (lgs n) := by
 induction n with
 | zero => rfl
 | succ n ih =>
  funext i
  unfold lgA
  rw [ih]
  unfold upI nf
  show (if i = pw n then ((n : Nat) : Int) else ((lgs n i : Nat) : Int)) = (((if i = pw n then n else lgs n i) : Nat) : Int)
  split <;> rfl
abbrev gF : B := .blk [.ar .u8 255 (nf ex), .ar .i64 256 (nf lg)] 335
theorem new_raw   : Sp P 156 [] [] (.pt 0 0) [.blk [.ar .u8 255 (exA 255), .ar .i64 256 (lgA 255)] 335] :=
 Sp.of (fn := Tryz.f156) rfl rfl 3 [.id 1] (.lp 255 2 [] [] (fun i => [(6, vn i), (2, vb (pw i))]) (fun i => [(1, .blk [.ar .u8 255 (exA i), .ar .i64 256 (lgA i)] 335)]) (fun i hi => (.t (show (decide (((i : Nat) : Int) < 255)) = true from decide_eq_true (by omega)) (.ix (i := i) (m := 255) hi (.lt (i := i) (n := 255) hi (.ix (i := pw i) (m := 256) (pw_lt _) (.lt (i := pw i) (n := 256) (pw_lt _) (.c [] (twice_sp (pw i) (pw_lt _)) (.e 23 (aAdd (a := ((i : Nat) : Int)) (b := 1) (c := ((i + 1 : Nat) : Int)) (by omega)) .nil)))))))) (.n .nil)) (by kernel_rfl) (by kernel_rfl)
theorem gfNew_sp : Sp P 156 [] [] (.pt 0 0) [gF] := by
 have h := new_raw
 rw [exA_eq, lgA_eq] at h
 exact h
theorem exp_sp (x : Int)  : Sp P 201 [.pt 0 0, vi x] [.ro (gF)] (vb (ex (cu x))) [.ro (gF)] :=
 Sp.of (fn := Tryz.f201) rfl rfl 3 [.id 0] (.c [] (cut_sp x) (.ix (i := cu x) (m := 255) (cu_lt _) (.lt (i := cu x) (n := 255) (cu_lt _) .nil))) (by kernel_rfl) (by kernel_rfl)
def mulF (a b : Nat) : Nat := if a = 0 then 0 else if b = 0 then 0 else ex (cu ((lg a + lg b : Nat) : Int))
def divF (a b : Nat) : Nat := if b = 0 then 0 else if a = 0 then 0 else ex (cu ((lg a : Nat) - (lg b : Nat) : Int))
def noI (b : Nat) : Int := if b = 0 then 16 else 0
def logF (a : Nat) : Nat := if a = 0 then 0 else lg a
theorem mulF_lt (a b : Nat) : mulF a b < 256 := by unfold mulF; split; decide; split; decide; exact ex_lt _
theorem divF_lt (a b : Nat) : divF a b < 256 := by unfold divF; split; decide; split; decide; exact ex_lt _
theorem mul_sp_0 (a : Nat) (b : Nat) (ha : a < 256) (hb : b < 256) (q1 : (decide (((a : Nat) : Int) = 0)) = true) : Sp P 242 [.pt 0 0, vb a, vb b] [.ro (gF)] (vb 0) [.ro (gF)] :=
 Sp.of (fn := Tryz.f242) rfl rfl 3 [.id 0] (.t q1 (.t q1 (.t q1 (.y .nil)))) (by kernel_rfl) (by kernel_rfl)
theorem mul_sp_1 (a : Nat) (b : Nat) (ha : a < 256) (hb : b < 256) (q1 : (decide (((a : Nat) : Int) = 0)) = false) (q2 : (decide (((b : Nat) : Int) = 0)) = true) : Sp P 242 [.pt 0 0, vb a, vb b] [.ro (gF)] (vb 0) [.ro (gF)] :=
 Sp.of (fn := Tryz.f242) rfl rfl 3 [.id 0] (.t q1 (.t q1 (.t q1 (.t q2 .nil)))) (by kernel_rfl) (by kernel_rfl)
theorem mul_sp_2 (a : Nat) (b : Nat) (ha : a < 256) (hb : b < 256) (q1 : (decide (((a : Nat) : Int) = 0)) = false) (q2 : (decide (((b : Nat) : Int) = 0)) = false) : Sp P 242 [.pt 0 0, vb a, vb b] [.ro (gF)] (vb (ex (cu (((lg a) + (lg b) : Nat) : Int)))) [.ro (gF)] :=
 Sp.of (fn := Tryz.f242) rfl rfl 3 [.id 0] (.t q1 (.t q1 (.t q1 (.t q2 (.ix (i := a) (m := 256) ha (.lt (i := a) (n := 256) ha (.ix (i := b) (m := 256) hb (.lt (i := b) (n := 256) hb (.e 26 (aAdd (a := ((lg a : Nat) : Int)) (b := ((lg b : Nat) : Int)) (c := (((lg a) + (lg b) : Nat) : Int)) (by have := lg_lt a; have := lg_lt b; omega)) (.c [.id 0] (exp_sp (((lg a) + (lg b) : Nat) : Int)) .nil)))))))))) (by kernel_rfl) (by kernel_rfl)
theorem mul_sp (a : Nat) (b : Nat) (ha : a < 256) (hb : b < 256) : Sp P 242 [.pt 0 0, vb a, vb b] [.ro (gF)] (vb (mulF a b)) [.ro (gF)] := by
 cases q1 : decide (((a : Nat) : Int) = 0) with
 | true =>
  have e : (mulF a b) = 0 := by unfold mulF; simp_all
  rw [e]; clear e
  exact mul_sp_0 a b ha hb q1
 | false =>
  cases q2 : decide (((b : Nat) : Int) = 0) with
  | true =>
   have e : (mulF a b) = 0 := by unfold mulF; simp_all
   rw [e]; clear e
   exact mul_sp_1 a b ha hb q1 q2
  | false =>
   have e : (mulF a b) = (ex (cu (((lg a) + (lg b) : Nat) : Int))) := by unfold mulF; simp_all
   rw [e]; clear e
   exact mul_sp_2 a b ha hb q1 q2
theorem div_sp_0 (a : Nat) (b : Nat) (ha : a < 256) (hb : b < 256) (q1 : (decide (((b : Nat) : Int) = 0)) = true) : Sp P 283 [.pt 0 0, vb a, vb b] [.ro (gF)] (.tu [vb 0, vn 16]) [.ro (gF)] :=
 Sp.of (fn := Tryz.f283) rfl rfl 3 [.id 0] (.t q1 .nil) (by kernel_rfl) (by kernel_rfl)
theorem div_sp_1 (a : Nat) (b : Nat) (ha : a < 256) (hb : b < 256) (q1 : (decide (((b : Nat) : Int) = 0)) = false) (q2 : (decide (((a : Nat) : Int) = 0)) = true) : Sp P 283 [.pt 0 0, vb a, vb b] [.ro (gF)] (.tu [vb 0, vn 0]) [.ro (gF)] :=
 Sp.of (fn := Tryz.f283) rfl rfl 3 [.id 0] (.t q1 (.t q2 .nil)) (by kernel_rfl) (by kernel_rfl)
theorem div_sp_2 (a : Nat) (b : Nat) (ha : a < 256) (hb : b < 256) (q1 : (decide (((b : Nat) : Int) = 0)) = false) (q2 : (decide (((a : Nat) : Int) = 0)) = false) : Sp P 283 [.pt 0 0, vb a, vb b] [.ro (gF)] (.tu [vb (ex (cu (((lg a : Nat) : Int) - ((lg b : Nat) : Int)))), vn 0]) [.ro (gF)] :=
 Sp.of (fn := Tryz.f283) rfl rfl 3 [.id 0] (.t q1 (.t q2 (.ix (i := a) (m := 256) ha (.lt (i := a) (n := 256) ha (.ix (i := b) (m := 256) hb (.lt (i := b) (n := 256) hb (.e 27 (aSub (a := ((lg a : Nat) : Int)) (b := ((lg b : Nat) : Int)) (c := ((lg a : Nat) : Int) - ((lg b : Nat) : Int)) (by have := lg_lt a; have := lg_lt b; omega)) (.c [.id 0] (exp_sp (((lg a : Nat) : Int) - ((lg b : Nat) : Int))) .nil)))))))) (by kernel_rfl) (by kernel_rfl)
theorem div_sp (a : Nat) (b : Nat) (ha : a < 256) (hb : b < 256) : Sp P 283 [.pt 0 0, vb a, vb b] [.ro (gF)] (.tu [vb (divF a b), vi (noI b)]) [.ro (gF)] := by
 cases q1 : decide (((b : Nat) : Int) = 0) with
 | true =>
  have e : (divF a b) = 0 := by simp_all [divF, noI]
  rw [e]; clear e
  have e : (noI b) = 16 := by simp_all [divF, noI]
  rw [e]; clear e
  exact div_sp_0 a b ha hb q1
 | false =>
  cases q2 : decide (((a : Nat) : Int) = 0) with
  | true =>
   have e : (divF a b) = 0 := by simp_all [divF, noI]
   rw [e]; clear e
   have e : (noI b) = 0 := by simp_all [divF, noI]
   rw [e]; clear e
   exact div_sp_1 a b ha hb q1 q2
  | false =>
   have e : (divF a b) = (ex (cu (((lg a : Nat) : Int) - ((lg b : Nat) : Int)))) := by simp_all [divF, noI]
   rw [e]; clear e
   have e : (noI b) = 0 := by simp_all [divF, noI]
   rw [e]; clear e
   exact div_sp_2 a b ha hb q1 q2
theorem log_sp_0 (a : Nat) (ha : a < 256) (q1 : (decide (((a : Nat) : Int) = 0)) = true) : Sp P 302 [.pt 0 0, vb a] [.ro (gF)] (.tu [vn 0, vn 16]) [.ro (gF)] :=
 Sp.of (fn := Tryz.f302) rfl rfl 3 [.id 0] (.t q1 .nil) (by kernel_rfl) (by kernel_rfl)
theorem log_sp_1 (a : Nat) (ha : a < 256) (q1 : (decide (((a : Nat) : Int) = 0)) = false) : Sp P 302 [.pt 0 0, vb a] [.ro (gF)] (.tu [vn (lg a), vn 0]) [.ro (gF)] :=
 Sp.of (fn := Tryz.f302) rfl rfl 3 [.id 0] (.t q1 (.ix (i := a) (m := 256) ha (.lt (i := a) (n := 256) ha .nil))) (by kernel_rfl) (by kernel_rfl)
theorem log_sp (a : Nat) (ha : a < 256) : Sp P 302 [.pt 0 0, vb a] [.ro (gF)] (.tu [vn (logF a), vi (noI a)]) [.ro (gF)] := by
 cases q1 : decide (((a : Nat) : Int) = 0) with
 | true =>
  have e : (logF a) = 0 := by simp_all [logF, noI]
  rw [e]; clear e
  have e : (noI a) = 16 := by simp_all [logF, noI]
  rw [e]; clear e
  exact log_sp_0 a ha q1
 | false =>
  have e : (logF a) = (lg a) := by simp_all [logF, noI]
  rw [e]; clear e
  have e : (noI a) = 0 := by simp_all [logF, noI]
  rw [e]; clear e
  exact log_sp_1 a ha q1
theorem inv_sp (b : Nat) (hb : b < 256) : Sp P 257 [.pt 0 0, vb b] [.ro (gF)] (.tu [vb (divF 1 b), vi (noI b)]) [.ro (gF)] :=
 Sp.of (fn := Tryz.f257) rfl rfl 3 [.id 0] (.c [.id 0] (div_sp 1 b (by first | assumption | omega) (by first | assumption | omega)) .nil) (by kernel_rfl) (by kernel_rfl)
end Go.Proofs.YtghfannbcopjmaaGreat
