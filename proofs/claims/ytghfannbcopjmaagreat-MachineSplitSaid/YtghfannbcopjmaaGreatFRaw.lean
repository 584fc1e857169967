import Derived.Test.YtghfannbcopjmaaGreatFCod
namespace Go.Proofs.YtghfannbcopjmaaGreat
open Go Go.RowKit
set_option linter.unusedVariables false
set_option linter.unusedSimpArgs false
set_option maxRecDepth 100000
def putN (r : Nat → Nat) (o n : Nat) (g : Nat → Nat) : Nat → Nat := fun i => if o ≤ i ∧ i < o + n then g (i - o) else r i
theorem putN_lt {r g : Nat → Nat} (hr : ∀ j, r j < 256) (hg : ∀ j, g j < 256) (o n j : Nat) : putN r o n g j < 256 := by
 unfold putN; split; exact hg _; exact hr _
theorem putN_nf (r : Nat → Nat) (o n : Nat) (g : Nat → Nat) : nf (putN r o n g) = upR (nf r) o n (nf g) := by
 funext i
 unfold nf putN upR
 by_cases h : o ≤ i ∧ i < o + n
 ·rw [if_pos h, if_pos h]
 ·rw [if_neg h, if_neg h]
theorem flat1 (k : IntKind) (n : Nat) (f : Nat → Int) : V.flat ρN [.ar k n f] = arV k f n 0 := by simp only [V.flat, V.den, List.append_nil]; rfl
theorem cpN (m : Nat) (r : Nat → Nat) {o n : Nat} {l : List Nat} (hl : l.length = n) (h : o + n ≤ m) : V.flat ρN [.ar .u8 m (nf (putN r o n (fun j => l.getD j 0)))] = (V.flat ρN [.ar .u8 m (nf r)]).take o ++ eB.cs l ++ (V.flat ρN [.ar .u8 m (nf r)]).drop (o + l.length * eB.sz) := by
 rw [flat1, flat1, putN_nf, arV_upR .u8 (nf r) _ h, arV_cs (fun j => l.getD j 0), arL_getD n 0 (by omega), List.drop_zero]
 show _ = _ ++ _ ++ List.drop (o + l.length * 1) _
 rw [Nat.mul_one, hl]
def wordR (r : Nat → Nat) (o n : Nat) : List Nat := [] ++ arL (fun j => r (o + j)) n 0
theorem wordR_len (r : Nat → Nat) (o n : Nat) : (wordR r o n).length = n := by unfold wordR; rw [List.nil_append, arL_len]
theorem wordR_B8 {r : Nat → Nat} (h : ∀ j, r j < 256) (o n : Nat) : B8 (wordR r o n) := by unfold wordR; rw [List.nil_append]; exact arL_B8 (fun j => h _) _ _
theorem rright_1   : Sp P 106 [vn 1] [] (vt true) [] :=
 Sp.of (fn := Tryz.f106) rfl rfl 3 [] (.y (.y (.y .nil))) (by kernel_rfl) (by kernel_rfl)
theorem chips_1   : Sp P 113 [vn 1] [] (vn 9) [] :=
 Sp.of (fn := Tryz.f113) rfl rfl 3 [] (.y .nil) (by kernel_rfl) (by kernel_rfl)
theorem cwords_1   : Sp P 216 [vn 1] [] (vn 8) [] :=
 Sp.of (fn := Tryz.f216) rfl rfl 3 [] (.c [] (rright_1) (.n (.c [] (chips_1) .nil))) (by kernel_rfl) (by kernel_rfl)
theorem put_1_0 (r : Nat → Nat) (l : List Nat) (hl : l.length = 9) : Sp P 172 [.ar .u8 72 (nf r), vn 1, vn 0, .sl 0] [.ro (.row eB l)] (.ar .u8 72 (nf (putN r 0 9 (fun j => l.getD j 0)))) [.ro (.row eB l)] :=
 Sp.of (fn := Tryz.f172) rfl rfl 4 [.id 0] (.c [] (chips_1) (.y (.y (.y (.c [] (cwords_1) (.y (.y (.y (.y (.y (.y (.y (.t (show (decide (((l.length : Nat) : Int) = 9)) = true from decide_eq_true (by rw [hl]; rfl)) (.sl (i := 0) (n := 72) (m := 72) (by decide) (.cp (xs := l) (n := 72) .row (by omega) (cpN 72 r (o := 0) (n := 9) hl (by decide)) .nil))))))))))))))) (by kernel_rfl) (by kernel_rfl)
theorem word_1_0 (r : Nat → Nat)  : Sp P 218 [.ar .u8 72 (nf r), vn 1, vn 0] [] (.sl 0) [.row eB (wordR r 0 9)] :=
 Sp.of (fn := Tryz.f218) rfl rfl 5 [.id 3] (.n (.n (.n (.c [] (cwords_1) (.n (.n (.n (.c [] (chips_1) (.bs 18 (e := eB) [] (.sl (i := 0) (n := 9) (m := 72) (by decide) (.ap (e := eB) (l := []) (l' := arL (fun j => r (0 + j)) 9 0) .row (.flat [.ar .u8 9 (nf r)] _ (by have h := ar_flat r 9; simpa only [Nat.zero_add] using h)) (by rw [arL_len]; decide) .nil))))))))))) (by kernel_rfl) (by kernel_rfl)
theorem put_1_1 (r : Nat → Nat) (l : List Nat) (hl : l.length = 9) : Sp P 172 [.ar .u8 72 (nf r), vn 1, vn 1, .sl 0] [.ro (.row eB l)] (.ar .u8 72 (nf (putN r 9 9 (fun j => l.getD j 0)))) [.ro (.row eB l)] :=
 Sp.of (fn := Tryz.f172) rfl rfl 4 [.id 0] (.c [] (chips_1) (.y (.y (.y (.c [] (cwords_1) (.y (.y (.y (.y (.y (.y (.y (.t (show (decide (((l.length : Nat) : Int) = 9)) = true from decide_eq_true (by rw [hl]; rfl)) (.sl (i := 9) (n := 63) (m := 72) (by decide) (.cp (xs := l) (n := 63) .row (by omega) (cpN 72 r (o := 9) (n := 9) hl (by decide)) .nil))))))))))))))) (by kernel_rfl) (by kernel_rfl)
theorem word_1_1 (r : Nat → Nat)  : Sp P 218 [.ar .u8 72 (nf r), vn 1, vn 1] [] (.sl 0) [.row eB (wordR r 9 9)] :=
 Sp.of (fn := Tryz.f218) rfl rfl 5 [.id 3] (.n (.n (.n (.c [] (cwords_1) (.n (.n (.n (.c [] (chips_1) (.bs 18 (e := eB) [] (.sl (i := 9) (n := 9) (m := 72) (by decide) (.ap (e := eB) (l := []) (l' := arL (fun j => r (9 + j)) 9 0) .row (.flat _ _ (ar_flat (fun j => r (9 + j)) 9)) (by rw [arL_len]; decide) .nil))))))))))) (by kernel_rfl) (by kernel_rfl)
theorem put_1_2 (r : Nat → Nat) (l : List Nat) (hl : l.length = 9) : Sp P 172 [.ar .u8 72 (nf r), vn 1, vn 2, .sl 0] [.ro (.row eB l)] (.ar .u8 72 (nf (putN r 18 9 (fun j => l.getD j 0)))) [.ro (.row eB l)] :=
 Sp.of (fn := Tryz.f172) rfl rfl 4 [.id 0] (.c [] (chips_1) (.y (.y (.y (.c [] (cwords_1) (.y (.y (.y (.y (.y (.y (.y (.t (show (decide (((l.length : Nat) : Int) = 9)) = true from decide_eq_true (by rw [hl]; rfl)) (.sl (i := 18) (n := 54) (m := 72) (by decide) (.cp (xs := l) (n := 54) .row (by omega) (cpN 72 r (o := 18) (n := 9) hl (by decide)) .nil))))))))))))))) (by kernel_rfl) (by kernel_rfl)
theorem word_1_2 (r : Nat → Nat)  : Sp P 218 [.ar .u8 72 (nf r), vn 1, vn 2] [] (.sl 0) [.row eB (wordR r 18 9)] :=
 Sp.of (fn := Tryz.f218) rfl rfl 5 [.id 3] (.n (.n (.n (.c [] (cwords_1) (.n (.n (.n (.c [] (chips_1) (.bs 18 (e := eB) [] (.sl (i := 18) (n := 9) (m := 72) (by decide) (.ap (e := eB) (l := []) (l' := arL (fun j => r (18 + j)) 9 0) .row (.flat _ _ (ar_flat (fun j => r (18 + j)) 9)) (by rw [arL_len]; decide) .nil))))))))))) (by kernel_rfl) (by kernel_rfl)
theorem put_1_3 (r : Nat → Nat) (l : List Nat) (hl : l.length = 9) : Sp P 172 [.ar .u8 72 (nf r), vn 1, vn 3, .sl 0] [.ro (.row eB l)] (.ar .u8 72 (nf (putN r 27 9 (fun j => l.getD j 0)))) [.ro (.row eB l)] :=
 Sp.of (fn := Tryz.f172) rfl rfl 4 [.id 0] (.c [] (chips_1) (.y (.y (.y (.c [] (cwords_1) (.y (.y (.y (.y (.y (.y (.y (.t (show (decide (((l.length : Nat) : Int) = 9)) = true from decide_eq_true (by rw [hl]; rfl)) (.sl (i := 27) (n := 45) (m := 72) (by decide) (.cp (xs := l) (n := 45) .row (by omega) (cpN 72 r (o := 27) (n := 9) hl (by decide)) .nil))))))))))))))) (by kernel_rfl) (by kernel_rfl)
theorem word_1_3 (r : Nat → Nat)  : Sp P 218 [.ar .u8 72 (nf r), vn 1, vn 3] [] (.sl 0) [.row eB (wordR r 27 9)] :=
 Sp.of (fn := Tryz.f218) rfl rfl 5 [.id 3] (.n (.n (.n (.c [] (cwords_1) (.n (.n (.n (.c [] (chips_1) (.bs 18 (e := eB) [] (.sl (i := 27) (n := 9) (m := 72) (by decide) (.ap (e := eB) (l := []) (l' := arL (fun j => r (27 + j)) 9 0) .row (.flat _ _ (ar_flat (fun j => r (27 + j)) 9)) (by rw [arL_len]; decide) .nil))))))))))) (by kernel_rfl) (by kernel_rfl)
theorem put_1_4 (r : Nat → Nat) (l : List Nat) (hl : l.length = 9) : Sp P 172 [.ar .u8 72 (nf r), vn 1, vn 4, .sl 0] [.ro (.row eB l)] (.ar .u8 72 (nf (putN r 36 9 (fun j => l.getD j 0)))) [.ro (.row eB l)] :=
 Sp.of (fn := Tryz.f172) rfl rfl 4 [.id 0] (.c [] (chips_1) (.y (.y (.y (.c [] (cwords_1) (.y (.y (.y (.y (.y (.y (.y (.t (show (decide (((l.length : Nat) : Int) = 9)) = true from decide_eq_true (by rw [hl]; rfl)) (.sl (i := 36) (n := 36) (m := 72) (by decide) (.cp (xs := l) (n := 36) .row (by omega) (cpN 72 r (o := 36) (n := 9) hl (by decide)) .nil))))))))))))))) (by kernel_rfl) (by kernel_rfl)
theorem word_1_4 (r : Nat → Nat)  : Sp P 218 [.ar .u8 72 (nf r), vn 1, vn 4] [] (.sl 0) [.row eB (wordR r 36 9)] :=
 Sp.of (fn := Tryz.f218) rfl rfl 5 [.id 3] (.n (.n (.n (.c [] (cwords_1) (.n (.n (.n (.c [] (chips_1) (.bs 18 (e := eB) [] (.sl (i := 36) (n := 9) (m := 72) (by decide) (.ap (e := eB) (l := []) (l' := arL (fun j => r (36 + j)) 9 0) .row (.flat _ _ (ar_flat (fun j => r (36 + j)) 9)) (by rw [arL_len]; decide) .nil))))))))))) (by kernel_rfl) (by kernel_rfl)
theorem put_1_5 (r : Nat → Nat) (l : List Nat) (hl : l.length = 9) : Sp P 172 [.ar .u8 72 (nf r), vn 1, vn 5, .sl 0] [.ro (.row eB l)] (.ar .u8 72 (nf (putN r 45 9 (fun j => l.getD j 0)))) [.ro (.row eB l)] :=
 Sp.of (fn := Tryz.f172) rfl rfl 4 [.id 0] (.c [] (chips_1) (.y (.y (.y (.c [] (cwords_1) (.y (.y (.y (.y (.y (.y (.y (.t (show (decide (((l.length : Nat) : Int) = 9)) = true from decide_eq_true (by rw [hl]; rfl)) (.sl (i := 45) (n := 27) (m := 72) (by decide) (.cp (xs := l) (n := 27) .row (by omega) (cpN 72 r (o := 45) (n := 9) hl (by decide)) .nil))))))))))))))) (by kernel_rfl) (by kernel_rfl)
theorem word_1_5 (r : Nat → Nat)  : Sp P 218 [.ar .u8 72 (nf r), vn 1, vn 5] [] (.sl 0) [.row eB (wordR r 45 9)] :=
 Sp.of (fn := Tryz.f218) rfl rfl 5 [.id 3] (.n (.n (.n (.c [] (cwords_1) (.n (.n (.n (.c [] (chips_1) (.bs 18 (e := eB) [] (.sl (i := 45) (n := 9) (m := 72) (by decide) (.ap (e := eB) (l := []) (l' := arL (fun j => r (45 + j)) 9 0) .row (.flat _ _ (ar_flat (fun j => r (45 + j)) 9)) (by rw [arL_len]; decide) .nil))))))))))) (by kernel_rfl) (by kernel_rfl)
theorem put_1_6 (r : Nat → Nat) (l : List Nat) (hl : l.length = 9) : Sp P 172 [.ar .u8 72 (nf r), vn 1, vn 6, .sl 0] [.ro (.row eB l)] (.ar .u8 72 (nf (putN r 54 9 (fun j => l.getD j 0)))) [.ro (.row eB l)] :=
 Sp.of (fn := Tryz.f172) rfl rfl 4 [.id 0] (.c [] (chips_1) (.y (.y (.y (.c [] (cwords_1) (.y (.y (.y (.y (.y (.y (.y (.t (show (decide (((l.length : Nat) : Int) = 9)) = true from decide_eq_true (by rw [hl]; rfl)) (.sl (i := 54) (n := 18) (m := 72) (by decide) (.cp (xs := l) (n := 18) .row (by omega) (cpN 72 r (o := 54) (n := 9) hl (by decide)) .nil))))))))))))))) (by kernel_rfl) (by kernel_rfl)
theorem word_1_6 (r : Nat → Nat)  : Sp P 218 [.ar .u8 72 (nf r), vn 1, vn 6] [] (.sl 0) [.row eB (wordR r 54 9)] :=
 Sp.of (fn := Tryz.f218) rfl rfl 5 [.id 3] (.n (.n (.n (.c [] (cwords_1) (.n (.n (.n (.c [] (chips_1) (.bs 18 (e := eB) [] (.sl (i := 54) (n := 9) (m := 72) (by decide) (.ap (e := eB) (l := []) (l' := arL (fun j => r (54 + j)) 9 0) .row (.flat _ _ (ar_flat (fun j => r (54 + j)) 9)) (by rw [arL_len]; decide) .nil))))))))))) (by kernel_rfl) (by kernel_rfl)
theorem put_1_7 (r : Nat → Nat) (l : List Nat) (hl : l.length = 9) : Sp P 172 [.ar .u8 72 (nf r), vn 1, vn 7, .sl 0] [.ro (.row eB l)] (.ar .u8 72 (nf (putN r 63 9 (fun j => l.getD j 0)))) [.ro (.row eB l)] :=
 Sp.of (fn := Tryz.f172) rfl rfl 4 [.id 0] (.c [] (chips_1) (.y (.y (.y (.c [] (cwords_1) (.y (.y (.y (.y (.y (.y (.y (.t (show (decide (((l.length : Nat) : Int) = 9)) = true from decide_eq_true (by rw [hl]; rfl)) (.sl (i := 63) (n := 9) (m := 72) (by decide) (.cp (xs := l) (n := 9) .row (by omega) (cpN 72 r (o := 63) (n := 9) hl (by decide)) .nil))))))))))))))) (by kernel_rfl) (by kernel_rfl)
theorem word_1_7 (r : Nat → Nat)  : Sp P 218 [.ar .u8 72 (nf r), vn 1, vn 7] [] (.sl 0) [.row eB (wordR r 63 9)] :=
 Sp.of (fn := Tryz.f218) rfl rfl 5 [.id 3] (.n (.n (.n (.c [] (cwords_1) (.n (.n (.n (.c [] (chips_1) (.bs 18 (e := eB) [] (.sl (i := 63) (n := 9) (m := 72) (by decide) (.ap (e := eB) (l := []) (l' := arL (fun j => r (63 + j)) 9 0) .row (.flat _ _ (ar_flat (fun j => r (63 + j)) 9)) (by rw [arL_len]; decide) .nil))))))))))) (by kernel_rfl) (by kernel_rfl)
theorem rright_2   : Sp P 106 [vn 2] [] (vt true) [] :=
 Sp.of (fn := Tryz.f106) rfl rfl 3 [] (.n (.n (.n .nil))) (by kernel_rfl) (by kernel_rfl)
theorem chips_2   : Sp P 113 [vn 2] [] (vn 36) [] :=
 Sp.of (fn := Tryz.f113) rfl rfl 3 [] (.n (.y .nil)) (by kernel_rfl) (by kernel_rfl)
theorem cwords_2   : Sp P 216 [vn 2] [] (vn 2) [] :=
 Sp.of (fn := Tryz.f216) rfl rfl 3 [] (.c [] (rright_2) (.n (.c [] (chips_2) .nil))) (by kernel_rfl) (by kernel_rfl)
theorem put_2_0 (r : Nat → Nat) (l : List Nat) (hl : l.length = 36) : Sp P 172 [.ar .u8 72 (nf r), vn 2, vn 0, .sl 0] [.ro (.row eB l)] (.ar .u8 72 (nf (putN r 0 36 (fun j => l.getD j 0)))) [.ro (.row eB l)] :=
 Sp.of (fn := Tryz.f172) rfl rfl 4 [.id 0] (.c [] (chips_2) (.y (.y (.y (.c [] (cwords_2) (.y (.y (.y (.y (.y (.y (.y (.t (show (decide (((l.length : Nat) : Int) = 36)) = true from decide_eq_true (by rw [hl]; rfl)) (.sl (i := 0) (n := 72) (m := 72) (by decide) (.cp (xs := l) (n := 72) .row (by omega) (cpN 72 r (o := 0) (n := 36) hl (by decide)) .nil))))))))))))))) (by kernel_rfl) (by kernel_rfl)
theorem word_2_0 (r : Nat → Nat)  : Sp P 218 [.ar .u8 72 (nf r), vn 2, vn 0] [] (.sl 0) [.row eB (wordR r 0 36)] :=
 Sp.of (fn := Tryz.f218) rfl rfl 5 [.id 3] (.n (.n (.n (.c [] (cwords_2) (.n (.n (.n (.c [] (chips_2) (.bs 18 (e := eB) [] (.sl (i := 0) (n := 36) (m := 72) (by decide) (.ap (e := eB) (l := []) (l' := arL (fun j => r (0 + j)) 36 0) .row (.flat [.ar .u8 36 (nf r)] _ (by have h := ar_flat r 36; simpa only [Nat.zero_add] using h)) (by rw [arL_len]; decide) .nil))))))))))) (by kernel_rfl) (by kernel_rfl)
theorem put_2_1 (r : Nat → Nat) (l : List Nat) (hl : l.length = 36) : Sp P 172 [.ar .u8 72 (nf r), vn 2, vn 1, .sl 0] [.ro (.row eB l)] (.ar .u8 72 (nf (putN r 36 36 (fun j => l.getD j 0)))) [.ro (.row eB l)] :=
 Sp.of (fn := Tryz.f172) rfl rfl 4 [.id 0] (.c [] (chips_2) (.y (.y (.y (.c [] (cwords_2) (.y (.y (.y (.y (.y (.y (.y (.t (show (decide (((l.length : Nat) : Int) = 36)) = true from decide_eq_true (by rw [hl]; rfl)) (.sl (i := 36) (n := 36) (m := 72) (by decide) (.cp (xs := l) (n := 36) .row (by omega) (cpN 72 r (o := 36) (n := 36) hl (by decide)) .nil))))))))))))))) (by kernel_rfl) (by kernel_rfl)
theorem word_2_1 (r : Nat → Nat)  : Sp P 218 [.ar .u8 72 (nf r), vn 2, vn 1] [] (.sl 0) [.row eB (wordR r 36 36)] :=
 Sp.of (fn := Tryz.f218) rfl rfl 5 [.id 3] (.n (.n (.n (.c [] (cwords_2) (.n (.n (.n (.c [] (chips_2) (.bs 18 (e := eB) [] (.sl (i := 36) (n := 36) (m := 72) (by decide) (.ap (e := eB) (l := []) (l' := arL (fun j => r (36 + j)) 36 0) .row (.flat _ _ (ar_flat (fun j => r (36 + j)) 36)) (by rw [arL_len]; decide) .nil))))))))))) (by kernel_rfl) (by kernel_rfl)
end Go.Proofs.YtghfannbcopjmaaGreat
