import Derived.Test.YtghfannbcopjmaaGreatFxX
namespace Go.Proofs.YtghfannbcopjmaaGreat
open Go Go.RowKit
set_option linter.unusedVariables false
set_option linter.unusedSimpArgs false
set_option maxRecDepth 100000
theorem weight64_sp (a : Nat) (h : a < 18446744073709551616) : Sp P 150 [vu a] [] (vn (wt a)) [] :=
 Sp.of (fn := Tryz.f150) rfl rfl 3 [] (.lp (wt a) 1 [] [] (fun i => [(0, vu (clrs a i)), (3, vn i)]) (fun i => []) (fun i hi => (.t (congrArg (!·) (show (decide (((clrs a i : Nat) : Int) = 0)) = false from decide_eq_false (by have := wt_ne hi; omega))) (.e 8 (uDec64 (clrs a i) (wt_ne hi) (Nat.lt_of_le_of_lt (clrs_le a i) h)) (.e 9 (bitsAnd64 (clrs a i) (clrs a i - 1) (Nat.lt_of_le_of_lt (clrs_le a i) h) (Nat.lt_of_le_of_lt (Nat.sub_le _ _) (Nat.lt_of_le_of_lt (clrs_le a i) h))) (.e 11 (aAdd (a := ((i : Nat) : Int)) (b := 1) (c := ((i + 1 : Nat) : Int)) (by have := wt_le (n := 64) h; omega)) .nil))))) (.t (congrArg (!·) (show (decide (((clrs a (wt a) : Nat) : Int) = 0)) = true from decide_eq_true (by rw [wt_end]; rfl))) .nil)) (by kernel_rfl) (by kernel_rfl)
theorem weight32_sp (a : Nat) (h : a < 4294967296) : Sp P 238 [vw a] [] (vn (wt a)) [] :=
 Sp.of (fn := Tryz.f238) rfl rfl 3 [] (.lp (wt a) 1 [] [] (fun i => [(0, vw (clrs a i)), (3, vn i)]) (fun i => []) (fun i hi => (.t (congrArg (!·) (show (decide (((clrs a i : Nat) : Int) = 0)) = false from decide_eq_false (by have := wt_ne hi; omega))) (.e 8 (uDec32 (clrs a i) (wt_ne hi) (Nat.lt_of_le_of_lt (clrs_le a i) h)) (.e 9 (bitsAnd32 (clrs a i) (clrs a i - 1) (Nat.lt_of_le_of_lt (clrs_le a i) h) (Nat.lt_of_le_of_lt (Nat.sub_le _ _) (Nat.lt_of_le_of_lt (clrs_le a i) h))) (.e 11 (aAdd (a := ((i : Nat) : Int)) (b := 1) (c := ((i + 1 : Nat) : Int)) (by have := wt_le (n := 32) h; omega)) .nil))))) (.t (congrArg (!·) (show (decide (((clrs a (wt a) : Nat) : Int) = 0)) = true from decide_eq_true (by rw [wt_end]; rfl))) .nil)) (by kernel_rfl) (by kernel_rfl)
theorem weight8_sp (a : Nat) (h : a < 256) : Sp P 275 [vb a] [] (vn (wt a)) [] :=
 Sp.of (fn := Tryz.f275) rfl rfl 3 [] (.lp (wt a) 1 [] [] (fun i => [(0, vb (clrs a i)), (3, vn i)]) (fun i => []) (fun i hi => (.t (congrArg (!·) (show (decide (((clrs a i : Nat) : Int) = 0)) = false from decide_eq_false (by have := wt_ne hi; omega))) (.e 8 (uDec8 (clrs a i) (wt_ne hi) (Nat.lt_of_le_of_lt (clrs_le a i) h)) (.e 9 (bitsAnd8 (clrs a i) (clrs a i - 1) (Nat.lt_of_le_of_lt (clrs_le a i) h) (Nat.lt_of_le_of_lt (Nat.sub_le _ _) (Nat.lt_of_le_of_lt (clrs_le a i) h))) (.e 11 (aAdd (a := ((i : Nat) : Int)) (b := 1) (c := ((i + 1 : Nat) : Int)) (by have := wt_le (n := 8) h; omega)) .nil))))) (.t (congrArg (!·) (show (decide (((clrs a (wt a) : Nat) : Int) = 0)) = true from decide_eq_true (by rw [wt_end]; rfl))) .nil)) (by kernel_rfl) (by kernel_rfl)
theorem par_eq (a : Nat) (h : a < 4294967296) : Value.int .i64 (bits .and .i64 ((wt a : Nat) : Int) 1) = .int .i64 ((wt a % 2 : Nat) : Int) := by
 have hw := wt_le (n := 32) h
 have key : ∀ a : _root_.Fin 33, bits .and .i64 ((a.1 : Nat) : Int) 1 = ((a.1 % 2 : Nat) : Int) := by decide +kernel
 rw [key ⟨wt a, by omega⟩]
theorem parity_sp (a : Nat) (h : a < 4294967296) : Sp P 193 [vw a] [] (vn (wt a % 2)) [] :=
 Sp.of (fn := Tryz.f193) rfl rfl 3 [] (.c [] (weight32_sp a (by first | assumption | omega)) (.e 5 (par_eq a h) .nil)) (by kernel_rfl) (by kernel_rfl)
theorem wide8_sp   : Sp P 240 [] [] (vn 8) [] :=
 Sp.of (fn := Tryz.f240) rfl rfl 3 [] (.c [] (weight8_sp 255 (by decide)) .nil) (by kernel_rfl) (by kernel_rfl)
end Go.Proofs.YtghfannbcopjmaaGreat
namespace Go.Proofs.YtghfannbcopjmaaGreat
open Go Go.RowKit
set_option linter.unusedVariables false
set_option linter.unusedSimpArgs false
set_option maxRecDepth 100000
theorem hput_sp (c : Nat → Int) (b : Nat → Int) (i : Nat) (x : Nat) (hi : i < 74) (hx : x < 256) : Sp P 198 [.pt 0 0, vn i, vb x] [.blk [.ar .u8 74 c, .ar .i64 256 b] 321] (.tu []) [.blk [.ar .u8 74 (upI c i ((x : Nat) : Int)), .ar .i64 256 (upI b x ((i : Nat) : Int))] 321] :=
 Sp.of (fn := Tryz.f198) rfl rfl 4 [.id 0] (.ix (i := i) (m := 74) hi (.lt (i := i) (n := 74) hi (.ix (i := x) (m := 256) hx (.lt (i := x) (n := 256) hx .nil)))) (by kernel_rfl) (by kernel_rfl)
def at0 : Nat → Nat → Int
 | 0 => fun _ => 0
 | i + 1 => upI (at0 i) i (-1)
def h1c : Nat → Nat → Int
 | 0 => fun _ => 0
 | i + 1 => upI (h1c i) (64 + i) ((2 ^ i : Nat) : Int)
def h1a : Nat → Nat → Int
 | 0 => at0 256
 | i + 1 => upI (h1a i) (2 ^ i) ((64 + i : Nat) : Int)
def q3 (i : Nat) : Bool := decide (((wt i : Nat) : Int) = 3)
def h3n : Nat → Nat
 | 0 => 0
 | i + 1 => bif q3 i then h3n i + 1 else h3n i
def h3c : Nat → Nat → Int
 | 0 => h1c 8
 | i + 1 => bif q3 i then upI (h3c i) (h3n i) ((i : Nat) : Int) else h3c i
def h3a : Nat → Nat → Int
 | 0 => h1a 8
 | i + 1 => bif q3 i then upI (h3a i) i ((h3n i : Nat) : Int) else h3a i
theorem h3n_lt {i : Nat} (h : i ≤ 256) : h3n i ≤ 56 := by
 have key : ∀ i : _root_.Fin 257, h3n i.1 ≤ 56 := by decide +kernel
 exact key ⟨i, by omega⟩
def q5 (i : Nat) : Bool := decide (((wt i : Nat) : Int) = 5)
def h5j (n : Nat) : Nat := bif decide (((n : Nat) : Int) = 64) then 72 else n
def h5n : Nat → Nat
 | 0 => h3n 256
 | i + 1 => bif q5 i then h5j (h5n i) + 1 else h5n i
def h5c : Nat → Nat → Int
 | 0 => h3c 256
 | i + 1 => bif q5 i then upI (h5c i) (h5j (h5n i)) ((i : Nat) : Int) else h5c i
def h5a : Nat → Nat → Int
 | 0 => h3a 256
 | i + 1 => bif q5 i then upI (h5a i) i ((h5j (h5n i) : Nat) : Int) else h5a i
theorem h5_lt {i : Nat} (h : i < 94) : q5 i = true → h5j (h5n i) < 74 := by
 have key : ∀ i : _root_.Fin 94, q5 i.1 = true → h5j (h5n i.1) < 74 := by decide +kernel
 exact key ⟨i, h⟩
theorem two8 {i : Nat} (h : i < 8) : 2 ^ i < 256 := by
 have key : ∀ i : _root_.Fin 8, 2 ^ i.1 < 256 := by decide
 exact key ⟨i, h⟩
theorem shl8 (i : Nat) (h : i < 8) : Value.int .u8 (IntKind.u8.wrap (1 * 2 ^ (min (IntKind.u64.wrap ((i : Nat) : Int)).toNat 8))) = .int .u8 ((2 ^ i : Nat) : Int) := by
 have key : ∀ i : _root_.Fin 8, IntKind.u8.wrap (1 * 2 ^ (min (IntKind.u64.wrap ((i.1 : Nat) : Int)).toNat 8)) = ((2 ^ i.1 : Nat) : Int) := by decide +kernel
 rw [key ⟨i, h⟩]
theorem cv8 (i : Nat) (h : i < 256) : Value.int .u8 (IntKind.u8.wrap ((i : Nat) : Int)) = .int .u8 ((i : Nat) : Int) := by rw [w8 h]
theorem choose_sp (n : Nat) (k : Nat)  : Sp P 199 [vn n, vn k] [] (.fn (.func 239) [] [.pt 1 0, .pt 0 0]) [.blk [vn n] 3, .blk [vn k] 3] :=
 Sp.of (fn := Tryz.f199) rfl rfl 4 [.id 1, .id 2] .nil (by kernel_rfl) (by kernel_rfl)
theorem hnew_raw   : Sp P 154 [] [] (.pt 0 0) [.blk [.ar .u8 74 (h5c 94), .ar .i64 256 (h5a 94)] 321] :=
 Sp.of (fn := Tryz.f154) rfl rfl 17 [.id 1] (.lp 256 3 [] [] (fun i => [(9, vn i)]) (fun i => [(1, .blk [.ar .u8 74 (fun _ => 0), .ar .i64 256 (at0 i)] 321)]) (fun i hi => (.t (show (decide (((i : Nat) : Int) < 256)) = true from decide_eq_true (by omega)) (.ix (i := i) (m := 256) hi (.lt (i := i) (n := 256) hi (.e 17 (aAdd (a := ((i : Nat) : Int)) (b := 1) (c := ((i + 1 : Nat) : Int)) (by omega)) .nil))))) (.n (.lp 8 3 [] [] (fun i => [(18, vn i)]) (fun i => [(1, .blk [.ar .u8 74 (h1c i), .ar .i64 256 (h1a i)] 321)]) (fun i hi => (.t (show (decide (((i : Nat) : Int) < 8)) = true from decide_eq_true (by omega)) (.e 23 (aAdd (a := 64) (b := ((i : Nat) : Int)) (c := ((64 + i : Nat) : Int)) (by omega)) (.e 26 (shl8 i (by omega)) (.c [.id 1] (hput_sp (h1c i) (h1a i) (64 + i) (2 ^ i) (by first | assumption | omega) (two8 hi)) (.e 28 (aAdd (a := ((i : Nat) : Int)) (b := 1) (c := ((i + 1 : Nat) : Int)) (by omega)) .nil)))))) (.n (.c [] (choose_sp 8 3) (.n (.n (.n (.n (.n (.n (.c [] (wide8_sp) (.n (.n (.n (.n (.lp 256 9 [] [] (fun i => [(21, vu i)]) (fun i => [(1, .blk [.ar .u8 74 (h3c i), .ar .i64 256 (h3a i)] 321), (3, .blk [vn (h3n i)] 3), (6, .lo .ready none)]) (fun i hi => (.t (show (decide (((i : Nat) : Int) < 256)) = true from decide_eq_true (by omega)) (.cs 2 (decide (((wt i : Nat) : Int) = 3)) 9 [] [] (fun z => [(4, vu i), (23, vu i), (24, vu i), (25, vn (wt i)), (26, vn 3), (27, vt (decide (((wt i : Nat) : Int) = 3))), (28, vt (decide (((wt i : Nat) : Int) = 3))), (34, vt false)]) (fun z => [(1, .blk [.ar .u8 74 (bif z then (upI (h3c i) (h3n i) ((i : Nat) : Int)) else (h3c i)), .ar .i64 256 (bif z then (upI (h3a i) i (((h3n i) : Nat) : Int)) else (h3a i))] 321), (3, .blk [vn (bif z then ((h3n i) + 1) else (h3n i))] 3), (6, .lo .ready none)]) (fun hq1 => (.c [] (weight64_sp i (by first | assumption | omega)) (.t hq1 (.t hq1 (.t hq1 (.e 31 (cv8 i (by omega)) (.t hq1 (.c [.id 1] (hput_sp (h3c i) (h3a i) (h3n i) i (by have := h3n_lt (i := i) (by omega); omega) (by first | assumption | omega)) (.e 36 (aAdd (a := ((h3n i : Nat) : Int)) (b := 1) (c := (((h3n i) + 1 : Nat) : Int)) (by have := h3n_lt (i := i) (by omega); omega)) (.t hq1 (.t hq1 (.n .nil)))))))))))) (fun hq1 => (.c [] (weight64_sp i (by first | assumption | omega)) (.t hq1 (.t hq1 (.t hq1 (.t hq1 (.t hq1 (.t hq1 (.n .nil))))))))) (.e 35 (uAdd64 i 1 (by omega)) .nil)))) (.n (.c [] (choose_sp 8 5) (.n (.n (.n (.n (.n (.n (.c [] (wide8_sp) (.n (.n (.n (.n (.lp 94 14 [] [] (fun i => [(21, vu i)]) (fun i => [(1, .blk [.ar .u8 74 (h5c i), .ar .i64 256 (h5a i)] 321), (3, .blk [vn (h5n i)] 3), (11, .lo .ready none)]) (fun i hi => (.t (show (decide (((i : Nat) : Int) < 256)) = true from decide_eq_true (by omega)) (.cs 2 (decide (((wt i : Nat) : Int) = 5)) 14 [] [] (fun z => [(4, vu i), (23, vu i), (24, vu i), (25, vn (wt i)), (26, vn 5), (27, vt (decide (((wt i : Nat) : Int) = 5))), (28, vt (decide (((wt i : Nat) : Int) = 5))), (34, vt false)]) (fun z => [(1, .blk [.ar .u8 74 (bif z then (upI (h5c i) (bif (decide (((h5n i : Nat) : Int) = 64)) then 72 else (h5n i)) ((i : Nat) : Int)) else (h5c i)), .ar .i64 256 (bif z then (upI (h5a i) i (((bif (decide (((h5n i : Nat) : Int) = 64)) then 72 else (h5n i)) : Nat) : Int)) else (h5a i))] 321), (3, .blk [vn (bif z then ((bif (decide (((h5n i : Nat) : Int) = 64)) then 72 else (h5n i)) + 1) else (h5n i))] 3), (11, .lo .ready none)]) (fun hq1 => (.c [] (weight64_sp i (by first | assumption | omega)) (.t hq1 (.t hq1 (.t hq1 (.e 31 (cv8 i (by omega)) (.t hq1 (.cs 0 (decide (((h5n i : Nat) : Int) = 64)) 15 [] [] (fun z => []) (fun z => [(3, .blk [vn (bif z then 72 else (h5n i))] 3), (11, .lo .busy none)]) (fun hq2 => (.t hq2 .nil)) (fun hq2 => (.t hq2 .nil)) (.t (show (decide (((bif (decide (((h5n i : Nat) : Int) = 64)) then 72 else (h5n i) : Nat) : Int) = 74)) = false from decide_eq_false (by have := h5_lt hi hq1; unfold h5j at this; omega)) (.c [.id 1] (hput_sp (h5c i) (h5a i) (bif (decide (((h5n i : Nat) : Int) = 64)) then 72 else (h5n i)) i (by have := h5_lt hi hq1; unfold h5j at this; omega) (by first | assumption | omega)) (.e 48 (aAdd (a := ((bif (decide (((h5n i : Nat) : Int) = 64)) then 72 else (h5n i) : Nat) : Int)) (b := 1) (c := (((bif (decide (((h5n i : Nat) : Int) = 64)) then 72 else (h5n i)) + 1 : Nat) : Int)) (by have := h5_lt hi hq1; unfold h5j at this; omega)) (.t hq1 (.t hq1 (.n .nil)))))))))))))) (fun hq1 => (.c [] (weight64_sp i (by first | assumption | omega)) (.t hq1 (.t hq1 (.t hq1 (.t hq1 (.t hq1 (.t hq1 (.n .nil))))))))) (.e 35 (uAdd64 i 1 (by omega)) .nil)))) (.y (.c [] (weight64_sp 94 (by first | assumption | omega)) (.t (show (decide (((wt 94 : Nat) : Int) = 5)) = true from decide_eq_true (by decide +kernel)) (.t (show (decide (((wt 94 : Nat) : Int) = 5)) = true from decide_eq_true (by decide +kernel)) (.t (show (decide (((wt 94 : Nat) : Int) = 5)) = true from decide_eq_true (by decide +kernel)) (.t (show (decide (((wt 94 : Nat) : Int) = 5)) = true from decide_eq_true (by decide +kernel)) (.t (show (decide (((h5n 94 : Nat) : Int) = 64)) = false from decide_eq_false (by decide +kernel)) (.t (show (decide (((h5n 94 : Nat) : Int) = 74)) = true from decide_eq_true (by decide +kernel)) (.t (show (decide (((wt 94 : Nat) : Int) = 5)) = true from decide_eq_true (by decide +kernel)) (.t (show (decide (((wt 94 : Nat) : Int) = 5)) = true from decide_eq_true (by decide +kernel)) (.y .nil)))))))))))))))))))))))))))))))))))))))))) (by kernel_rfl) (by kernel_rfl)
end Go.Proofs.YtghfannbcopjmaaGreat
