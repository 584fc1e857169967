import Derived.Test.YtghfannbcopjmaaGreatFDec
namespace Go.Proofs.YtghfannbcopjmaaGreat
open Go Go.RowKit
set_option linter.unusedVariables false
set_option linter.unusedSimpArgs false
set_option maxRecDepth 100000
structure Gm where
 ranks : Int
 spares : Int
 banks : Int
 rows : Int
 cols : Int
structure Pl where
 rank : Int
 bank : Int
 row : Int
 col : Int
def pl0 : Pl := ⟨0, 0, 0, 0⟩
def powB (n m : Int) : Bool := decide (1 ≤ n) && (decide (n ≤ m) && decide (bits .and .i64 n (IntKind.i64.wrap (n - 1)) = 0))
def belB (i n : Int) : Bool := decide (0 ≤ i) && decide (i < n)
def Gm.lines (g : Gm) : Int := IntKind.i64.wrap (IntKind.i64.wrap (IntKind.i64.wrap (IntKind.i64.wrap (g.ranks + g.spares) * g.banks) * g.rows) * g.cols)
def Gm.right (g : Gm) : Bool := powB g.ranks 8 && (decide (0 ≤ g.spares) && (decide (g.spares ≤ IntKind.i64.wrap (8 - g.ranks)) && (powB g.banks 16 && (powB g.rows 1024 && (powB g.cols 64 && decide (g.lines ≤ 4096))))))
def Gm.holds (g : Gm) (x : Pl) : Bool := g.right && (belB x.rank (IntKind.i64.wrap (g.ranks + g.spares)) && (belB x.bank g.banks && (belB x.row g.rows && belB x.col g.cols)))
def Pl.ix (x : Pl) : Int := bits .or .i64 (bits .or .i64 (bits .or .i64 (IntKind.i64.wrap (x.rank * 2 ^ 20)) (IntKind.i64.wrap (x.bank * 2 ^ 16))) (IntKind.i64.wrap (x.row * 2 ^ 6))) x.col
def plOf (i : Int) : Pl := ⟨i.fdiv (2 ^ 20), bits .and .i64 (i.fdiv (2 ^ 16)) 15, bits .and .i64 (i.fdiv (2 ^ 6)) 1023, bits .and .i64 i 63⟩
def Gm.atB (g : Gm) (i : Int) : Bool := !decide (i < 0) && g.holds (plOf i)
def Gm.at (g : Gm) (i : Int) : Pl := bif g.atB i then plOf i else pl0
def Gm.atE (g : Gm) (i : Int) : Int := bif g.atB i then 0 else 12
def Gm.ix (g : Gm) (x : Pl) : Int := bif g.holds x then x.ix else 0
def Gm.ixE (g : Gm) (x : Pl) : Int := bif g.holds x then 0 else 12
theorem power_sp_0 (n : Int) (m : Int) (q1 : (decide (1 ≤ n)) = true) (q2 : (decide (n ≤ m)) = true) : Sp P 149 [vi n, vi m] [] (vt (decide (bits .and .i64 n (IntKind.i64.wrap (n - 1)) = 0))) [] :=
 Sp.of (fn := Tryz.f149) rfl rfl 3 [] (.t q1 (.t q1 (.t q1 (.t q1 (.t q2 (.t q2 (.t q2 (.t q2 (.t q2 (.t q2 .nil)))))))))) (by kernel_rfl) (by kernel_rfl)
theorem power_sp_1 (n : Int) (m : Int) (q1 : (decide (1 ≤ n)) = true) (q2 : (decide (n ≤ m)) = false) : Sp P 149 [vi n, vi m] [] (vt false) [] :=
 Sp.of (fn := Tryz.f149) rfl rfl 3 [] (.t q1 (.t q1 (.t q1 (.t q1 (.t q2 (.t q2 (.t q2 (.t q2 (.t q2 (.t q2 .nil)))))))))) (by kernel_rfl) (by kernel_rfl)
theorem power_sp_2 (n : Int) (m : Int) (q1 : (decide (1 ≤ n)) = false) : Sp P 149 [vi n, vi m] [] (vt false) [] :=
 Sp.of (fn := Tryz.f149) rfl rfl 3 [] (.t q1 (.t q1 (.t q1 (.t q1 (.n (.n (.n (.n (.n (.n .nil)))))))))) (by kernel_rfl) (by kernel_rfl)
theorem power_sp (n : Int) (m : Int)  : Sp P 149 [vi n, vi m] [] (vt (powB n m)) [] := by
 cases q1 : decide (1 ≤ n) with
 | true =>
  cases q2 : decide (n ≤ m) with
  | true =>
   have e : (powB n m) = (decide (bits .and .i64 n (IntKind.i64.wrap (n - 1)) = 0)) := by first | (simp only [powB, *, Bool.true_and, Bool.and_true, Bool.false_and, Bool.and_false, cond_true, cond_false, Bool.not_true, Bool.not_false]; done) | (simp only [powB, *, Bool.true_and, Bool.and_true, Bool.false_and, Bool.and_false, cond_true, cond_false, Bool.not_true, Bool.not_false]; rfl)
   rw [e]; clear e
   exact power_sp_0 n m q1 q2
  | false =>
   have e : (powB n m) = false := by first | (simp only [powB, *, Bool.true_and, Bool.and_true, Bool.false_and, Bool.and_false, cond_true, cond_false, Bool.not_true, Bool.not_false]; done) | (simp only [powB, *, Bool.true_and, Bool.and_true, Bool.false_and, Bool.and_false, cond_true, cond_false, Bool.not_true, Bool.not_false]; rfl)
   rw [e]; clear e
   exact power_sp_1 n m q1 q2
 | false =>
  have e : (powB n m) = false := by first | (simp only [powB, *, Bool.true_and, Bool.and_true, Bool.false_and, Bool.and_false, cond_true, cond_false, Bool.not_true, Bool.not_false]; done) | (simp only [powB, *, Bool.true_and, Bool.and_true, Bool.false_and, Bool.and_false, cond_true, cond_false, Bool.not_true, Bool.not_false]; rfl)
  rw [e]; clear e
  exact power_sp_2 n m q1
theorem gbelow_sp_0 (i : Int) (n : Int) (q1 : (decide (0 ≤ i)) = true) : Sp P 204 [vi i, vi n] [] (vt (decide (i < n))) [] :=
 Sp.of (fn := Tryz.f204) rfl rfl 3 [] (.t q1 (.t q1 (.t q1 (.t q1 .nil)))) (by kernel_rfl) (by kernel_rfl)
theorem gbelow_sp_1 (i : Int) (n : Int) (q1 : (decide (0 ≤ i)) = false) : Sp P 204 [vi i, vi n] [] (vt false) [] :=
 Sp.of (fn := Tryz.f204) rfl rfl 3 [] (.t q1 (.t q1 (.t q1 (.t q1 .nil)))) (by kernel_rfl) (by kernel_rfl)
theorem gbelow_sp (i : Int) (n : Int)  : Sp P 204 [vi i, vi n] [] (vt (belB i n)) [] := by
 cases q1 : decide (0 ≤ i) with
 | true =>
  have e : (belB i n) = (decide (i < n)) := by first | (simp only [belB, *, Bool.true_and, Bool.and_true, Bool.false_and, Bool.and_false, cond_true, cond_false, Bool.not_true, Bool.not_false]; done) | (simp only [belB, *, Bool.true_and, Bool.and_true, Bool.false_and, Bool.and_false, cond_true, cond_false, Bool.not_true, Bool.not_false]; rfl)
  rw [e]; clear e
  exact gbelow_sp_0 i n q1
 | false =>
  have e : (belB i n) = false := by first | (simp only [belB, *, Bool.true_and, Bool.and_true, Bool.false_and, Bool.and_false, cond_true, cond_false, Bool.not_true, Bool.not_false]; done) | (simp only [belB, *, Bool.true_and, Bool.and_true, Bool.false_and, Bool.and_false, cond_true, cond_false, Bool.not_true, Bool.not_false]; rfl)
  rw [e]; clear e
  exact gbelow_sp_1 i n q1
theorem gright_sp_0 (g : Gm) (q1 : (powB g.ranks 8) = true) (q2 : (decide (0 ≤ g.spares)) = true) (q3 : (decide (g.spares ≤ IntKind.i64.wrap (8 - g.ranks))) = true) (q4 : (powB g.banks 16) = true) (q5 : (powB g.rows 1024) = true) (q6 : (powB g.cols 64) = true) : Sp P 116 [.ag [vi g.ranks, vi g.spares, vi g.banks, vi g.rows, vi g.cols]] [] (vt (decide (IntKind.i64.wrap ((IntKind.i64.wrap ((IntKind.i64.wrap ((IntKind.i64.wrap (g.ranks + g.spares)) * g.banks)) * g.rows)) * g.cols) ≤ 4096))) [] :=
 Sp.of (fn := Tryz.f116) rfl rfl 3 [] (.c [] (power_sp g.ranks 8) (.t q1 (.t q1 (.t q1 (.t q1 (.t q2 (.t q2 (.t q2 (.t q2 (.t q2 (.t q2 (.t q2 (.t q3 (.t q3 (.t q3 (.c [] (power_sp g.banks 16) (.t q3 (.t q4 (.t q4 (.t q4 (.c [] (power_sp g.rows 1024) (.t q4 (.t q5 (.t q5 (.t q5 (.c [] (power_sp g.cols 64) (.t q5 (.t q6 (.t q6 (.t q6 (.t q6 (.t q6 (.t q6 (.t q6 (.t q6 (.t q6 (.t q6 (.t q6 (.t q6 (.t q6 (.t q6 (.t q6 (.t q6 .nil))))))))))))))))))))))))))))))))))))))))))) (by kernel_rfl) (by kernel_rfl)
theorem gright_sp_1 (g : Gm) (q1 : (powB g.ranks 8) = true) (q2 : (decide (0 ≤ g.spares)) = true) (q3 : (decide (g.spares ≤ IntKind.i64.wrap (8 - g.ranks))) = true) (q4 : (powB g.banks 16) = true) (q5 : (powB g.rows 1024) = true) (q6 : (powB g.cols 64) = false) : Sp P 116 [.ag [vi g.ranks, vi g.spares, vi g.banks, vi g.rows, vi g.cols]] [] (vt false) [] :=
 Sp.of (fn := Tryz.f116) rfl rfl 3 [] (.c [] (power_sp g.ranks 8) (.t q1 (.t q1 (.t q1 (.t q1 (.t q2 (.t q2 (.t q2 (.t q2 (.t q2 (.t q2 (.t q2 (.t q3 (.t q3 (.t q3 (.c [] (power_sp g.banks 16) (.t q3 (.t q4 (.t q4 (.t q4 (.c [] (power_sp g.rows 1024) (.t q4 (.t q5 (.t q5 (.t q5 (.c [] (power_sp g.cols 64) (.t q5 (.t q6 (.t q6 (.t q6 (.t q6 (.t q6 (.t q6 (.t q6 (.t q6 (.t q6 (.t q6 (.t q6 (.t q6 (.t q6 (.t q6 (.t q6 (.t q6 .nil))))))))))))))))))))))))))))))))))))))))))) (by kernel_rfl) (by kernel_rfl)
theorem gright_sp_2 (g : Gm) (q1 : (powB g.ranks 8) = true) (q2 : (decide (0 ≤ g.spares)) = true) (q3 : (decide (g.spares ≤ IntKind.i64.wrap (8 - g.ranks))) = true) (q4 : (powB g.banks 16) = true) (q5 : (powB g.rows 1024) = false) : Sp P 116 [.ag [vi g.ranks, vi g.spares, vi g.banks, vi g.rows, vi g.cols]] [] (vt false) [] :=
 Sp.of (fn := Tryz.f116) rfl rfl 3 [] (.c [] (power_sp g.ranks 8) (.t q1 (.t q1 (.t q1 (.t q1 (.t q2 (.t q2 (.t q2 (.t q2 (.t q2 (.t q2 (.t q2 (.t q3 (.t q3 (.t q3 (.c [] (power_sp g.banks 16) (.t q3 (.t q4 (.t q4 (.t q4 (.c [] (power_sp g.rows 1024) (.t q4 (.t q5 (.t q5 (.t q5 (.t q5 (.n (.n (.n (.n (.n (.n (.n (.n (.n (.n (.n (.n (.n (.n (.n (.n .nil)))))))))))))))))))))))))))))))))))))))))) (by kernel_rfl) (by kernel_rfl)
theorem gright_sp_3 (g : Gm) (q1 : (powB g.ranks 8) = true) (q2 : (decide (0 ≤ g.spares)) = true) (q3 : (decide (g.spares ≤ IntKind.i64.wrap (8 - g.ranks))) = true) (q4 : (powB g.banks 16) = false) : Sp P 116 [.ag [vi g.ranks, vi g.spares, vi g.banks, vi g.rows, vi g.cols]] [] (vt false) [] :=
 Sp.of (fn := Tryz.f116) rfl rfl 3 [] (.c [] (power_sp g.ranks 8) (.t q1 (.t q1 (.t q1 (.t q1 (.t q2 (.t q2 (.t q2 (.t q2 (.t q2 (.t q2 (.t q2 (.t q3 (.t q3 (.t q3 (.c [] (power_sp g.banks 16) (.t q3 (.t q4 (.t q4 (.t q4 (.t q4 (.n (.n (.n (.n (.n (.n (.n (.n (.n (.n (.n (.n (.n (.n (.n (.n (.n (.n (.n (.n .nil))))))))))))))))))))))))))))))))))))))))) (by kernel_rfl) (by kernel_rfl)
theorem gright_sp_4 (g : Gm) (q1 : (powB g.ranks 8) = true) (q2 : (decide (0 ≤ g.spares)) = true) (q3 : (decide (g.spares ≤ IntKind.i64.wrap (8 - g.ranks))) = false) : Sp P 116 [.ag [vi g.ranks, vi g.spares, vi g.banks, vi g.rows, vi g.cols]] [] (vt false) [] :=
 Sp.of (fn := Tryz.f116) rfl rfl 3 [] (.c [] (power_sp g.ranks 8) (.t q1 (.t q1 (.t q1 (.t q1 (.t q2 (.t q2 (.t q2 (.t q2 (.t q2 (.t q2 (.t q2 (.t q3 (.t q3 (.t q3 (.t q3 (.n (.n (.n (.n (.n (.n (.n (.n (.n (.n (.n (.n (.n (.n (.n (.n (.n (.n (.n (.n (.n (.n (.n (.n .nil)))))))))))))))))))))))))))))))))))))))) (by kernel_rfl) (by kernel_rfl)
theorem gright_sp_5 (g : Gm) (q1 : (powB g.ranks 8) = true) (q2 : (decide (0 ≤ g.spares)) = false) : Sp P 116 [.ag [vi g.ranks, vi g.spares, vi g.banks, vi g.rows, vi g.cols]] [] (vt false) [] :=
 Sp.of (fn := Tryz.f116) rfl rfl 3 [] (.c [] (power_sp g.ranks 8) (.t q1 (.t q1 (.t q1 (.t q1 (.t q2 (.t q2 (.t q2 (.t q2 (.t q2 (.t q2 (.t q2 (.n (.n (.n (.n (.n (.n (.n (.n (.n (.n (.n (.n (.n (.n (.n (.n (.n (.n (.n (.n (.n (.n (.n (.n (.n (.n (.n (.n .nil)))))))))))))))))))))))))))))))))))))))) (by kernel_rfl) (by kernel_rfl)
theorem gright_sp_6 (g : Gm) (q1 : (powB g.ranks 8) = false) : Sp P 116 [.ag [vi g.ranks, vi g.spares, vi g.banks, vi g.rows, vi g.cols]] [] (vt false) [] :=
 Sp.of (fn := Tryz.f116) rfl rfl 3 [] (.c [] (power_sp g.ranks 8) (.t q1 (.t q1 (.t q1 (.t q1 (.n (.n (.n (.n (.n (.n (.n (.n (.n (.n (.n (.n (.n (.n (.n (.n (.n (.n (.n (.n (.n (.n (.n (.n (.n (.n (.n (.n (.n (.n (.n (.n (.n (.n (.n .nil)))))))))))))))))))))))))))))))))))))))) (by kernel_rfl) (by kernel_rfl)
theorem gright_sp (g : Gm)  : Sp P 116 [.ag [vi g.ranks, vi g.spares, vi g.banks, vi g.rows, vi g.cols]] [] (vt g.right) [] := by
 cases q1 : (powB g.ranks 8) with
 | true =>
  cases q2 : decide (0 ≤ g.spares) with
  | true =>
   cases q3 : decide (g.spares ≤ IntKind.i64.wrap (8 - g.ranks)) with
   | true =>
    cases q4 : (powB g.banks 16) with
    | true =>
     cases q5 : (powB g.rows 1024) with
     | true =>
      cases q6 : (powB g.cols 64) with
      | true =>
       have e : g.right = (decide (IntKind.i64.wrap ((IntKind.i64.wrap ((IntKind.i64.wrap ((IntKind.i64.wrap (g.ranks + g.spares)) * g.banks)) * g.rows)) * g.cols) ≤ 4096)) := by first | (simp only [Gm.right, Gm.lines, *, Bool.true_and, Bool.and_true, Bool.false_and, Bool.and_false, cond_true, cond_false, Bool.not_true, Bool.not_false]; done) | (simp only [Gm.right, Gm.lines, *, Bool.true_and, Bool.and_true, Bool.false_and, Bool.and_false, cond_true, cond_false, Bool.not_true, Bool.not_false]; rfl)
       rw [e]; clear e
       exact gright_sp_0 g q1 q2 q3 q4 q5 q6
      | false =>
       have e : g.right = false := by first | (simp only [Gm.right, Gm.lines, *, Bool.true_and, Bool.and_true, Bool.false_and, Bool.and_false, cond_true, cond_false, Bool.not_true, Bool.not_false]; done) | (simp only [Gm.right, Gm.lines, *, Bool.true_and, Bool.and_true, Bool.false_and, Bool.and_false, cond_true, cond_false, Bool.not_true, Bool.not_false]; rfl)
       rw [e]; clear e
       exact gright_sp_1 g q1 q2 q3 q4 q5 q6
     | false =>
      have e : g.right = false := by first | (simp only [Gm.right, Gm.lines, *, Bool.true_and, Bool.and_true, Bool.false_and, Bool.and_false, cond_true, cond_false, Bool.not_true, Bool.not_false]; done) | (simp only [Gm.right, Gm.lines, *, Bool.true_and, Bool.and_true, Bool.false_and, Bool.and_false, cond_true, cond_false, Bool.not_true, Bool.not_false]; rfl)
      rw [e]; clear e
      exact gright_sp_2 g q1 q2 q3 q4 q5
    | false =>
     have e : g.right = false := by first | (simp only [Gm.right, Gm.lines, *, Bool.true_and, Bool.and_true, Bool.false_and, Bool.and_false, cond_true, cond_false, Bool.not_true, Bool.not_false]; done) | (simp only [Gm.right, Gm.lines, *, Bool.true_and, Bool.and_true, Bool.false_and, Bool.and_false, cond_true, cond_false, Bool.not_true, Bool.not_false]; rfl)
     rw [e]; clear e
     exact gright_sp_3 g q1 q2 q3 q4
   | false =>
    have e : g.right = false := by first | (simp only [Gm.right, Gm.lines, *, Bool.true_and, Bool.and_true, Bool.false_and, Bool.and_false, cond_true, cond_false, Bool.not_true, Bool.not_false]; done) | (simp only [Gm.right, Gm.lines, *, Bool.true_and, Bool.and_true, Bool.false_and, Bool.and_false, cond_true, cond_false, Bool.not_true, Bool.not_false]; rfl)
    rw [e]; clear e
    exact gright_sp_4 g q1 q2 q3
  | false =>
   have e : g.right = false := by first | (simp only [Gm.right, Gm.lines, *, Bool.true_and, Bool.and_true, Bool.false_and, Bool.and_false, cond_true, cond_false, Bool.not_true, Bool.not_false]; done) | (simp only [Gm.right, Gm.lines, *, Bool.true_and, Bool.and_true, Bool.false_and, Bool.and_false, cond_true, cond_false, Bool.not_true, Bool.not_false]; rfl)
   rw [e]; clear e
   exact gright_sp_5 g q1 q2
 | false =>
  have e : g.right = false := by first | (simp only [Gm.right, Gm.lines, *, Bool.true_and, Bool.and_true, Bool.false_and, Bool.and_false, cond_true, cond_false, Bool.not_true, Bool.not_false]; done) | (simp only [Gm.right, Gm.lines, *, Bool.true_and, Bool.and_true, Bool.false_and, Bool.and_false, cond_true, cond_false, Bool.not_true, Bool.not_false]; rfl)
  rw [e]; clear e
  exact gright_sp_6 g q1
theorem holds_sp_0 (g : Gm) (x : Pl) (q1 : g.right = true) (q2 : (belB x.rank (IntKind.i64.wrap (g.ranks + g.spares))) = true) (q3 : (belB x.bank g.banks) = true) (q4 : (belB x.row g.rows) = true) : Sp P 158 [.ag [vi g.ranks, vi g.spares, vi g.banks, vi g.rows, vi g.cols], .ag [vi x.rank, vi x.bank, vi x.row, vi x.col]] [] (vt (belB x.col g.cols)) [] :=
 Sp.of (fn := Tryz.f158) rfl rfl 4 [] (.c [] (gright_sp g) (.t q1 (.t q1 (.t q1 (.t q1 (.t q1 (.t q1 (.t q1 (.t q1 (.c [] (gbelow_sp x.rank (IntKind.i64.wrap (g.ranks + g.spares))) (.t q1 (.t q2 (.t q2 (.t q2 (.t q2 (.t q2 (.c [] (gbelow_sp x.bank g.banks) (.t q2 (.t q3 (.t q3 (.t q3 (.t q3 (.t q3 (.c [] (gbelow_sp x.row g.rows) (.t q3 (.t q4 (.t q4 (.t q4 (.t q4 (.t q4 (.c [] (gbelow_sp x.col g.cols) (.t q4 .nil)))))))))))))))))))))))))))))))) (by kernel_rfl) (by kernel_rfl)
theorem holds_sp_1 (g : Gm) (x : Pl) (q1 : g.right = true) (q2 : (belB x.rank (IntKind.i64.wrap (g.ranks + g.spares))) = true) (q3 : (belB x.bank g.banks) = true) (q4 : (belB x.row g.rows) = false) : Sp P 158 [.ag [vi g.ranks, vi g.spares, vi g.banks, vi g.rows, vi g.cols], .ag [vi x.rank, vi x.bank, vi x.row, vi x.col]] [] (vt false) [] :=
 Sp.of (fn := Tryz.f158) rfl rfl 4 [] (.c [] (gright_sp g) (.t q1 (.t q1 (.t q1 (.t q1 (.t q1 (.t q1 (.t q1 (.t q1 (.c [] (gbelow_sp x.rank (IntKind.i64.wrap (g.ranks + g.spares))) (.t q1 (.t q2 (.t q2 (.t q2 (.t q2 (.t q2 (.c [] (gbelow_sp x.bank g.banks) (.t q2 (.t q3 (.t q3 (.t q3 (.t q3 (.t q3 (.c [] (gbelow_sp x.row g.rows) (.t q3 (.t q4 (.t q4 (.t q4 (.t q4 (.t q4 (.t q4 .nil))))))))))))))))))))))))))))))) (by kernel_rfl) (by kernel_rfl)
theorem holds_sp_2 (g : Gm) (x : Pl) (q1 : g.right = true) (q2 : (belB x.rank (IntKind.i64.wrap (g.ranks + g.spares))) = true) (q3 : (belB x.bank g.banks) = false) : Sp P 158 [.ag [vi g.ranks, vi g.spares, vi g.banks, vi g.rows, vi g.cols], .ag [vi x.rank, vi x.bank, vi x.row, vi x.col]] [] (vt false) [] :=
 Sp.of (fn := Tryz.f158) rfl rfl 4 [] (.c [] (gright_sp g) (.t q1 (.t q1 (.t q1 (.t q1 (.t q1 (.t q1 (.t q1 (.t q1 (.c [] (gbelow_sp x.rank (IntKind.i64.wrap (g.ranks + g.spares))) (.t q1 (.t q2 (.t q2 (.t q2 (.t q2 (.t q2 (.c [] (gbelow_sp x.bank g.banks) (.t q2 (.t q3 (.t q3 (.t q3 (.t q3 (.t q3 (.t q3 (.n (.n (.n (.n (.n (.n .nil)))))))))))))))))))))))))))))) (by kernel_rfl) (by kernel_rfl)
theorem holds_sp_3 (g : Gm) (x : Pl) (q1 : g.right = true) (q2 : (belB x.rank (IntKind.i64.wrap (g.ranks + g.spares))) = false) : Sp P 158 [.ag [vi g.ranks, vi g.spares, vi g.banks, vi g.rows, vi g.cols], .ag [vi x.rank, vi x.bank, vi x.row, vi x.col]] [] (vt false) [] :=
 Sp.of (fn := Tryz.f158) rfl rfl 4 [] (.c [] (gright_sp g) (.t q1 (.t q1 (.t q1 (.t q1 (.t q1 (.t q1 (.t q1 (.t q1 (.c [] (gbelow_sp x.rank (IntKind.i64.wrap (g.ranks + g.spares))) (.t q1 (.t q2 (.t q2 (.t q2 (.t q2 (.t q2 (.t q2 (.n (.n (.n (.n (.n (.n (.n (.n (.n (.n (.n (.n .nil))))))))))))))))))))))))))))) (by kernel_rfl) (by kernel_rfl)
theorem holds_sp_4 (g : Gm) (x : Pl) (q1 : g.right = false) : Sp P 158 [.ag [vi g.ranks, vi g.spares, vi g.banks, vi g.rows, vi g.cols], .ag [vi x.rank, vi x.bank, vi x.row, vi x.col]] [] (vt false) [] :=
 Sp.of (fn := Tryz.f158) rfl rfl 4 [] (.c [] (gright_sp g) (.t q1 (.t q1 (.t q1 (.t q1 (.t q1 (.t q1 (.t q1 (.t q1 (.t q1 (.n (.n (.n (.n (.n (.n (.n (.n (.n (.n (.n (.n (.n (.n (.n (.n (.n (.n .nil)))))))))))))))))))))))))))) (by kernel_rfl) (by kernel_rfl)
theorem holds_sp (g : Gm) (x : Pl)  : Sp P 158 [.ag [vi g.ranks, vi g.spares, vi g.banks, vi g.rows, vi g.cols], .ag [vi x.rank, vi x.bank, vi x.row, vi x.col]] [] (vt (g.holds x)) [] := by
 cases q1 : g.right with
 | true =>
  cases q2 : (belB x.rank (IntKind.i64.wrap (g.ranks + g.spares))) with
  | true =>
   cases q3 : (belB x.bank g.banks) with
   | true =>
    cases q4 : (belB x.row g.rows) with
    | true =>
     have e : (g.holds x) = (belB x.col g.cols) := by first | (simp only [Gm.holds, *, Bool.true_and, Bool.and_true, Bool.false_and, Bool.and_false, cond_true, cond_false, Bool.not_true, Bool.not_false]; done) | (simp only [Gm.holds, *, Bool.true_and, Bool.and_true, Bool.false_and, Bool.and_false, cond_true, cond_false, Bool.not_true, Bool.not_false]; rfl)
     rw [e]; clear e
     exact holds_sp_0 g x q1 q2 q3 q4
    | false =>
     have e : (g.holds x) = false := by first | (simp only [Gm.holds, *, Bool.true_and, Bool.and_true, Bool.false_and, Bool.and_false, cond_true, cond_false, Bool.not_true, Bool.not_false]; done) | (simp only [Gm.holds, *, Bool.true_and, Bool.and_true, Bool.false_and, Bool.and_false, cond_true, cond_false, Bool.not_true, Bool.not_false]; rfl)
     rw [e]; clear e
     exact holds_sp_1 g x q1 q2 q3 q4
   | false =>
    have e : (g.holds x) = false := by first | (simp only [Gm.holds, *, Bool.true_and, Bool.and_true, Bool.false_and, Bool.and_false, cond_true, cond_false, Bool.not_true, Bool.not_false]; done) | (simp only [Gm.holds, *, Bool.true_and, Bool.and_true, Bool.false_and, Bool.and_false, cond_true, cond_false, Bool.not_true, Bool.not_false]; rfl)
    rw [e]; clear e
    exact holds_sp_2 g x q1 q2 q3
  | false =>
   have e : (g.holds x) = false := by first | (simp only [Gm.holds, *, Bool.true_and, Bool.and_true, Bool.false_and, Bool.and_false, cond_true, cond_false, Bool.not_true, Bool.not_false]; done) | (simp only [Gm.holds, *, Bool.true_and, Bool.and_true, Bool.false_and, Bool.and_false, cond_true, cond_false, Bool.not_true, Bool.not_false]; rfl)
   rw [e]; clear e
   exact holds_sp_3 g x q1 q2
 | false =>
  have e : (g.holds x) = false := by first | (simp only [Gm.holds, *, Bool.true_and, Bool.and_true, Bool.false_and, Bool.and_false, cond_true, cond_false, Bool.not_true, Bool.not_false]; done) | (simp only [Gm.holds, *, Bool.true_and, Bool.and_true, Bool.false_and, Bool.and_false, cond_true, cond_false, Bool.not_true, Bool.not_false]; rfl)
  rw [e]; clear e
  exact holds_sp_4 g x q1
theorem pindex_sp (x : Pl)  : Sp P 206 [.ag [vi x.rank, vi x.bank, vi x.row, vi x.col]] [] (vi x.ix) [] :=
 Sp.of (fn := Tryz.f206) rfl rfl 3 [] .nil (by kernel_rfl) (by kernel_rfl)
theorem place_sp (i : Int)  : Sp P 213 [vi i] [] (.ag [vi (plOf i).rank, vi (plOf i).bank, vi (plOf i).row, vi (plOf i).col]) [] :=
 Sp.of (fn := Tryz.f213) rfl rfl 3 [] .nil (by kernel_rfl) (by kernel_rfl)
theorem gat_sp_0 (g : Gm) (i : Int) (q1 : (decide (i < 0)) = true) : Sp P 162 [.ag [vi g.ranks, vi g.spares, vi g.banks, vi g.rows, vi g.cols], vi i] [] (.tu [.ag [vn 0, vn 0, vn 0, vn 0], vn 12]) [] :=
 Sp.of (fn := Tryz.f162) rfl rfl 5 [] (.c [] (place_sp i) (.t q1 (.t q1 (.t q1 (.t q1 (.t q1 (.y .nil))))))) (by kernel_rfl) (by kernel_rfl)
theorem gat_sp_1 (g : Gm) (i : Int) (q1 : (decide (i < 0)) = false) (q2 : (g.holds (plOf i)) = true) : Sp P 162 [.ag [vi g.ranks, vi g.spares, vi g.banks, vi g.rows, vi g.cols], vi i] [] (.tu [.ag [vi (plOf i).rank, vi (plOf i).bank, vi (plOf i).row, vi (plOf i).col], vn 0]) [] :=
 Sp.of (fn := Tryz.f162) rfl rfl 5 [] (.c [] (place_sp i) (.t q1 (.t q1 (.t q1 (.c [] (holds_sp g (plOf i)) (.t q1 (.t q1 (.g q2 .nil)))))))) (by kernel_rfl) (by kernel_rfl)
theorem gat_sp_2 (g : Gm) (i : Int) (q1 : (decide (i < 0)) = false) (q2 : (g.holds (plOf i)) = false) : Sp P 162 [.ag [vi g.ranks, vi g.spares, vi g.banks, vi g.rows, vi g.cols], vi i] [] (.tu [.ag [vn 0, vn 0, vn 0, vn 0], vn 12]) [] :=
 Sp.of (fn := Tryz.f162) rfl rfl 5 [] (.c [] (place_sp i) (.t q1 (.t q1 (.t q1 (.c [] (holds_sp g (plOf i)) (.t q1 (.t q1 (.g q2 .nil)))))))) (by kernel_rfl) (by kernel_rfl)
theorem gat_sp (g : Gm) (i : Int)  : Sp P 162 [.ag [vi g.ranks, vi g.spares, vi g.banks, vi g.rows, vi g.cols], vi i] [] (.tu [.ag [vi (g.at i).rank, vi (g.at i).bank, vi (g.at i).row, vi (g.at i).col], vi (g.atE i)]) [] := by
 cases q1 : decide (i < 0) with
 | true =>
  have e : (g.at i).rank = 0 := by first | (simp only [Gm.at, Gm.atE, Gm.atB, pl0, *, Bool.true_and, Bool.and_true, Bool.false_and, Bool.and_false, cond_true, cond_false, Bool.not_true, Bool.not_false]; done) | (simp only [Gm.at, Gm.atE, Gm.atB, pl0, *, Bool.true_and, Bool.and_true, Bool.false_and, Bool.and_false, cond_true, cond_false, Bool.not_true, Bool.not_false]; rfl)
  rw [e]; clear e
  have e : (g.at i).bank = 0 := by first | (simp only [Gm.at, Gm.atE, Gm.atB, pl0, *, Bool.true_and, Bool.and_true, Bool.false_and, Bool.and_false, cond_true, cond_false, Bool.not_true, Bool.not_false]; done) | (simp only [Gm.at, Gm.atE, Gm.atB, pl0, *, Bool.true_and, Bool.and_true, Bool.false_and, Bool.and_false, cond_true, cond_false, Bool.not_true, Bool.not_false]; rfl)
  rw [e]; clear e
  have e : (g.at i).row = 0 := by first | (simp only [Gm.at, Gm.atE, Gm.atB, pl0, *, Bool.true_and, Bool.and_true, Bool.false_and, Bool.and_false, cond_true, cond_false, Bool.not_true, Bool.not_false]; done) | (simp only [Gm.at, Gm.atE, Gm.atB, pl0, *, Bool.true_and, Bool.and_true, Bool.false_and, Bool.and_false, cond_true, cond_false, Bool.not_true, Bool.not_false]; rfl)
  rw [e]; clear e
  have e : (g.at i).col = 0 := by first | (simp only [Gm.at, Gm.atE, Gm.atB, pl0, *, Bool.true_and, Bool.and_true, Bool.false_and, Bool.and_false, cond_true, cond_false, Bool.not_true, Bool.not_false]; done) | (simp only [Gm.at, Gm.atE, Gm.atB, pl0, *, Bool.true_and, Bool.and_true, Bool.false_and, Bool.and_false, cond_true, cond_false, Bool.not_true, Bool.not_false]; rfl)
  rw [e]; clear e
  have e : (g.atE i) = 12 := by first | (simp only [Gm.at, Gm.atE, Gm.atB, pl0, *, Bool.true_and, Bool.and_true, Bool.false_and, Bool.and_false, cond_true, cond_false, Bool.not_true, Bool.not_false]; done) | (simp only [Gm.at, Gm.atE, Gm.atB, pl0, *, Bool.true_and, Bool.and_true, Bool.false_and, Bool.and_false, cond_true, cond_false, Bool.not_true, Bool.not_false]; rfl)
  rw [e]; clear e
  exact gat_sp_0 g i q1
 | false =>
  cases q2 : (g.holds (plOf i)) with
  | true =>
   have e : (g.at i).rank = (plOf i).rank := by first | (simp only [Gm.at, Gm.atE, Gm.atB, pl0, *, Bool.true_and, Bool.and_true, Bool.false_and, Bool.and_false, cond_true, cond_false, Bool.not_true, Bool.not_false]; done) | (simp only [Gm.at, Gm.atE, Gm.atB, pl0, *, Bool.true_and, Bool.and_true, Bool.false_and, Bool.and_false, cond_true, cond_false, Bool.not_true, Bool.not_false]; rfl)
   rw [e]; clear e
   have e : (g.at i).bank = (plOf i).bank := by first | (simp only [Gm.at, Gm.atE, Gm.atB, pl0, *, Bool.true_and, Bool.and_true, Bool.false_and, Bool.and_false, cond_true, cond_false, Bool.not_true, Bool.not_false]; done) | (simp only [Gm.at, Gm.atE, Gm.atB, pl0, *, Bool.true_and, Bool.and_true, Bool.false_and, Bool.and_false, cond_true, cond_false, Bool.not_true, Bool.not_false]; rfl)
   rw [e]; clear e
   have e : (g.at i).row = (plOf i).row := by first | (simp only [Gm.at, Gm.atE, Gm.atB, pl0, *, Bool.true_and, Bool.and_true, Bool.false_and, Bool.and_false, cond_true, cond_false, Bool.not_true, Bool.not_false]; done) | (simp only [Gm.at, Gm.atE, Gm.atB, pl0, *, Bool.true_and, Bool.and_true, Bool.false_and, Bool.and_false, cond_true, cond_false, Bool.not_true, Bool.not_false]; rfl)
   rw [e]; clear e
   have e : (g.at i).col = (plOf i).col := by first | (simp only [Gm.at, Gm.atE, Gm.atB, pl0, *, Bool.true_and, Bool.and_true, Bool.false_and, Bool.and_false, cond_true, cond_false, Bool.not_true, Bool.not_false]; done) | (simp only [Gm.at, Gm.atE, Gm.atB, pl0, *, Bool.true_and, Bool.and_true, Bool.false_and, Bool.and_false, cond_true, cond_false, Bool.not_true, Bool.not_false]; rfl)
   rw [e]; clear e
   have e : (g.atE i) = 0 := by first | (simp only [Gm.at, Gm.atE, Gm.atB, pl0, *, Bool.true_and, Bool.and_true, Bool.false_and, Bool.and_false, cond_true, cond_false, Bool.not_true, Bool.not_false]; done) | (simp only [Gm.at, Gm.atE, Gm.atB, pl0, *, Bool.true_and, Bool.and_true, Bool.false_and, Bool.and_false, cond_true, cond_false, Bool.not_true, Bool.not_false]; rfl)
   rw [e]; clear e
   exact gat_sp_1 g i q1 q2
  | false =>
   have e : (g.at i).rank = 0 := by first | (simp only [Gm.at, Gm.atE, Gm.atB, pl0, *, Bool.true_and, Bool.and_true, Bool.false_and, Bool.and_false, cond_true, cond_false, Bool.not_true, Bool.not_false]; done) | (simp only [Gm.at, Gm.atE, Gm.atB, pl0, *, Bool.true_and, Bool.and_true, Bool.false_and, Bool.and_false, cond_true, cond_false, Bool.not_true, Bool.not_false]; rfl)
   rw [e]; clear e
   have e : (g.at i).bank = 0 := by first | (simp only [Gm.at, Gm.atE, Gm.atB, pl0, *, Bool.true_and, Bool.and_true, Bool.false_and, Bool.and_false, cond_true, cond_false, Bool.not_true, Bool.not_false]; done) | (simp only [Gm.at, Gm.atE, Gm.atB, pl0, *, Bool.true_and, Bool.and_true, Bool.false_and, Bool.and_false, cond_true, cond_false, Bool.not_true, Bool.not_false]; rfl)
   rw [e]; clear e
   have e : (g.at i).row = 0 := by first | (simp only [Gm.at, Gm.atE, Gm.atB, pl0, *, Bool.true_and, Bool.and_true, Bool.false_and, Bool.and_false, cond_true, cond_false, Bool.not_true, Bool.not_false]; done) | (simp only [Gm.at, Gm.atE, Gm.atB, pl0, *, Bool.true_and, Bool.and_true, Bool.false_and, Bool.and_false, cond_true, cond_false, Bool.not_true, Bool.not_false]; rfl)
   rw [e]; clear e
   have e : (g.at i).col = 0 := by first | (simp only [Gm.at, Gm.atE, Gm.atB, pl0, *, Bool.true_and, Bool.and_true, Bool.false_and, Bool.and_false, cond_true, cond_false, Bool.not_true, Bool.not_false]; done) | (simp only [Gm.at, Gm.atE, Gm.atB, pl0, *, Bool.true_and, Bool.and_true, Bool.false_and, Bool.and_false, cond_true, cond_false, Bool.not_true, Bool.not_false]; rfl)
   rw [e]; clear e
   have e : (g.atE i) = 12 := by first | (simp only [Gm.at, Gm.atE, Gm.atB, pl0, *, Bool.true_and, Bool.and_true, Bool.false_and, Bool.and_false, cond_true, cond_false, Bool.not_true, Bool.not_false]; done) | (simp only [Gm.at, Gm.atE, Gm.atB, pl0, *, Bool.true_and, Bool.and_true, Bool.false_and, Bool.and_false, cond_true, cond_false, Bool.not_true, Bool.not_false]; rfl)
   rw [e]; clear e
   exact gat_sp_2 g i q1 q2
theorem gindex_sp_0 (g : Gm) (x : Pl) (q1 : (g.holds x) = true) : Sp P 165 [.ag [vi g.ranks, vi g.spares, vi g.banks, vi g.rows, vi g.cols], .ag [vi x.rank, vi x.bank, vi x.row, vi x.col]] [] (.tu [vi x.ix, vn 0]) [] :=
 Sp.of (fn := Tryz.f165) rfl rfl 4 [] (.c [] (holds_sp g x) (.g q1 (.c [] (pindex_sp x) .nil))) (by kernel_rfl) (by kernel_rfl)
theorem gindex_sp_1 (g : Gm) (x : Pl) (q1 : (g.holds x) = false) : Sp P 165 [.ag [vi g.ranks, vi g.spares, vi g.banks, vi g.rows, vi g.cols], .ag [vi x.rank, vi x.bank, vi x.row, vi x.col]] [] (.tu [vn 0, vn 12]) [] :=
 Sp.of (fn := Tryz.f165) rfl rfl 4 [] (.c [] (holds_sp g x) (.g q1 .nil)) (by kernel_rfl) (by kernel_rfl)
theorem gindex_sp (g : Gm) (x : Pl)  : Sp P 165 [.ag [vi g.ranks, vi g.spares, vi g.banks, vi g.rows, vi g.cols], .ag [vi x.rank, vi x.bank, vi x.row, vi x.col]] [] (.tu [vi (g.ix x), vi (g.ixE x)]) [] := by
 cases q1 : (g.holds x) with
 | true =>
  have e : (g.ix x) = x.ix := by first | (simp only [Gm.ix, Gm.ixE, *, Bool.true_and, Bool.and_true, Bool.false_and, Bool.and_false, cond_true, cond_false, Bool.not_true, Bool.not_false]; done) | (simp only [Gm.ix, Gm.ixE, *, Bool.true_and, Bool.and_true, Bool.false_and, Bool.and_false, cond_true, cond_false, Bool.not_true, Bool.not_false]; rfl)
  rw [e]; clear e
  have e : (g.ixE x) = 0 := by first | (simp only [Gm.ix, Gm.ixE, *, Bool.true_and, Bool.and_true, Bool.false_and, Bool.and_false, cond_true, cond_false, Bool.not_true, Bool.not_false]; done) | (simp only [Gm.ix, Gm.ixE, *, Bool.true_and, Bool.and_true, Bool.false_and, Bool.and_false, cond_true, cond_false, Bool.not_true, Bool.not_false]; rfl)
  rw [e]; clear e
  exact gindex_sp_0 g x q1
 | false =>
  have e : (g.ix x) = 0 := by first | (simp only [Gm.ix, Gm.ixE, *, Bool.true_and, Bool.and_true, Bool.false_and, Bool.and_false, cond_true, cond_false, Bool.not_true, Bool.not_false]; done) | (simp only [Gm.ix, Gm.ixE, *, Bool.true_and, Bool.and_true, Bool.false_and, Bool.and_false, cond_true, cond_false, Bool.not_true, Bool.not_false]; rfl)
  rw [e]; clear e
  have e : (g.ixE x) = 12 := by first | (simp only [Gm.ix, Gm.ixE, *, Bool.true_and, Bool.and_true, Bool.false_and, Bool.and_false, cond_true, cond_false, Bool.not_true, Bool.not_false]; done) | (simp only [Gm.ix, Gm.ixE, *, Bool.true_and, Bool.and_true, Bool.false_and, Bool.and_false, cond_true, cond_false, Bool.not_true, Bool.not_false]; rfl)
  rw [e]; clear e
  exact gindex_sp_1 g x q1
end Go.Proofs.YtghfannbcopjmaaGreat
