import Derived.Test.YtghfannbcopjmaaGreatFGeo2
namespace Go.Proofs.YtghfannbcopjmaaGreat
open Go Go.RowKit
set_option linter.unusedVariables false
set_option linter.unusedSimpArgs false
set_option maxRecDepth 100000
theorem mul_bd {a b A B : Int} (ha : 0 ≤ a ∧ a ≤ A) (hb : 0 ≤ b ∧ b ≤ B) : 0 ≤ a * b ∧ a * b ≤ A * B :=
 ⟨Int.mul_nonneg ha.1 hb.1, Int.mul_le_mul ha.2 hb.2 hb.1 (by omega)⟩
theorem gpages_eq {g : Gm} (h : g.right = true) : gpages_v0 g = g.ranks * g.banks * g.rows ∧ 0 ≤ g.ranks * g.banks * g.rows ∧ g.ranks * g.banks * g.rows ≤ 131072 := by
 obtain ⟨h1, h2, h3, h4, h5⟩ := Gm.rt h
 have m1 := mul_bd (a := g.ranks) (b := g.banks) (A := 8) (B := 16) (by omega) (by omega)
 have m2 := mul_bd (a := g.ranks * g.banks) (b := g.rows) (A := 128) (B := 1024) (by omega) (by omega)
 refine ⟨?_, by omega, by omega⟩
 unfold gpages_v0
 rw [h, cond_true, wrap_ok (x := g.ranks * g.banks) (by omega) (by omega), wrap_ok (by omega) (by omega)]
theorem mul_pos' {a b : Int} (ha : 1 ≤ a) (hb : 1 ≤ b) : 1 ≤ a * b := by have := Int.mul_pos (a := a) (b := b) (by omega) (by omega); omega
theorem gpages_pos {g : Gm} (h : g.right = true) : 1 ≤ gpages_v0 g := by
 obtain ⟨h1, h2, h3, h4, h5⟩ := Gm.rt h
 rw [(gpages_eq h).1]
 exact mul_pos' (mul_pos' (by omega) (by omega)) (by omega)
def digits_r (n : Int) (a : Int) (b : Int) (c : Int) : List Int := (([] ++ [n.tmod ([a, b, c].getD 0 eI0)]) ++ [(IntKind.i64.wrap (n.tdiv ([a, b, c].getD 0 eI0))).tmod ([a, b, c].getD 1 eI0)]) ++ [(IntKind.i64.wrap ((IntKind.i64.wrap (n.tdiv ([a, b, c].getD 0 eI0))).tdiv ([a, b, c].getD 1 eI0))).tmod ([a, b, c].getD 2 eI0)]
theorem digits (n : Int) (a : Int) (b : Int) (c : Int) (ha : a ≠ 0) (hb : b ≠ 0) (hc : c ≠ 0) : Sp P 164 [vi n, .sl 0] [.ro (.row eI [a, b, c])] (.sl 1) [.ro (.row eI [a, b, c]), .row eI (digits_r n a b c)] :=
 Sp.of (fn := Tryz.f164) rfl rfl 8 [.id 0, .id 7] (.lu 3 (.y (.ix (i := 0) (m := 3) (show 0 < 3 by decide) (.el (e := eI) (gDx (l := [a, b, c]) (i := 0) eI0 (show 0 < 3 by decide)) (.p 17 (pRemI n ([a, b, c].getD 0 eI0) (by assumption)) (.ap (e := eI) (l := []) (l' := [n.tmod ([a, b, c].getD 0 eI0)]) (.flat [] [] rfl) (.flat [vi (n.tmod ([a, b, c].getD 0 eI0))] [n.tmod ([a, b, c].getD 0 eI0)] rfl) (by simp only [List.length_append, List.length_cons, List.length_nil]; omega) (.p 22 (pQuoI n ([a, b, c].getD 0 eI0) (by assumption)) (.y (.ix (i := 1) (m := 3) (show 1 < 3 by decide) (.el (e := eI) (gDx (l := [a, b, c]) (i := 1) eI0 (show 1 < 3 by decide)) (.p 17 (pRemI (IntKind.i64.wrap (n.tdiv ([a, b, c].getD 0 eI0))) ([a, b, c].getD 1 eI0) (by assumption)) (.ap (e := eI) (l := [] ++ [n.tmod ([a, b, c].getD 0 eI0)]) (l' := [(IntKind.i64.wrap (n.tdiv ([a, b, c].getD 0 eI0))).tmod ([a, b, c].getD 1 eI0)]) .row (.flat [vi ((IntKind.i64.wrap (n.tdiv ([a, b, c].getD 0 eI0))).tmod ([a, b, c].getD 1 eI0))] [(IntKind.i64.wrap (n.tdiv ([a, b, c].getD 0 eI0))).tmod ([a, b, c].getD 1 eI0)] rfl) (by simp only [List.length_append, List.length_cons, List.length_nil]; omega) (.p 22 (pQuoI (IntKind.i64.wrap (n.tdiv ([a, b, c].getD 0 eI0))) ([a, b, c].getD 1 eI0) (by assumption)) (.y (.ix (i := 2) (m := 3) (show 2 < 3 by decide) (.el (e := eI) (gDx (l := [a, b, c]) (i := 2) eI0 (show 2 < 3 by decide)) (.p 17 (pRemI (IntKind.i64.wrap ((IntKind.i64.wrap (n.tdiv ([a, b, c].getD 0 eI0))).tdiv ([a, b, c].getD 1 eI0))) ([a, b, c].getD 2 eI0) (by assumption)) (.ap (e := eI) (l := ([] ++ [n.tmod ([a, b, c].getD 0 eI0)]) ++ [(IntKind.i64.wrap (n.tdiv ([a, b, c].getD 0 eI0))).tmod ([a, b, c].getD 1 eI0)]) (l' := [(IntKind.i64.wrap ((IntKind.i64.wrap (n.tdiv ([a, b, c].getD 0 eI0))).tdiv ([a, b, c].getD 1 eI0))).tmod ([a, b, c].getD 2 eI0)]) .row (.flat [vi ((IntKind.i64.wrap ((IntKind.i64.wrap (n.tdiv ([a, b, c].getD 0 eI0))).tdiv ([a, b, c].getD 1 eI0))).tmod ([a, b, c].getD 2 eI0))] [(IntKind.i64.wrap ((IntKind.i64.wrap (n.tdiv ([a, b, c].getD 0 eI0))).tdiv ([a, b, c].getD 1 eI0))).tmod ([a, b, c].getD 2 eI0)] rfl) (by simp only [List.length_append, List.length_cons, List.length_nil]; omega) (.p 22 (pQuoI (IntKind.i64.wrap ((IntKind.i64.wrap (n.tdiv ([a, b, c].getD 0 eI0))).tdiv ([a, b, c].getD 1 eI0))) ([a, b, c].getD 2 eI0) (by assumption)) (.n .nil)))))))))))))))))))) (by kernel_rfl) (by kernel_rfl)
theorem interRight_t {g : Gm} {w : Int} (h : interRight_v0 g w = true) : g.right = true ∧ 0 ≤ w ∧ w < 4 := by
 unfold interRight_v0 at h
 revert h
 cases q : g.right <;> cases q2 : decide (0 ≤ w) <;> simp_all
def iPage_v0 (g : Gm) (w : Int) (n : Int) : Int := bif (interRight_v0 g w) then (bif decide (n < 0) then 0 else (bif decide ((gpages_v0 g) ≤ n) then 0 else (bif decide (w = 0) then (bif decide (w = 3) then ((g.ix (⟨(digits_r n g.rows g.banks g.ranks).getD 2 eI0, bits .xor .i64 ((digits_r n g.rows g.banks g.ranks).getD 1 eI0) (bits .and .i64 ((digits_r n g.rows g.banks g.ranks).getD 0 eI0) (IntKind.i64.wrap (g.banks - 1))), (digits_r n g.rows g.banks g.ranks).getD 0 eI0, 0⟩ : Pl)).fdiv (2 ^ 6)) else ((g.ix (⟨(digits_r n g.rows g.banks g.ranks).getD 2 eI0, (digits_r n g.rows g.banks g.ranks).getD 1 eI0, (digits_r n g.rows g.banks g.ranks).getD 0 eI0, 0⟩ : Pl)).fdiv (2 ^ 6))) else (bif decide (w = 1) then (bif decide (w = 3) then ((g.ix (⟨(digits_r n g.banks g.rows g.ranks).getD 2 eI0, bits .xor .i64 ((digits_r n g.banks g.rows g.ranks).getD 0 eI0) (bits .and .i64 ((digits_r n g.banks g.rows g.ranks).getD 1 eI0) (IntKind.i64.wrap (g.banks - 1))), (digits_r n g.banks g.rows g.ranks).getD 1 eI0, 0⟩ : Pl)).fdiv (2 ^ 6)) else ((g.ix (⟨(digits_r n g.banks g.rows g.ranks).getD 2 eI0, (digits_r n g.banks g.rows g.ranks).getD 0 eI0, (digits_r n g.banks g.rows g.ranks).getD 1 eI0, 0⟩ : Pl)).fdiv (2 ^ 6))) else (bif decide (w = 3) then ((g.ix (⟨(digits_r n g.ranks g.banks g.rows).getD 0 eI0, bits .xor .i64 ((digits_r n g.ranks g.banks g.rows).getD 1 eI0) (bits .and .i64 ((digits_r n g.ranks g.banks g.rows).getD 2 eI0) (IntKind.i64.wrap (g.banks - 1))), (digits_r n g.ranks g.banks g.rows).getD 2 eI0, 0⟩ : Pl)).fdiv (2 ^ 6)) else ((g.ix (⟨(digits_r n g.ranks g.banks g.rows).getD 0 eI0, (digits_r n g.ranks g.banks g.rows).getD 1 eI0, (digits_r n g.ranks g.banks g.rows).getD 2 eI0, 0⟩ : Pl)).fdiv (2 ^ 6))))))) else 0
def iPage_v1 (g : Gm) (w : Int) (n : Int) : Int := bif (interRight_v0 g w) then (bif decide (n < 0) then 12 else (bif decide ((gpages_v0 g) ≤ n) then 12 else (bif decide (w = 0) then (bif decide (w = 3) then (g.ixE (⟨(digits_r n g.rows g.banks g.ranks).getD 2 eI0, bits .xor .i64 ((digits_r n g.rows g.banks g.ranks).getD 1 eI0) (bits .and .i64 ((digits_r n g.rows g.banks g.ranks).getD 0 eI0) (IntKind.i64.wrap (g.banks - 1))), (digits_r n g.rows g.banks g.ranks).getD 0 eI0, 0⟩ : Pl)) else (g.ixE (⟨(digits_r n g.rows g.banks g.ranks).getD 2 eI0, (digits_r n g.rows g.banks g.ranks).getD 1 eI0, (digits_r n g.rows g.banks g.ranks).getD 0 eI0, 0⟩ : Pl))) else (bif decide (w = 1) then (bif decide (w = 3) then (g.ixE (⟨(digits_r n g.banks g.rows g.ranks).getD 2 eI0, bits .xor .i64 ((digits_r n g.banks g.rows g.ranks).getD 0 eI0) (bits .and .i64 ((digits_r n g.banks g.rows g.ranks).getD 1 eI0) (IntKind.i64.wrap (g.banks - 1))), (digits_r n g.banks g.rows g.ranks).getD 1 eI0, 0⟩ : Pl)) else (g.ixE (⟨(digits_r n g.banks g.rows g.ranks).getD 2 eI0, (digits_r n g.banks g.rows g.ranks).getD 0 eI0, (digits_r n g.banks g.rows g.ranks).getD 1 eI0, 0⟩ : Pl))) else (bif decide (w = 3) then (g.ixE (⟨(digits_r n g.ranks g.banks g.rows).getD 0 eI0, bits .xor .i64 ((digits_r n g.ranks g.banks g.rows).getD 1 eI0) (bits .and .i64 ((digits_r n g.ranks g.banks g.rows).getD 2 eI0) (IntKind.i64.wrap (g.banks - 1))), (digits_r n g.ranks g.banks g.rows).getD 2 eI0, 0⟩ : Pl)) else (g.ixE (⟨(digits_r n g.ranks g.banks g.rows).getD 0 eI0, (digits_r n g.ranks g.banks g.rows).getD 1 eI0, (digits_r n g.ranks g.banks g.rows).getD 2 eI0, 0⟩ : Pl))))))) else 12
theorem iPage (g : Gm) (w : Int) (n : Int)  : Sp P 131 [.ag [vi g.ranks, vi g.spares, vi g.banks, vi g.rows, vi g.cols], vi w, vi n] [] (.tu [vi (iPage_v0 g w n), vi (iPage_v1 g w n)]) [] := by
 generalize hd0 : iPage_v0 g w n = zzhd0
 unfold iPage_v0 at hd0
 generalize hd1 : iPage_v1 g w n = zzhd1
 unfold iPage_v1 at hd1
 rcases bft (interRight_v0 g w) with q1 | q1
 ·skip
  try rw [cpos q1] at hd0
  try rw [cpos q1] at hd1
  have q1' := interRight_t q1
  rcases bft (decide (n < 0)) with q2 | q2
  ·skip
   try rw [cpos q2] at hd0
   try rw [cpos q2] at hd1
   have q2' := of_decide_eq_true q2
   subst hd0 hd1
   exact Sp.of (fn := Tryz.f131) rfl rfl 3 [] (.c [] (interRight g w) (.g q1 (.g q1 (.g q1 (.t q2 (.t q2 (.t q2 (.t q2 (.t q2 (.y .nil)))))))))) (by kernel_rfl) (by kernel_rfl)
  ·skip
   try rw [cneg q2] at hd0
   try rw [cneg q2] at hd1
   have q2' := of_decide_eq_false q2
   rcases bft (decide ((gpages_v0 g) ≤ n)) with q3 | q3
   ·skip
    try rw [cpos q3] at hd0
    try rw [cpos q3] at hd1
    have q3' := of_decide_eq_true q3
    subst hd0 hd1
    exact Sp.of (fn := Tryz.f131) rfl rfl 3 [] (.c [] (interRight g w) (.g q1 (.g q1 (.g q1 (.t q2 (.t q2 (.t q2 (.c [] (gpages g) (.t q2 (.t q2 (.t q3 .nil))))))))))) (by kernel_rfl) (by kernel_rfl)
   ·skip
    try rw [cneg q3] at hd0
    try rw [cneg q3] at hd1
    have q3' := of_decide_eq_false q3
    rcases bft (decide (w = 0)) with q4 | q4
    ·skip
     try rw [cpos q4] at hd0
     try rw [cpos q4] at hd1
     have q4' := of_decide_eq_true q4
     rcases bft (decide (w = 3)) with q5 | q5
     ·skip
      try rw [cpos q5] at hd0
      try rw [cpos q5] at hd1
      have q5' := of_decide_eq_true q5
      subst hd0 hd1
      exact Sp.of (fn := Tryz.f131) rfl rfl 9 [] (.c [] (interRight g w) (.g q1 (.g q1 (.g q1 (.t q2 (.t q2 (.t q2 (.c [] (gpages g) (.t q2 (.t q2 (.t q3 (.t q4 (.c [.sg 3 0 1 3] (digits n g.rows g.banks g.ranks (by have := Gm.rt q1'.1; omega) (by have := Gm.rt q1'.1; omega) (by have := Gm.rt q1'.1; omega)) (.ix (i := 0) (m := (digits_r n g.rows g.banks g.ranks).length) (show 0 < 3 by decide) (.el (e := eI) (gDx (l := (digits_r n g.rows g.banks g.ranks)) (i := 0) eI0 (show 0 < 3 by decide)) (.ix (i := 1) (m := (digits_r n g.rows g.banks g.ranks).length) (show 1 < 3 by decide) (.el (e := eI) (gDx (l := (digits_r n g.rows g.banks g.ranks)) (i := 1) eI0 (show 1 < 3 by decide)) (.ix (i := 2) (m := (digits_r n g.rows g.banks g.ranks).length) (show 2 < 3 by decide) (.el (e := eI) (gDx (l := (digits_r n g.rows g.banks g.ranks)) (i := 2) eI0 (show 2 < 3 by decide)) (.t q5 (.c [] (gindex_sp g (⟨(digits_r n g.rows g.banks g.ranks).getD 2 eI0, bits .xor .i64 ((digits_r n g.rows g.banks g.ranks).getD 1 eI0) (bits .and .i64 ((digits_r n g.rows g.banks g.ranks).getD 0 eI0) (IntKind.i64.wrap (g.banks - 1))), (digits_r n g.rows g.banks g.ranks).getD 0 eI0, 0⟩ : Pl)) .nil))))))))))))))))))))) (by kernel_rfl) (by kernel_rfl)
     ·skip
      try rw [cneg q5] at hd0
      try rw [cneg q5] at hd1
      have q5' := of_decide_eq_false q5
      subst hd0 hd1
      exact Sp.of (fn := Tryz.f131) rfl rfl 9 [] (.c [] (interRight g w) (.g q1 (.g q1 (.g q1 (.t q2 (.t q2 (.t q2 (.c [] (gpages g) (.t q2 (.t q2 (.t q3 (.t q4 (.c [.sg 3 0 1 3] (digits n g.rows g.banks g.ranks (by have := Gm.rt q1'.1; omega) (by have := Gm.rt q1'.1; omega) (by have := Gm.rt q1'.1; omega)) (.ix (i := 0) (m := (digits_r n g.rows g.banks g.ranks).length) (show 0 < 3 by decide) (.el (e := eI) (gDx (l := (digits_r n g.rows g.banks g.ranks)) (i := 0) eI0 (show 0 < 3 by decide)) (.ix (i := 1) (m := (digits_r n g.rows g.banks g.ranks).length) (show 1 < 3 by decide) (.el (e := eI) (gDx (l := (digits_r n g.rows g.banks g.ranks)) (i := 1) eI0 (show 1 < 3 by decide)) (.ix (i := 2) (m := (digits_r n g.rows g.banks g.ranks).length) (show 2 < 3 by decide) (.el (e := eI) (gDx (l := (digits_r n g.rows g.banks g.ranks)) (i := 2) eI0 (show 2 < 3 by decide)) (.t q5 (.c [] (gindex_sp g (⟨(digits_r n g.rows g.banks g.ranks).getD 2 eI0, (digits_r n g.rows g.banks g.ranks).getD 1 eI0, (digits_r n g.rows g.banks g.ranks).getD 0 eI0, 0⟩ : Pl)) .nil))))))))))))))))))))) (by kernel_rfl) (by kernel_rfl)
    ·skip
     try rw [cneg q4] at hd0
     try rw [cneg q4] at hd1
     have q4' := of_decide_eq_false q4
     rcases bft (decide (w = 1)) with q5 | q5
     ·skip
      try rw [cpos q5] at hd0
      try rw [cpos q5] at hd1
      have q5' := of_decide_eq_true q5
      rcases bft (decide (w = 3)) with q6 | q6
      ·skip
       try rw [cpos q6] at hd0
       try rw [cpos q6] at hd1
       have q6' := of_decide_eq_true q6
       subst hd0 hd1
       exact Sp.of (fn := Tryz.f131) rfl rfl 9 [] (.c [] (interRight g w) (.g q1 (.g q1 (.g q1 (.t q2 (.t q2 (.t q2 (.c [] (gpages g) (.t q2 (.t q2 (.t q3 (.t q4 (.t q5 (.c [.sg 3 0 1 3] (digits n g.banks g.rows g.ranks (by have := Gm.rt q1'.1; omega) (by have := Gm.rt q1'.1; omega) (by have := Gm.rt q1'.1; omega)) (.ix (i := 0) (m := (digits_r n g.banks g.rows g.ranks).length) (show 0 < 3 by decide) (.el (e := eI) (gDx (l := (digits_r n g.banks g.rows g.ranks)) (i := 0) eI0 (show 0 < 3 by decide)) (.ix (i := 1) (m := (digits_r n g.banks g.rows g.ranks).length) (show 1 < 3 by decide) (.el (e := eI) (gDx (l := (digits_r n g.banks g.rows g.ranks)) (i := 1) eI0 (show 1 < 3 by decide)) (.ix (i := 2) (m := (digits_r n g.banks g.rows g.ranks).length) (show 2 < 3 by decide) (.el (e := eI) (gDx (l := (digits_r n g.banks g.rows g.ranks)) (i := 2) eI0 (show 2 < 3 by decide)) (.t q6 (.c [] (gindex_sp g (⟨(digits_r n g.banks g.rows g.ranks).getD 2 eI0, bits .xor .i64 ((digits_r n g.banks g.rows g.ranks).getD 0 eI0) (bits .and .i64 ((digits_r n g.banks g.rows g.ranks).getD 1 eI0) (IntKind.i64.wrap (g.banks - 1))), (digits_r n g.banks g.rows g.ranks).getD 1 eI0, 0⟩ : Pl)) .nil)))))))))))))))))))))) (by kernel_rfl) (by kernel_rfl)
      ·skip
       try rw [cneg q6] at hd0
       try rw [cneg q6] at hd1
       have q6' := of_decide_eq_false q6
       subst hd0 hd1
       exact Sp.of (fn := Tryz.f131) rfl rfl 9 [] (.c [] (interRight g w) (.g q1 (.g q1 (.g q1 (.t q2 (.t q2 (.t q2 (.c [] (gpages g) (.t q2 (.t q2 (.t q3 (.t q4 (.t q5 (.c [.sg 3 0 1 3] (digits n g.banks g.rows g.ranks (by have := Gm.rt q1'.1; omega) (by have := Gm.rt q1'.1; omega) (by have := Gm.rt q1'.1; omega)) (.ix (i := 0) (m := (digits_r n g.banks g.rows g.ranks).length) (show 0 < 3 by decide) (.el (e := eI) (gDx (l := (digits_r n g.banks g.rows g.ranks)) (i := 0) eI0 (show 0 < 3 by decide)) (.ix (i := 1) (m := (digits_r n g.banks g.rows g.ranks).length) (show 1 < 3 by decide) (.el (e := eI) (gDx (l := (digits_r n g.banks g.rows g.ranks)) (i := 1) eI0 (show 1 < 3 by decide)) (.ix (i := 2) (m := (digits_r n g.banks g.rows g.ranks).length) (show 2 < 3 by decide) (.el (e := eI) (gDx (l := (digits_r n g.banks g.rows g.ranks)) (i := 2) eI0 (show 2 < 3 by decide)) (.t q6 (.c [] (gindex_sp g (⟨(digits_r n g.banks g.rows g.ranks).getD 2 eI0, (digits_r n g.banks g.rows g.ranks).getD 0 eI0, (digits_r n g.banks g.rows g.ranks).getD 1 eI0, 0⟩ : Pl)) .nil)))))))))))))))))))))) (by kernel_rfl) (by kernel_rfl)
     ·skip
      try rw [cneg q5] at hd0
      try rw [cneg q5] at hd1
      have q5' := of_decide_eq_false q5
      rcases bft (decide (w = 3)) with q6 | q6
      ·skip
       try rw [cpos q6] at hd0
       try rw [cpos q6] at hd1
       have q6' := of_decide_eq_true q6
       subst hd0 hd1
       exact Sp.of (fn := Tryz.f131) rfl rfl 9 [] (.c [] (interRight g w) (.g q1 (.g q1 (.g q1 (.t q2 (.t q2 (.t q2 (.c [] (gpages g) (.t q2 (.t q2 (.t q3 (.t q4 (.t q5 (.c [.sg 3 0 1 3] (digits n g.ranks g.banks g.rows (by have := Gm.rt q1'.1; omega) (by have := Gm.rt q1'.1; omega) (by have := Gm.rt q1'.1; omega)) (.ix (i := 0) (m := (digits_r n g.ranks g.banks g.rows).length) (show 0 < 3 by decide) (.el (e := eI) (gDx (l := (digits_r n g.ranks g.banks g.rows)) (i := 0) eI0 (show 0 < 3 by decide)) (.ix (i := 1) (m := (digits_r n g.ranks g.banks g.rows).length) (show 1 < 3 by decide) (.el (e := eI) (gDx (l := (digits_r n g.ranks g.banks g.rows)) (i := 1) eI0 (show 1 < 3 by decide)) (.ix (i := 2) (m := (digits_r n g.ranks g.banks g.rows).length) (show 2 < 3 by decide) (.el (e := eI) (gDx (l := (digits_r n g.ranks g.banks g.rows)) (i := 2) eI0 (show 2 < 3 by decide)) (.t q6 (.c [] (gindex_sp g (⟨(digits_r n g.ranks g.banks g.rows).getD 0 eI0, bits .xor .i64 ((digits_r n g.ranks g.banks g.rows).getD 1 eI0) (bits .and .i64 ((digits_r n g.ranks g.banks g.rows).getD 2 eI0) (IntKind.i64.wrap (g.banks - 1))), (digits_r n g.ranks g.banks g.rows).getD 2 eI0, 0⟩ : Pl)) .nil)))))))))))))))))))))) (by kernel_rfl) (by kernel_rfl)
      ·skip
       try rw [cneg q6] at hd0
       try rw [cneg q6] at hd1
       have q6' := of_decide_eq_false q6
       subst hd0 hd1
       exact Sp.of (fn := Tryz.f131) rfl rfl 9 [] (.c [] (interRight g w) (.g q1 (.g q1 (.g q1 (.t q2 (.t q2 (.t q2 (.c [] (gpages g) (.t q2 (.t q2 (.t q3 (.t q4 (.t q5 (.c [.sg 3 0 1 3] (digits n g.ranks g.banks g.rows (by have := Gm.rt q1'.1; omega) (by have := Gm.rt q1'.1; omega) (by have := Gm.rt q1'.1; omega)) (.ix (i := 0) (m := (digits_r n g.ranks g.banks g.rows).length) (show 0 < 3 by decide) (.el (e := eI) (gDx (l := (digits_r n g.ranks g.banks g.rows)) (i := 0) eI0 (show 0 < 3 by decide)) (.ix (i := 1) (m := (digits_r n g.ranks g.banks g.rows).length) (show 1 < 3 by decide) (.el (e := eI) (gDx (l := (digits_r n g.ranks g.banks g.rows)) (i := 1) eI0 (show 1 < 3 by decide)) (.ix (i := 2) (m := (digits_r n g.ranks g.banks g.rows).length) (show 2 < 3 by decide) (.el (e := eI) (gDx (l := (digits_r n g.ranks g.banks g.rows)) (i := 2) eI0 (show 2 < 3 by decide)) (.t q6 (.c [] (gindex_sp g (⟨(digits_r n g.ranks g.banks g.rows).getD 0 eI0, (digits_r n g.ranks g.banks g.rows).getD 1 eI0, (digits_r n g.ranks g.banks g.rows).getD 2 eI0, 0⟩ : Pl)) .nil)))))))))))))))))))))) (by kernel_rfl) (by kernel_rfl)
 ·skip
  try rw [cneg q1] at hd0
  try rw [cneg q1] at hd1
  subst hd0 hd1
  exact Sp.of (fn := Tryz.f131) rfl rfl 3 [] (.c [] (interRight g w) (.g q1 (.g q1 (.g q1 (.y (.y (.y (.y (.y (.y .nil)))))))))) (by kernel_rfl) (by kernel_rfl)
end Go.Proofs.YtghfannbcopjmaaGreat
