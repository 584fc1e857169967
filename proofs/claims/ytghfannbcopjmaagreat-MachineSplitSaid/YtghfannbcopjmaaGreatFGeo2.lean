import Derived.Test.YtghfannbcopjmaaGreatFSt
namespace Go.Proofs.YtghfannbcopjmaaGreat
open Go Go.RowKit
set_option linter.unusedVariables false
set_option linter.unusedSimpArgs false
set_option maxRecDepth 100000
theorem powB_t {n m : Int} (h : powB n m = true) : 1 ≤ n ∧ n ≤ m := by
 unfold powB at h
 simp only [Bool.and_eq_true, decide_eq_true_eq] at h
 exact ⟨h.1, h.2.1⟩
theorem wrap_ok {x : Int} (h1 : -9223372036854775808 ≤ x) (h2 : x ≤ 9223372036854775807) : IntKind.i64.wrap x = x := i64ok ⟨h1, h2⟩
theorem Gm.rt {g : Gm} (h : g.right = true) : (1 ≤ g.ranks ∧ g.ranks ≤ 8) ∧ (0 ≤ g.spares ∧ g.ranks + g.spares ≤ 8) ∧ (1 ≤ g.banks ∧ g.banks ≤ 16) ∧ (1 ≤ g.rows ∧ g.rows ≤ 1024) ∧ (1 ≤ g.cols ∧ g.cols ≤ 64) := by
 unfold Gm.right at h
 simp only [Bool.and_eq_true, decide_eq_true_eq] at h
 obtain ⟨h1, h2, h3, h4, h5, h6, _⟩ := h
 have h1 := powB_t h1; have h4 := powB_t h4; have h5 := powB_t h5; have h6 := powB_t h6
 rw [wrap_ok (by omega) (by omega)] at h3
 exact ⟨h1, ⟨h2, by omega⟩, h4, h5, h6⟩
def perRank_v0 (g : Gm) : Int := bif g.right then (IntKind.i64.wrap ((IntKind.i64.wrap (g.banks * g.rows)) * g.cols)) else 0
theorem perRank (g : Gm)  : Sp P 77 [.ag [vi g.ranks, vi g.spares, vi g.banks, vi g.rows, vi g.cols]] [] (vi (perRank_v0 g)) [] := by
 generalize hd0 : perRank_v0 g = zzhd0
 unfold perRank_v0 at hd0
 rcases bft (g.right) with q1 | q1
 ·skip
  try rw [cpos q1] at hd0
  subst hd0
  exact Sp.of (fn := Tryz.f77) rfl rfl 3 [] (.c [] (gright_sp g) (.g q1 .nil)) (by kernel_rfl) (by kernel_rfl)
 ·skip
  try rw [cneg q1] at hd0
  subst hd0
  exact Sp.of (fn := Tryz.f77) rfl rfl 3 [] (.c [] (gright_sp g) (.g q1 .nil)) (by kernel_rfl) (by kernel_rfl)
def gpages_v0 (g : Gm) : Int := bif g.right then (IntKind.i64.wrap ((IntKind.i64.wrap (g.ranks * g.banks)) * g.rows)) else 0
theorem gpages (g : Gm)  : Sp P 99 [.ag [vi g.ranks, vi g.spares, vi g.banks, vi g.rows, vi g.cols]] [] (vi (gpages_v0 g)) [] := by
 generalize hd0 : gpages_v0 g = zzhd0
 unfold gpages_v0 at hd0
 rcases bft (g.right) with q1 | q1
 ·skip
  try rw [cpos q1] at hd0
  subst hd0
  exact Sp.of (fn := Tryz.f99) rfl rfl 3 [] (.c [] (gright_sp g) (.g q1 .nil)) (by kernel_rfl) (by kernel_rfl)
 ·skip
  try rw [cneg q1] at hd0
  subst hd0
  exact Sp.of (fn := Tryz.f99) rfl rfl 3 [] (.c [] (gright_sp g) (.g q1 .nil)) (by kernel_rfl) (by kernel_rfl)
def interRight_v0 (g : Gm) (w : Int) : Bool := bif g.right then (bif decide (0 ≤ w) then (decide (w < 4)) else false) else false
theorem interRight (g : Gm) (w : Int)  : Sp P 142 [.ag [vi g.ranks, vi g.spares, vi g.banks, vi g.rows, vi g.cols], vi w] [] (vt (interRight_v0 g w)) [] := by
 generalize hd0 : interRight_v0 g w = zzhd0
 unfold interRight_v0 at hd0
 rcases bft (g.right) with q1 | q1
 ·skip
  try rw [cpos q1] at hd0
  rcases bft (decide (0 ≤ w)) with q2 | q2
  ·skip
   try rw [cpos q2] at hd0
   have q2' := of_decide_eq_true q2
   subst hd0
   exact Sp.of (fn := Tryz.f142) rfl rfl 3 [] (.c [] (gright_sp g) (.t q1 (.t q1 (.t q1 (.t q2 (.t q2 (.t q2 .nil))))))) (by kernel_rfl) (by kernel_rfl)
  ·skip
   try rw [cneg q2] at hd0
   have q2' := of_decide_eq_false q2
   subst hd0
   exact Sp.of (fn := Tryz.f142) rfl rfl 3 [] (.c [] (gright_sp g) (.t q1 (.t q1 (.t q1 (.t q2 (.t q2 (.t q2 .nil))))))) (by kernel_rfl) (by kernel_rfl)
 ·skip
  try rw [cneg q1] at hd0
  subst hd0
  exact Sp.of (fn := Tryz.f142) rfl rfl 3 [] (.c [] (gright_sp g) (.t q1 (.t q1 (.t q1 (.n (.n (.n .nil))))))) (by kernel_rfl) (by kernel_rfl)
def cbel_v0 (i : Int) (n : Int) : Bool := bif decide (0 ≤ i) then (decide (i < n)) else false
theorem cbel (i : Int) (n : Int)  : Sp P 209 [vi i, vi n] [] (vt (cbel_v0 i n)) [] := by
 generalize hd0 : cbel_v0 i n = zzhd0
 unfold cbel_v0 at hd0
 rcases bft (decide (0 ≤ i)) with q1 | q1
 ·skip
  try rw [cpos q1] at hd0
  have q1' := of_decide_eq_true q1
  subst hd0
  exact Sp.of (fn := Tryz.f209) rfl rfl 3 [] (.t q1 (.t q1 (.t q1 (.t q1 .nil)))) (by kernel_rfl) (by kernel_rfl)
 ·skip
  try rw [cneg q1] at hd0
  have q1' := of_decide_eq_false q1
  subst hd0
  exact Sp.of (fn := Tryz.f209) rfl rfl 3 [] (.t q1 (.t q1 (.t q1 (.t q1 .nil)))) (by kernel_rfl) (by kernel_rfl)
def rbel_v0 (i : Int) (n : Int) : Bool := bif decide (0 ≤ i) then (decide (i < n)) else false
theorem rbel (i : Int) (n : Int)  : Sp P 132 [vi i, vi n] [] (vt (rbel_v0 i n)) [] := by
 generalize hd0 : rbel_v0 i n = zzhd0
 unfold rbel_v0 at hd0
 rcases bft (decide (0 ≤ i)) with q1 | q1
 ·skip
  try rw [cpos q1] at hd0
  have q1' := of_decide_eq_true q1
  subst hd0
  exact Sp.of (fn := Tryz.f132) rfl rfl 3 [] (.t q1 (.t q1 (.t q1 (.t q1 .nil)))) (by kernel_rfl) (by kernel_rfl)
 ·skip
  try rw [cneg q1] at hd0
  have q1' := of_decide_eq_false q1
  subst hd0
  exact Sp.of (fn := Tryz.f132) rfl rfl 3 [] (.t q1 (.t q1 (.t q1 (.t q1 .nil)))) (by kernel_rfl) (by kernel_rfl)
def lyRight_v0 (l : Ly) : Bool := bif (interRight_v0 l.g l.way) then (bif decide (0 ≤ l.res) then (bif decide (l.res ≤ 64) then (decide (l.res < (gpages_v0 l.g))) else false) else false) else false
theorem lyRight (l : Ly)  : Sp P 98 [.ag [vi l.g.ranks, vi l.g.spares, vi l.g.banks, vi l.g.rows, vi l.g.cols, vi l.way, vi l.res]] [] (vt (lyRight_v0 l)) [] := by
 generalize hd0 : lyRight_v0 l = zzhd0
 unfold lyRight_v0 at hd0
 rcases bft (interRight_v0 l.g l.way) with q1 | q1
 ·skip
  try rw [cpos q1] at hd0
  rcases bft (decide (0 ≤ l.res)) with q2 | q2
  ·skip
   try rw [cpos q2] at hd0
   have q2' := of_decide_eq_true q2
   rcases bft (decide (l.res ≤ 64)) with q3 | q3
   ·skip
    try rw [cpos q3] at hd0
    have q3' := of_decide_eq_true q3
    subst hd0
    exact Sp.of (fn := Tryz.f98) rfl rfl 5 [] (.c [] (interRight l.g l.way) (.t q1 (.t q1 (.t q1 (.t q1 (.t q2 (.t q2 (.t q2 (.t q2 (.t q3 (.t q3 (.t q3 (.t q3 (.t q3 (.c [] (gpages l.g) (.t q3 (.t q3 .nil))))))))))))))))) (by kernel_rfl) (by kernel_rfl)
   ·skip
    try rw [cneg q3] at hd0
    have q3' := of_decide_eq_false q3
    subst hd0
    exact Sp.of (fn := Tryz.f98) rfl rfl 4 [] (.c [] (interRight l.g l.way) (.t q1 (.t q1 (.t q1 (.t q1 (.t q2 (.t q2 (.t q2 (.t q2 (.t q3 (.t q3 (.t q3 (.t q3 (.t q3 (.t q3 (.t q3 .nil)))))))))))))))) (by kernel_rfl) (by kernel_rfl)
  ·skip
   try rw [cneg q2] at hd0
   have q2' := of_decide_eq_false q2
   subst hd0
   exact Sp.of (fn := Tryz.f98) rfl rfl 4 [] (.c [] (interRight l.g l.way) (.t q1 (.t q1 (.t q1 (.t q1 (.t q2 (.t q2 (.t q2 (.t q2 (.n (.n (.n (.n (.n (.n (.n .nil)))))))))))))))) (by kernel_rfl) (by kernel_rfl)
 ·skip
  try rw [cneg q1] at hd0
  subst hd0
  exact Sp.of (fn := Tryz.f98) rfl rfl 4 [] (.c [] (interRight l.g l.way) (.t q1 (.t q1 (.t q1 (.t q1 (.n (.n (.n (.n (.n (.n (.n (.n (.n (.n (.n .nil)))))))))))))))) (by kernel_rfl) (by kernel_rfl)
def lySeen_v0 (l : Ly) : Int := bif (lyRight_v0 l) then (IntKind.i64.wrap ((gpages_v0 l.g) - l.res)) else 0
theorem lySeen (l : Ly)  : Sp P 58 [.ag [vi l.g.ranks, vi l.g.spares, vi l.g.banks, vi l.g.rows, vi l.g.cols, vi l.way, vi l.res]] [] (vi (lySeen_v0 l)) [] := by
 generalize hd0 : lySeen_v0 l = zzhd0
 unfold lySeen_v0 at hd0
 rcases bft (lyRight_v0 l) with q1 | q1
 ·skip
  try rw [cpos q1] at hd0
  subst hd0
  exact Sp.of (fn := Tryz.f58) rfl rfl 4 [] (.c [] (lyRight l) (.g q1 (.c [] (gpages l.g) .nil))) (by kernel_rfl) (by kernel_rfl)
 ·skip
  try rw [cneg q1] at hd0
  subst hd0
  exact Sp.of (fn := Tryz.f58) rfl rfl 3 [] (.c [] (lyRight l) (.g q1 .nil)) (by kernel_rfl) (by kernel_rfl)
theorem lyLines (l : Ly)  : Sp P 15 [.ag [vi l.g.ranks, vi l.g.spares, vi l.g.banks, vi l.g.rows, vi l.g.cols, vi l.way, vi l.res]] [] (vi (IntKind.i64.wrap ((lySeen_v0 l) * l.g.cols))) [] :=
 Sp.of (fn := Tryz.f15) rfl rfl 4 [] (.c [] (lySeen l) .nil) (by kernel_rfl) (by kernel_rfl)
def jbCount_v0 (j : Jb) (l : Ly) : Int := bif decide (j.kind = 1) then l.g.cols else (bif decide (j.kind = 2) then (perRank_v0 l.g) else 0)
theorem jbCount (j : Jb) (l : Ly)  : Sp P 210 [.ag [vi j.kind, vi j.src, vi j.goal, vi j.next], .ag [vi l.g.ranks, vi l.g.spares, vi l.g.banks, vi l.g.rows, vi l.g.cols, vi l.way, vi l.res]] [] (vi (jbCount_v0 j l)) [] := by
 generalize hd0 : jbCount_v0 j l = zzhd0
 unfold jbCount_v0 at hd0
 rcases bft (decide (j.kind = 1)) with q1 | q1
 ·skip
  try rw [cpos q1] at hd0
  have q1' := of_decide_eq_true q1
  subst hd0
  exact Sp.of (fn := Tryz.f210) rfl rfl 4 [] (.t q1 .nil) (by kernel_rfl) (by kernel_rfl)
 ·skip
  try rw [cneg q1] at hd0
  have q1' := of_decide_eq_false q1
  rcases bft (decide (j.kind = 2)) with q2 | q2
  ·skip
   try rw [cpos q2] at hd0
   have q2' := of_decide_eq_true q2
   subst hd0
   exact Sp.of (fn := Tryz.f210) rfl rfl 4 [] (.t q1 (.t q2 (.c [] (perRank l.g) .nil))) (by kernel_rfl) (by kernel_rfl)
  ·skip
   try rw [cneg q2] at hd0
   have q2' := of_decide_eq_false q2
   subst hd0
   exact Sp.of (fn := Tryz.f210) rfl rfl 4 [] (.t q1 (.t q2 .nil)) (by kernel_rfl) (by kernel_rfl)
def jbDone_v0 (j : Jb) (l : Ly) : Bool := bif decide (j.kind = 0) then false else (decide (j.next = (jbCount_v0 j l)))
theorem jbDone (j : Jb) (l : Ly)  : Sp P 234 [.ag [vi j.kind, vi j.src, vi j.goal, vi j.next], .ag [vi l.g.ranks, vi l.g.spares, vi l.g.banks, vi l.g.rows, vi l.g.cols, vi l.way, vi l.res]] [] (vt (jbDone_v0 j l)) [] := by
 generalize hd0 : jbDone_v0 j l = zzhd0
 unfold jbDone_v0 at hd0
 rcases bft (decide (j.kind = 0)) with q1 | q1
 ·skip
  try rw [cpos q1] at hd0
  have q1' := of_decide_eq_true q1
  subst hd0
  exact Sp.of (fn := Tryz.f234) rfl rfl 4 [] (.g q1 (.g q1 (.g q1 (.g q1 (.g q1 (.g q1 (.g q1 .nil))))))) (by kernel_rfl) (by kernel_rfl)
 ·skip
  try rw [cneg q1] at hd0
  have q1' := of_decide_eq_false q1
  subst hd0
  exact Sp.of (fn := Tryz.f234) rfl rfl 5 [] (.g q1 (.g q1 (.g q1 (.g q1 (.g q1 (.c [] (jbCount j l) (.g q1 (.g q1 .nil)))))))) (by kernel_rfl) (by kernel_rfl)
def gorder_v0 (g : Gm) (i : Int) : Int := bif decide (g.atE i = 0) then (IntKind.i64.wrap ((IntKind.i64.wrap ((IntKind.i64.wrap ((IntKind.i64.wrap ((g.at i).bank * g.rows)) + (g.at i).row)) * g.cols)) + (g.at i).col)) else 0
theorem gorder (g : Gm) (i : Int)  : Sp P 246 [.ag [vi g.ranks, vi g.spares, vi g.banks, vi g.rows, vi g.cols], vi i] [] (vi (gorder_v0 g i)) [] := by
 generalize hd0 : gorder_v0 g i = zzhd0
 unfold gorder_v0 at hd0
 rcases bft (decide (g.atE i = 0)) with q1 | q1
 ·skip
  try rw [cpos q1] at hd0
  have q1' := of_decide_eq_true q1
  subst hd0
  exact Sp.of (fn := Tryz.f246) rfl rfl 4 [] (.c [] (gat_sp g i) (.g q1 .nil)) (by kernel_rfl) (by kernel_rfl)
 ·skip
  try rw [cneg q1] at hd0
  have q1' := of_decide_eq_false q1
  subst hd0
  exact Sp.of (fn := Tryz.f246) rfl rfl 4 [] (.c [] (gat_sp g i) (.g q1 .nil)) (by kernel_rfl) (by kernel_rfl)
end Go.Proofs.YtghfannbcopjmaaGreat
