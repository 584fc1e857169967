import Derived.Test.YtghfannbcopjmaaGreatFGeom
namespace Go.Proofs.YtghfannbcopjmaaGreat
open Go Go.RowKit
set_option linter.unusedVariables false
set_option linter.unusedSimpArgs false
set_option maxRecDepth 100000
structure Flt where
 kind : Int
 rank : Int
 bank : Int
 row : Int
 col : Int
 chip : Int
 bit : Int
 value : Int
def fbel_v0 (i : Int) (n : Int) : Bool := bif decide (0 ≤ i) then (decide (i < n)) else false
theorem fbel (i : Int) (n : Int)  : Sp P 112 [vi i, vi n] [] (vt (fbel_v0 i n)) [] := by
 generalize hd0 : fbel_v0 i n = zzhd0
 unfold fbel_v0 at hd0
 rcases bft (decide (0 ≤ i)) with q1 | q1
 ·skip
  try rw [cpos q1] at hd0
  have q1' := of_decide_eq_true q1
  subst hd0
  exact Sp.of (fn := Tryz.f112) rfl rfl 3 [] (.t q1 (.t q1 (.t q1 (.t q1 .nil)))) (by kernel_rfl) (by kernel_rfl)
 ·skip
  try rw [cneg q1] at hd0
  have q1' := of_decide_eq_false q1
  subst hd0
  exact Sp.of (fn := Tryz.f112) rfl rfl 3 [] (.t q1 (.t q1 (.t q1 (.t q1 .nil)))) (by kernel_rfl) (by kernel_rfl)
def bare_v0 (f : Flt) : Int := bif (decide (f.kind = 3)) then (bif (decide (f.kind = 1)) then f.rank else (bif (decide (f.kind = 2)) then f.rank else (bif (bif (decide (f.kind = 3)) then (decide (f.kind = 3)) else (bif (decide (f.kind = 4)) then (decide (f.kind = 4)) else (decide (f.kind = 5)))) then f.rank else (bif (decide (f.kind = 7)) then 0 else f.rank)))) else (bif (decide (f.kind = 4)) then (bif (decide (f.kind = 1)) then f.rank else (bif (decide (f.kind = 2)) then f.rank else (bif (bif (decide (f.kind = 3)) then (decide (f.kind = 3)) else (bif (decide (f.kind = 4)) then (decide (f.kind = 4)) else (decide (f.kind = 5)))) then f.rank else (bif (decide (f.kind = 7)) then 0 else f.rank)))) else (bif (decide (f.kind = 5)) then f.rank else (bif (decide (f.kind = 1)) then f.rank else (bif (decide (f.kind = 2)) then f.rank else (bif (bif (decide (f.kind = 3)) then (decide (f.kind = 3)) else (bif (decide (f.kind = 4)) then (decide (f.kind = 4)) else (decide (f.kind = 5)))) then f.rank else (bif (decide (f.kind = 7)) then 0 else f.rank))))))
def bare_v1 (f : Flt) : Int := bif (decide (f.kind = 3)) then (bif (decide (f.kind = 1)) then f.bank else (bif (decide (f.kind = 2)) then f.bank else (bif (bif (decide (f.kind = 3)) then (decide (f.kind = 3)) else (bif (decide (f.kind = 4)) then (decide (f.kind = 4)) else (decide (f.kind = 5)))) then f.bank else (bif (decide (f.kind = 7)) then 0 else f.bank)))) else (bif (decide (f.kind = 4)) then (bif (decide (f.kind = 1)) then f.bank else (bif (decide (f.kind = 2)) then f.bank else (bif (bif (decide (f.kind = 3)) then (decide (f.kind = 3)) else (bif (decide (f.kind = 4)) then (decide (f.kind = 4)) else (decide (f.kind = 5)))) then f.bank else (bif (decide (f.kind = 7)) then 0 else f.bank)))) else (bif (decide (f.kind = 5)) then 0 else (bif (decide (f.kind = 1)) then f.bank else (bif (decide (f.kind = 2)) then f.bank else (bif (bif (decide (f.kind = 3)) then (decide (f.kind = 3)) else (bif (decide (f.kind = 4)) then (decide (f.kind = 4)) else (decide (f.kind = 5)))) then f.bank else (bif (decide (f.kind = 7)) then 0 else f.bank))))))
def bare_v2 (f : Flt) : Int := bif (decide (f.kind = 3)) then (bif (decide (f.kind = 1)) then f.row else (bif (decide (f.kind = 2)) then f.row else (bif (bif (decide (f.kind = 3)) then (decide (f.kind = 3)) else (bif (decide (f.kind = 4)) then (decide (f.kind = 4)) else (decide (f.kind = 5)))) then f.row else (bif (decide (f.kind = 7)) then 0 else f.row)))) else (bif (decide (f.kind = 4)) then 0 else (bif (decide (f.kind = 5)) then 0 else (bif (decide (f.kind = 1)) then f.row else (bif (decide (f.kind = 2)) then f.row else (bif (bif (decide (f.kind = 3)) then (decide (f.kind = 3)) else (bif (decide (f.kind = 4)) then (decide (f.kind = 4)) else (decide (f.kind = 5)))) then f.row else (bif (decide (f.kind = 7)) then 0 else f.row))))))
def bare_v3 (f : Flt) : Int := bif (decide (f.kind = 3)) then 0 else (bif (decide (f.kind = 4)) then (bif (decide (f.kind = 1)) then f.col else (bif (decide (f.kind = 2)) then f.col else (bif (bif (decide (f.kind = 3)) then (decide (f.kind = 3)) else (bif (decide (f.kind = 4)) then (decide (f.kind = 4)) else (decide (f.kind = 5)))) then f.col else (bif (decide (f.kind = 7)) then 0 else f.col)))) else (bif (decide (f.kind = 5)) then 0 else (bif (decide (f.kind = 1)) then f.col else (bif (decide (f.kind = 2)) then f.col else (bif (bif (decide (f.kind = 3)) then (decide (f.kind = 3)) else (bif (decide (f.kind = 4)) then (decide (f.kind = 4)) else (decide (f.kind = 5)))) then f.col else (bif (decide (f.kind = 7)) then 0 else f.col))))))
def bare_v4 (f : Flt) : Int := bif (decide (f.kind = 1)) then 0 else (bif (decide (f.kind = 2)) then 0 else (bif (bif (decide (f.kind = 3)) then (decide (f.kind = 3)) else (bif (decide (f.kind = 4)) then (decide (f.kind = 4)) else (decide (f.kind = 5)))) then f.chip else 0))
def bare_v5 (f : Flt) : Int := bif (decide (f.kind = 1)) then f.bit else (bif (decide (f.kind = 2)) then f.bit else 0)
def bare_v6 (f : Flt) : Int := bif (decide (f.kind = 1)) then 0 else (bif (decide (f.kind = 2)) then f.value else (bif (bif (decide (f.kind = 3)) then (decide (f.kind = 3)) else (bif (decide (f.kind = 4)) then (decide (f.kind = 4)) else (decide (f.kind = 5)))) then f.value else 0))
theorem bare (f : Flt)  : Sp P 237 [.ag [vi f.kind, vi f.rank, vi f.bank, vi f.row, vi f.col, vi f.chip, vi f.bit, vi f.value]] [] (.ag [vi f.kind, vi (bare_v0 f), vi (bare_v1 f), vi (bare_v2 f), vi (bare_v3 f), vi (bare_v4 f), vi (bare_v5 f), vi (bare_v6 f)]) [] :=
 Sp.of (fn := Tryz.f237) rfl rfl 7 [] (.cs 0 (decide (f.kind = 1)) 4 [] [] (fun z => []) (fun z => [(3, .blk [vi f.kind, vi (bif z then f.rank else (bif (decide (f.kind = 2)) then f.rank else (bif (bif (decide (f.kind = 3)) then (decide (f.kind = 3)) else (bif (decide (f.kind = 4)) then (decide (f.kind = 4)) else (decide (f.kind = 5)))) then f.rank else (bif (decide (f.kind = 7)) then 0 else f.rank)))), vi (bif z then f.bank else (bif (decide (f.kind = 2)) then f.bank else (bif (bif (decide (f.kind = 3)) then (decide (f.kind = 3)) else (bif (decide (f.kind = 4)) then (decide (f.kind = 4)) else (decide (f.kind = 5)))) then f.bank else (bif (decide (f.kind = 7)) then 0 else f.bank)))), vi (bif z then f.row else (bif (decide (f.kind = 2)) then f.row else (bif (bif (decide (f.kind = 3)) then (decide (f.kind = 3)) else (bif (decide (f.kind = 4)) then (decide (f.kind = 4)) else (decide (f.kind = 5)))) then f.row else (bif (decide (f.kind = 7)) then 0 else f.row)))), vi (bif z then f.col else (bif (decide (f.kind = 2)) then f.col else (bif (bif (decide (f.kind = 3)) then (decide (f.kind = 3)) else (bif (decide (f.kind = 4)) then (decide (f.kind = 4)) else (decide (f.kind = 5)))) then f.col else (bif (decide (f.kind = 7)) then 0 else f.col)))), vi (bif z then 0 else (bif (decide (f.kind = 2)) then 0 else (bif (bif (decide (f.kind = 3)) then (decide (f.kind = 3)) else (bif (decide (f.kind = 4)) then (decide (f.kind = 4)) else (decide (f.kind = 5)))) then f.chip else 0))), vi (bif z then f.bit else (bif (decide (f.kind = 2)) then f.bit else 0)), vi (bif z then 0 else (bif (decide (f.kind = 2)) then f.value else (bif (bif (decide (f.kind = 3)) then (decide (f.kind = 3)) else (bif (decide (f.kind = 4)) then (decide (f.kind = 4)) else (decide (f.kind = 5)))) then f.value else 0)))] 42)]) (fun hq1 => (.t hq1 .nil)) (fun hq1 => (.t hq1 (.cs 0 (decide (f.kind = 2)) 4 [] [] (fun z => []) (fun z => [(3, .blk [vi f.kind, vi (bif z then f.rank else (bif (bif (decide (f.kind = 3)) then (decide (f.kind = 3)) else (bif (decide (f.kind = 4)) then (decide (f.kind = 4)) else (decide (f.kind = 5)))) then f.rank else (bif (decide (f.kind = 7)) then 0 else f.rank))), vi (bif z then f.bank else (bif (bif (decide (f.kind = 3)) then (decide (f.kind = 3)) else (bif (decide (f.kind = 4)) then (decide (f.kind = 4)) else (decide (f.kind = 5)))) then f.bank else (bif (decide (f.kind = 7)) then 0 else f.bank))), vi (bif z then f.row else (bif (bif (decide (f.kind = 3)) then (decide (f.kind = 3)) else (bif (decide (f.kind = 4)) then (decide (f.kind = 4)) else (decide (f.kind = 5)))) then f.row else (bif (decide (f.kind = 7)) then 0 else f.row))), vi (bif z then f.col else (bif (bif (decide (f.kind = 3)) then (decide (f.kind = 3)) else (bif (decide (f.kind = 4)) then (decide (f.kind = 4)) else (decide (f.kind = 5)))) then f.col else (bif (decide (f.kind = 7)) then 0 else f.col))), vi (bif z then 0 else (bif (bif (decide (f.kind = 3)) then (decide (f.kind = 3)) else (bif (decide (f.kind = 4)) then (decide (f.kind = 4)) else (decide (f.kind = 5)))) then f.chip else 0)), vi (bif z then f.bit else 0), vi (bif z then f.value else (bif (bif (decide (f.kind = 3)) then (decide (f.kind = 3)) else (bif (decide (f.kind = 4)) then (decide (f.kind = 4)) else (decide (f.kind = 5)))) then f.value else 0))] 42)]) (fun hq2 => (.t hq2 .nil)) (fun hq2 => (.t hq2 (.cs 0 (decide (f.kind = 3)) 4 [] [] (fun z => [(24, vt (bif z then (decide (f.kind = 3)) else (bif (decide (f.kind = 4)) then (decide (f.kind = 4)) else (decide (f.kind = 5)))))]) (fun z => []) (fun hq3 => (.t hq3 .nil)) (fun hq3 => (.t hq3 (.cs 0 (decide (f.kind = 4)) 4 [] [] (fun z => [(24, vt (bif z then (decide (f.kind = 4)) else (decide (f.kind = 5))))]) (fun z => []) (fun hq4 => (.t hq4 .nil)) (fun hq4 => (.t hq4 .nil)) .nil))) (.cs 0 (bif (decide (f.kind = 3)) then (decide (f.kind = 3)) else (bif (decide (f.kind = 4)) then (decide (f.kind = 4)) else (decide (f.kind = 5)))) 4 [] [] (fun z => []) (fun z => [(3, .blk [vi f.kind, vi (bif z then f.rank else (bif (decide (f.kind = 7)) then 0 else f.rank)), vi (bif z then f.bank else (bif (decide (f.kind = 7)) then 0 else f.bank)), vi (bif z then f.row else (bif (decide (f.kind = 7)) then 0 else f.row)), vi (bif z then f.col else (bif (decide (f.kind = 7)) then 0 else f.col)), vi (bif z then f.chip else 0), vn 0, vi (bif z then f.value else 0)] 42)]) (fun hq3 => (.t hq3 .nil)) (fun hq3 => (.t hq3 (.cs 0 (decide (f.kind = 7)) 4 [] [] (fun z => []) (fun z => [(3, .blk [vi f.kind, vi (bif z then 0 else f.rank), vi (bif z then 0 else f.bank), vi (bif z then 0 else f.row), vi (bif z then 0 else f.col), vn 0, vn 0, vn 0] 42)]) (fun hq4 => (.t hq4 .nil)) (fun hq4 => (.t hq4 .nil)) .nil))) .nil)))) .nil))) (.cs 0 (decide (f.kind = 3)) 4 [] [] (fun z => []) (fun z => [(3, .blk [vi f.kind, vi (bif z then (bif (decide (f.kind = 1)) then f.rank else (bif (decide (f.kind = 2)) then f.rank else (bif (bif (decide (f.kind = 3)) then (decide (f.kind = 3)) else (bif (decide (f.kind = 4)) then (decide (f.kind = 4)) else (decide (f.kind = 5)))) then f.rank else (bif (decide (f.kind = 7)) then 0 else f.rank)))) else (bif (decide (f.kind = 4)) then (bif (decide (f.kind = 1)) then f.rank else (bif (decide (f.kind = 2)) then f.rank else (bif (bif (decide (f.kind = 3)) then (decide (f.kind = 3)) else (bif (decide (f.kind = 4)) then (decide (f.kind = 4)) else (decide (f.kind = 5)))) then f.rank else (bif (decide (f.kind = 7)) then 0 else f.rank)))) else (bif (decide (f.kind = 5)) then f.rank else (bif (decide (f.kind = 1)) then f.rank else (bif (decide (f.kind = 2)) then f.rank else (bif (bif (decide (f.kind = 3)) then (decide (f.kind = 3)) else (bif (decide (f.kind = 4)) then (decide (f.kind = 4)) else (decide (f.kind = 5)))) then f.rank else (bif (decide (f.kind = 7)) then 0 else f.rank))))))), vi (bif z then (bif (decide (f.kind = 1)) then f.bank else (bif (decide (f.kind = 2)) then f.bank else (bif (bif (decide (f.kind = 3)) then (decide (f.kind = 3)) else (bif (decide (f.kind = 4)) then (decide (f.kind = 4)) else (decide (f.kind = 5)))) then f.bank else (bif (decide (f.kind = 7)) then 0 else f.bank)))) else (bif (decide (f.kind = 4)) then (bif (decide (f.kind = 1)) then f.bank else (bif (decide (f.kind = 2)) then f.bank else (bif (bif (decide (f.kind = 3)) then (decide (f.kind = 3)) else (bif (decide (f.kind = 4)) then (decide (f.kind = 4)) else (decide (f.kind = 5)))) then f.bank else (bif (decide (f.kind = 7)) then 0 else f.bank)))) else (bif (decide (f.kind = 5)) then 0 else (bif (decide (f.kind = 1)) then f.bank else (bif (decide (f.kind = 2)) then f.bank else (bif (bif (decide (f.kind = 3)) then (decide (f.kind = 3)) else (bif (decide (f.kind = 4)) then (decide (f.kind = 4)) else (decide (f.kind = 5)))) then f.bank else (bif (decide (f.kind = 7)) then 0 else f.bank))))))), vi (bif z then (bif (decide (f.kind = 1)) then f.row else (bif (decide (f.kind = 2)) then f.row else (bif (bif (decide (f.kind = 3)) then (decide (f.kind = 3)) else (bif (decide (f.kind = 4)) then (decide (f.kind = 4)) else (decide (f.kind = 5)))) then f.row else (bif (decide (f.kind = 7)) then 0 else f.row)))) else (bif (decide (f.kind = 4)) then 0 else (bif (decide (f.kind = 5)) then 0 else (bif (decide (f.kind = 1)) then f.row else (bif (decide (f.kind = 2)) then f.row else (bif (bif (decide (f.kind = 3)) then (decide (f.kind = 3)) else (bif (decide (f.kind = 4)) then (decide (f.kind = 4)) else (decide (f.kind = 5)))) then f.row else (bif (decide (f.kind = 7)) then 0 else f.row))))))), vi (bif z then 0 else (bif (decide (f.kind = 4)) then (bif (decide (f.kind = 1)) then f.col else (bif (decide (f.kind = 2)) then f.col else (bif (bif (decide (f.kind = 3)) then (decide (f.kind = 3)) else (bif (decide (f.kind = 4)) then (decide (f.kind = 4)) else (decide (f.kind = 5)))) then f.col else (bif (decide (f.kind = 7)) then 0 else f.col)))) else (bif (decide (f.kind = 5)) then 0 else (bif (decide (f.kind = 1)) then f.col else (bif (decide (f.kind = 2)) then f.col else (bif (bif (decide (f.kind = 3)) then (decide (f.kind = 3)) else (bif (decide (f.kind = 4)) then (decide (f.kind = 4)) else (decide (f.kind = 5)))) then f.col else (bif (decide (f.kind = 7)) then 0 else f.col))))))), vi (bif (decide (f.kind = 1)) then 0 else (bif (decide (f.kind = 2)) then 0 else (bif (bif (decide (f.kind = 3)) then (decide (f.kind = 3)) else (bif (decide (f.kind = 4)) then (decide (f.kind = 4)) else (decide (f.kind = 5)))) then f.chip else 0))), vi (bif (decide (f.kind = 1)) then f.bit else (bif (decide (f.kind = 2)) then f.bit else 0)), vi (bif (decide (f.kind = 1)) then 0 else (bif (decide (f.kind = 2)) then f.value else (bif (bif (decide (f.kind = 3)) then (decide (f.kind = 3)) else (bif (decide (f.kind = 4)) then (decide (f.kind = 4)) else (decide (f.kind = 5)))) then f.value else 0)))] 42)]) (fun hq1 => (.t hq1 .nil)) (fun hq1 => (.t hq1 (.cs 0 (decide (f.kind = 4)) 4 [] [] (fun z => []) (fun z => [(3, .blk [vi f.kind, vi (bif z then (bif (decide (f.kind = 1)) then f.rank else (bif (decide (f.kind = 2)) then f.rank else (bif (bif (decide (f.kind = 3)) then (decide (f.kind = 3)) else (bif (decide (f.kind = 4)) then (decide (f.kind = 4)) else (decide (f.kind = 5)))) then f.rank else (bif (decide (f.kind = 7)) then 0 else f.rank)))) else (bif (decide (f.kind = 5)) then f.rank else (bif (decide (f.kind = 1)) then f.rank else (bif (decide (f.kind = 2)) then f.rank else (bif (bif (decide (f.kind = 3)) then (decide (f.kind = 3)) else (bif (decide (f.kind = 4)) then (decide (f.kind = 4)) else (decide (f.kind = 5)))) then f.rank else (bif (decide (f.kind = 7)) then 0 else f.rank)))))), vi (bif z then (bif (decide (f.kind = 1)) then f.bank else (bif (decide (f.kind = 2)) then f.bank else (bif (bif (decide (f.kind = 3)) then (decide (f.kind = 3)) else (bif (decide (f.kind = 4)) then (decide (f.kind = 4)) else (decide (f.kind = 5)))) then f.bank else (bif (decide (f.kind = 7)) then 0 else f.bank)))) else (bif (decide (f.kind = 5)) then 0 else (bif (decide (f.kind = 1)) then f.bank else (bif (decide (f.kind = 2)) then f.bank else (bif (bif (decide (f.kind = 3)) then (decide (f.kind = 3)) else (bif (decide (f.kind = 4)) then (decide (f.kind = 4)) else (decide (f.kind = 5)))) then f.bank else (bif (decide (f.kind = 7)) then 0 else f.bank)))))), vi (bif z then 0 else (bif (decide (f.kind = 5)) then 0 else (bif (decide (f.kind = 1)) then f.row else (bif (decide (f.kind = 2)) then f.row else (bif (bif (decide (f.kind = 3)) then (decide (f.kind = 3)) else (bif (decide (f.kind = 4)) then (decide (f.kind = 4)) else (decide (f.kind = 5)))) then f.row else (bif (decide (f.kind = 7)) then 0 else f.row)))))), vi (bif z then (bif (decide (f.kind = 1)) then f.col else (bif (decide (f.kind = 2)) then f.col else (bif (bif (decide (f.kind = 3)) then (decide (f.kind = 3)) else (bif (decide (f.kind = 4)) then (decide (f.kind = 4)) else (decide (f.kind = 5)))) then f.col else (bif (decide (f.kind = 7)) then 0 else f.col)))) else (bif (decide (f.kind = 5)) then 0 else (bif (decide (f.kind = 1)) then f.col else (bif (decide (f.kind = 2)) then f.col else (bif (bif (decide (f.kind = 3)) then (decide (f.kind = 3)) else (bif (decide (f.kind = 4)) then (decide (f.kind = 4)) else (decide (f.kind = 5)))) then f.col else (bif (decide (f.kind = 7)) then 0 else f.col)))))), vi (bif (decide (f.kind = 1)) then 0 else (bif (decide (f.kind = 2)) then 0 else (bif (bif (decide (f.kind = 3)) then (decide (f.kind = 3)) else (bif (decide (f.kind = 4)) then (decide (f.kind = 4)) else (decide (f.kind = 5)))) then f.chip else 0))), vi (bif (decide (f.kind = 1)) then f.bit else (bif (decide (f.kind = 2)) then f.bit else 0)), vi (bif (decide (f.kind = 1)) then 0 else (bif (decide (f.kind = 2)) then f.value else (bif (bif (decide (f.kind = 3)) then (decide (f.kind = 3)) else (bif (decide (f.kind = 4)) then (decide (f.kind = 4)) else (decide (f.kind = 5)))) then f.value else 0)))] 42)]) (fun hq2 => (.t hq2 .nil)) (fun hq2 => (.t hq2 (.cs 0 (decide (f.kind = 5)) 4 [] [] (fun z => []) (fun z => [(3, .blk [vi f.kind, vi (bif z then f.rank else (bif (decide (f.kind = 1)) then f.rank else (bif (decide (f.kind = 2)) then f.rank else (bif (bif (decide (f.kind = 3)) then (decide (f.kind = 3)) else (bif (decide (f.kind = 4)) then (decide (f.kind = 4)) else (decide (f.kind = 5)))) then f.rank else (bif (decide (f.kind = 7)) then 0 else f.rank))))), vi (bif z then 0 else (bif (decide (f.kind = 1)) then f.bank else (bif (decide (f.kind = 2)) then f.bank else (bif (bif (decide (f.kind = 3)) then (decide (f.kind = 3)) else (bif (decide (f.kind = 4)) then (decide (f.kind = 4)) else (decide (f.kind = 5)))) then f.bank else (bif (decide (f.kind = 7)) then 0 else f.bank))))), vi (bif z then 0 else (bif (decide (f.kind = 1)) then f.row else (bif (decide (f.kind = 2)) then f.row else (bif (bif (decide (f.kind = 3)) then (decide (f.kind = 3)) else (bif (decide (f.kind = 4)) then (decide (f.kind = 4)) else (decide (f.kind = 5)))) then f.row else (bif (decide (f.kind = 7)) then 0 else f.row))))), vi (bif z then 0 else (bif (decide (f.kind = 1)) then f.col else (bif (decide (f.kind = 2)) then f.col else (bif (bif (decide (f.kind = 3)) then (decide (f.kind = 3)) else (bif (decide (f.kind = 4)) then (decide (f.kind = 4)) else (decide (f.kind = 5)))) then f.col else (bif (decide (f.kind = 7)) then 0 else f.col))))), vi (bif (decide (f.kind = 1)) then 0 else (bif (decide (f.kind = 2)) then 0 else (bif (bif (decide (f.kind = 3)) then (decide (f.kind = 3)) else (bif (decide (f.kind = 4)) then (decide (f.kind = 4)) else (decide (f.kind = 5)))) then f.chip else 0))), vi (bif (decide (f.kind = 1)) then f.bit else (bif (decide (f.kind = 2)) then f.bit else 0)), vi (bif (decide (f.kind = 1)) then 0 else (bif (decide (f.kind = 2)) then f.value else (bif (bif (decide (f.kind = 3)) then (decide (f.kind = 3)) else (bif (decide (f.kind = 4)) then (decide (f.kind = 4)) else (decide (f.kind = 5)))) then f.value else 0)))] 42)]) (fun hq3 => (.t hq3 .nil)) (fun hq3 => (.t hq3 .nil)) .nil))) .nil))) .nil)) (by kernel_rfl) (by kernel_rfl)
def lasts_v0 (f : Flt) : Bool := bif decide (2 ≤ f.kind) then (decide (f.kind ≤ 5)) else false
theorem lasts (f : Flt)  : Sp P 187 [.ag [vi f.kind, vi f.rank, vi f.bank, vi f.row, vi f.col, vi f.chip, vi f.bit, vi f.value]] [] (vt (lasts_v0 f)) [] := by
 generalize hd0 : lasts_v0 f = zzhd0
 unfold lasts_v0 at hd0
 rcases bft (decide (2 ≤ f.kind)) with q1 | q1
 ·skip
  try rw [cpos q1] at hd0
  have q1' := of_decide_eq_true q1
  subst hd0
  exact Sp.of (fn := Tryz.f187) rfl rfl 3 [] (.t q1 (.t q1 (.t q1 (.t q1 .nil)))) (by kernel_rfl) (by kernel_rfl)
 ·skip
  try rw [cneg q1] at hd0
  have q1' := of_decide_eq_false q1
  subst hd0
  exact Sp.of (fn := Tryz.f187) rfl rfl 3 [] (.t q1 (.t q1 (.t q1 (.t q1 .nil)))) (by kernel_rfl) (by kernel_rfl)
def lies_v0 (f : Flt) (x : Pl) : Bool := bif decide (f.kind = 1) then ((decide (x.rank = f.rank)) && ((decide (x.bank = f.bank)) && ((decide (x.row = f.row)) && ((decide (x.col = f.col)) && true)))) else (bif decide (f.kind = 2) then ((decide (x.rank = f.rank)) && ((decide (x.bank = f.bank)) && ((decide (x.row = f.row)) && ((decide (x.col = f.col)) && true)))) else (bif decide (f.kind = 3) then ((decide (x.rank = f.rank)) && ((decide (x.bank = f.bank)) && ((decide (x.row = f.row)) && ((decide (f.col = f.col)) && true)))) else (bif decide (f.kind = 4) then ((decide (x.rank = f.rank)) && ((decide (x.bank = f.bank)) && ((decide (f.row = f.row)) && ((decide (x.col = f.col)) && true)))) else (bif decide (f.kind = 5) then (decide (x.rank = f.rank)) else false))))
theorem lies (f : Flt) (x : Pl)  : Sp P 298 [.ag [vi f.kind, vi f.rank, vi f.bank, vi f.row, vi f.col, vi f.chip, vi f.bit, vi f.value], .ag [vi x.rank, vi x.bank, vi x.row, vi x.col]] [] (vt (lies_v0 f x)) [] := by
 generalize hd0 : lies_v0 f x = zzhd0
 unfold lies_v0 at hd0
 rcases bft (decide (f.kind = 1)) with q1 | q1
 ·skip
  try rw [cpos q1] at hd0
  have q1' := of_decide_eq_true q1
  subst hd0
  exact Sp.of (fn := Tryz.f298) rfl rfl 5 [] (.t q1 (.t q1 .nil)) (by kernel_rfl) (by kernel_rfl)
 ·skip
  try rw [cneg q1] at hd0
  have q1' := of_decide_eq_false q1
  rcases bft (decide (f.kind = 2)) with q2 | q2
  ·skip
   try rw [cpos q2] at hd0
   have q2' := of_decide_eq_true q2
   subst hd0
   exact Sp.of (fn := Tryz.f298) rfl rfl 5 [] (.t q1 (.t q2 .nil)) (by kernel_rfl) (by kernel_rfl)
  ·skip
   try rw [cneg q2] at hd0
   have q2' := of_decide_eq_false q2
   rcases bft (decide (f.kind = 3)) with q3 | q3
   ·skip
    try rw [cpos q3] at hd0
    have q3' := of_decide_eq_true q3
    subst hd0
    exact Sp.of (fn := Tryz.f298) rfl rfl 5 [] (.t q1 (.t q2 (.t q3 .nil))) (by kernel_rfl) (by kernel_rfl)
   ·skip
    try rw [cneg q3] at hd0
    have q3' := of_decide_eq_false q3
    rcases bft (decide (f.kind = 4)) with q4 | q4
    ·skip
     try rw [cpos q4] at hd0
     have q4' := of_decide_eq_true q4
     subst hd0
     exact Sp.of (fn := Tryz.f298) rfl rfl 5 [] (.t q1 (.t q2 (.t q3 (.t q4 .nil)))) (by kernel_rfl) (by kernel_rfl)
    ·skip
     try rw [cneg q4] at hd0
     have q4' := of_decide_eq_false q4
     rcases bft (decide (f.kind = 5)) with q5 | q5
     ·skip
      try rw [cpos q5] at hd0
      have q5' := of_decide_eq_true q5
      subst hd0
      exact Sp.of (fn := Tryz.f298) rfl rfl 5 [] (.t q1 (.t q2 (.t q3 (.t q4 (.t q5 .nil))))) (by kernel_rfl) (by kernel_rfl)
     ·skip
      try rw [cneg q5] at hd0
      have q5' := of_decide_eq_false q5
      subst hd0
      exact Sp.of (fn := Tryz.f298) rfl rfl 5 [] (.t q1 (.t q2 (.t q3 (.t q4 (.t q5 .nil))))) (by kernel_rfl) (by kernel_rfl)
def fright1_v0 (f : Flt) (g : Gm) : Bool := bif decide (f.kind = 2) then (bif decide (1 ≤ f.kind) then (bif decide (f.kind ≤ 7) then (bif ((decide (f.kind = f.kind)) && (((decide (f.rank = (bare_v0 f))) && ((decide (f.bank = (bare_v1 f))) && ((decide (f.row = (bare_v2 f))) && ((decide (f.col = (bare_v3 f))) && true)))) && ((decide (f.chip = (bare_v4 f))) && ((decide (f.bit = (bare_v5 f))) && ((decide (f.value = (bare_v6 f))) && true))))) then (bif g.holds (⟨f.rank, f.bank, f.row, f.col⟩ : Pl) then (bif (fbel_v0 f.bit 576) then (bif (fbel_v0 f.chip 9) then (fbel_v0 f.value 2) else false) else false) else false) else false) else false) else false) else (bif decide (1 ≤ f.kind) then (bif decide (f.kind ≤ 7) then (bif ((decide (f.kind = f.kind)) && (((decide (f.rank = (bare_v0 f))) && ((decide (f.bank = (bare_v1 f))) && ((decide (f.row = (bare_v2 f))) && ((decide (f.col = (bare_v3 f))) && true)))) && ((decide (f.chip = (bare_v4 f))) && ((decide (f.bit = (bare_v5 f))) && ((decide (f.value = (bare_v6 f))) && true))))) then (bif g.holds (⟨f.rank, f.bank, f.row, f.col⟩ : Pl) then (bif (fbel_v0 f.bit 576) then (bif (fbel_v0 f.chip 9) then (fbel_v0 f.value 256) else false) else false) else false) else false) else false) else false)
theorem fright1 (f : Flt) (g : Gm)  : Sp P 185 [.ag [vi f.kind, vi f.rank, vi f.bank, vi f.row, vi f.col, vi f.chip, vi f.bit, vi f.value], .ag [vi g.ranks, vi g.spares, vi g.banks, vi g.rows, vi g.cols], vn 1] [] (vt (fright1_v0 f g)) [] := by
 generalize hd0 : fright1_v0 f g = zzhd0
 unfold fright1_v0 at hd0
 rcases bft (decide (f.kind = 2)) with q1 | q1
 ·skip
  try rw [cpos q1] at hd0
  have q1' := of_decide_eq_true q1
  rcases bft (decide (1 ≤ f.kind)) with q2 | q2
  ·skip
   try rw [cpos q2] at hd0
   have q2' := of_decide_eq_true q2
   rcases bft (decide (f.kind ≤ 7)) with q3 | q3
   ·skip
    try rw [cpos q3] at hd0
    have q3' := of_decide_eq_true q3
    rcases bft ((decide (f.kind = f.kind)) && (((decide (f.rank = (bare_v0 f))) && ((decide (f.bank = (bare_v1 f))) && ((decide (f.row = (bare_v2 f))) && ((decide (f.col = (bare_v3 f))) && true)))) && ((decide (f.chip = (bare_v4 f))) && ((decide (f.bit = (bare_v5 f))) && ((decide (f.value = (bare_v6 f))) && true))))) with q4 | q4
    ·skip
     try rw [cpos q4] at hd0
     rcases bft (g.holds (⟨f.rank, f.bank, f.row, f.col⟩ : Pl)) with q5 | q5
     ·skip
      try rw [cpos q5] at hd0
      rcases bft (fbel_v0 f.bit 576) with q6 | q6
      ·skip
       try rw [cpos q6] at hd0
       rcases bft (fbel_v0 f.chip 9) with q7 | q7
       ·skip
        try rw [cpos q7] at hd0
        subst hd0
        exact Sp.of (fn := Tryz.f185) rfl rfl 11 [] (.t q1 (.t q2 (.t q2 (.t q2 (.t q2 (.t q3 (.t q3 (.c [] (rright_1) (.t q3 (.y (.y (.y (.c [] (bare f) (.y (.y (.t q4 (.t q4 (.t q4 (.t q4 (.c [] (holds_sp g (⟨f.rank, f.bank, f.row, f.col⟩ : Pl)) (.t q4 (.t q5 (.t q5 (.t q5 (.c [] (fbel f.bit 576) (.t q5 (.t q6 (.t q6 (.t q6 (.t q6 (.c [] (chips_1) (.t q6 (.c [] (fbel f.chip 9) (.t q6 (.t q7 (.t q7 (.t q7 (.t q7 (.c [] (fbel f.value 2) (.t q7 .nil)))))))))))))))))))))))))))))))))))))))) (by kernel_rfl) (by kernel_rfl)
       ·skip
        try rw [cneg q7] at hd0
        subst hd0
        exact Sp.of (fn := Tryz.f185) rfl rfl 10 [] (.t q1 (.t q2 (.t q2 (.t q2 (.t q2 (.t q3 (.t q3 (.c [] (rright_1) (.t q3 (.y (.y (.y (.c [] (bare f) (.y (.y (.t q4 (.t q4 (.t q4 (.t q4 (.c [] (holds_sp g (⟨f.rank, f.bank, f.row, f.col⟩ : Pl)) (.t q4 (.t q5 (.t q5 (.t q5 (.c [] (fbel f.bit 576) (.t q5 (.t q6 (.t q6 (.t q6 (.t q6 (.c [] (chips_1) (.t q6 (.c [] (fbel f.chip 9) (.t q6 (.t q7 (.t q7 (.t q7 (.t q7 (.t q7 .nil))))))))))))))))))))))))))))))))))))))) (by kernel_rfl) (by kernel_rfl)
      ·skip
       try rw [cneg q6] at hd0
       subst hd0
       exact Sp.of (fn := Tryz.f185) rfl rfl 8 [] (.t q1 (.t q2 (.t q2 (.t q2 (.t q2 (.t q3 (.t q3 (.c [] (rright_1) (.t q3 (.y (.y (.y (.c [] (bare f) (.y (.y (.t q4 (.t q4 (.t q4 (.t q4 (.c [] (holds_sp g (⟨f.rank, f.bank, f.row, f.col⟩ : Pl)) (.t q4 (.t q5 (.t q5 (.t q5 (.c [] (fbel f.bit 576) (.t q5 (.t q6 (.t q6 (.t q6 (.t q6 (.t q6 (.t q6 (.n (.n (.n (.n (.n .nil))))))))))))))))))))))))))))))))))))) (by kernel_rfl) (by kernel_rfl)
     ·skip
      try rw [cneg q5] at hd0
      subst hd0
      exact Sp.of (fn := Tryz.f185) rfl rfl 7 [] (.t q1 (.t q2 (.t q2 (.t q2 (.t q2 (.t q3 (.t q3 (.c [] (rright_1) (.t q3 (.y (.y (.y (.c [] (bare f) (.y (.y (.t q4 (.t q4 (.t q4 (.t q4 (.c [] (holds_sp g (⟨f.rank, f.bank, f.row, f.col⟩ : Pl)) (.t q4 (.t q5 (.t q5 (.t q5 (.t q5 (.n (.n (.n (.n (.n (.n (.n (.n (.n (.n (.n .nil)))))))))))))))))))))))))))))))))))) (by kernel_rfl) (by kernel_rfl)
    ·skip
     try rw [cneg q4] at hd0
     subst hd0
     exact Sp.of (fn := Tryz.f185) rfl rfl 6 [] (.t q1 (.t q2 (.t q2 (.t q2 (.t q2 (.t q3 (.t q3 (.c [] (rright_1) (.t q3 (.y (.y (.y (.c [] (bare f) (.y (.y (.t q4 (.t q4 (.t q4 (.t q4 (.t q4 (.n (.n (.n (.n (.n (.n (.n (.n (.n (.n (.n (.n (.n (.n (.n .nil))))))))))))))))))))))))))))))))))) (by kernel_rfl) (by kernel_rfl)
   ·skip
    try rw [cneg q3] at hd0
    have q3' := of_decide_eq_false q3
    subst hd0
    exact Sp.of (fn := Tryz.f185) rfl rfl 4 [] (.t q1 (.t q2 (.t q2 (.t q2 (.t q2 (.t q3 (.t q3 (.t q3 (.n (.n (.n (.n (.n (.n (.n (.n (.n (.n (.n (.n (.n (.n (.n (.n (.n (.n (.n (.n (.n (.n (.n (.n (.n .nil))))))))))))))))))))))))))))))))) (by kernel_rfl) (by kernel_rfl)
  ·skip
   try rw [cneg q2] at hd0
   have q2' := of_decide_eq_false q2
   subst hd0
   exact Sp.of (fn := Tryz.f185) rfl rfl 4 [] (.t q1 (.t q2 (.t q2 (.t q2 (.t q2 (.n (.n (.n (.n (.n (.n (.n (.n (.n (.n (.n (.n (.n (.n (.n (.n (.n (.n (.n (.n (.n (.n (.n (.n (.n (.n (.n (.n .nil))))))))))))))))))))))))))))))))) (by kernel_rfl) (by kernel_rfl)
 ·skip
  try rw [cneg q1] at hd0
  have q1' := of_decide_eq_false q1
  rcases bft (decide (1 ≤ f.kind)) with q2 | q2
  ·skip
   try rw [cpos q2] at hd0
   have q2' := of_decide_eq_true q2
   rcases bft (decide (f.kind ≤ 7)) with q3 | q3
   ·skip
    try rw [cpos q3] at hd0
    have q3' := of_decide_eq_true q3
    rcases bft ((decide (f.kind = f.kind)) && (((decide (f.rank = (bare_v0 f))) && ((decide (f.bank = (bare_v1 f))) && ((decide (f.row = (bare_v2 f))) && ((decide (f.col = (bare_v3 f))) && true)))) && ((decide (f.chip = (bare_v4 f))) && ((decide (f.bit = (bare_v5 f))) && ((decide (f.value = (bare_v6 f))) && true))))) with q4 | q4
    ·skip
     try rw [cpos q4] at hd0
     rcases bft (g.holds (⟨f.rank, f.bank, f.row, f.col⟩ : Pl)) with q5 | q5
     ·skip
      try rw [cpos q5] at hd0
      rcases bft (fbel_v0 f.bit 576) with q6 | q6
      ·skip
       try rw [cpos q6] at hd0
       rcases bft (fbel_v0 f.chip 9) with q7 | q7
       ·skip
        try rw [cpos q7] at hd0
        subst hd0
        exact Sp.of (fn := Tryz.f185) rfl rfl 11 [] (.t q1 (.t q2 (.t q2 (.t q2 (.t q2 (.t q3 (.t q3 (.c [] (rright_1) (.t q3 (.y (.y (.y (.c [] (bare f) (.y (.y (.t q4 (.t q4 (.t q4 (.t q4 (.c [] (holds_sp g (⟨f.rank, f.bank, f.row, f.col⟩ : Pl)) (.t q4 (.t q5 (.t q5 (.t q5 (.c [] (fbel f.bit 576) (.t q5 (.t q6 (.t q6 (.t q6 (.t q6 (.c [] (chips_1) (.t q6 (.c [] (fbel f.chip 9) (.t q6 (.t q7 (.t q7 (.t q7 (.t q7 (.c [] (fbel f.value 256) (.t q7 .nil)))))))))))))))))))))))))))))))))))))))) (by kernel_rfl) (by kernel_rfl)
       ·skip
        try rw [cneg q7] at hd0
        subst hd0
        exact Sp.of (fn := Tryz.f185) rfl rfl 10 [] (.t q1 (.t q2 (.t q2 (.t q2 (.t q2 (.t q3 (.t q3 (.c [] (rright_1) (.t q3 (.y (.y (.y (.c [] (bare f) (.y (.y (.t q4 (.t q4 (.t q4 (.t q4 (.c [] (holds_sp g (⟨f.rank, f.bank, f.row, f.col⟩ : Pl)) (.t q4 (.t q5 (.t q5 (.t q5 (.c [] (fbel f.bit 576) (.t q5 (.t q6 (.t q6 (.t q6 (.t q6 (.c [] (chips_1) (.t q6 (.c [] (fbel f.chip 9) (.t q6 (.t q7 (.t q7 (.t q7 (.t q7 (.t q7 .nil))))))))))))))))))))))))))))))))))))))) (by kernel_rfl) (by kernel_rfl)
      ·skip
       try rw [cneg q6] at hd0
       subst hd0
       exact Sp.of (fn := Tryz.f185) rfl rfl 8 [] (.t q1 (.t q2 (.t q2 (.t q2 (.t q2 (.t q3 (.t q3 (.c [] (rright_1) (.t q3 (.y (.y (.y (.c [] (bare f) (.y (.y (.t q4 (.t q4 (.t q4 (.t q4 (.c [] (holds_sp g (⟨f.rank, f.bank, f.row, f.col⟩ : Pl)) (.t q4 (.t q5 (.t q5 (.t q5 (.c [] (fbel f.bit 576) (.t q5 (.t q6 (.t q6 (.t q6 (.t q6 (.t q6 (.t q6 (.n (.n (.n (.n (.n .nil))))))))))))))))))))))))))))))))))))) (by kernel_rfl) (by kernel_rfl)
     ·skip
      try rw [cneg q5] at hd0
      subst hd0
      exact Sp.of (fn := Tryz.f185) rfl rfl 7 [] (.t q1 (.t q2 (.t q2 (.t q2 (.t q2 (.t q3 (.t q3 (.c [] (rright_1) (.t q3 (.y (.y (.y (.c [] (bare f) (.y (.y (.t q4 (.t q4 (.t q4 (.t q4 (.c [] (holds_sp g (⟨f.rank, f.bank, f.row, f.col⟩ : Pl)) (.t q4 (.t q5 (.t q5 (.t q5 (.t q5 (.n (.n (.n (.n (.n (.n (.n (.n (.n (.n (.n .nil)))))))))))))))))))))))))))))))))))) (by kernel_rfl) (by kernel_rfl)
    ·skip
     try rw [cneg q4] at hd0
     subst hd0
     exact Sp.of (fn := Tryz.f185) rfl rfl 6 [] (.t q1 (.t q2 (.t q2 (.t q2 (.t q2 (.t q3 (.t q3 (.c [] (rright_1) (.t q3 (.y (.y (.y (.c [] (bare f) (.y (.y (.t q4 (.t q4 (.t q4 (.t q4 (.t q4 (.n (.n (.n (.n (.n (.n (.n (.n (.n (.n (.n (.n (.n (.n (.n .nil))))))))))))))))))))))))))))))))))) (by kernel_rfl) (by kernel_rfl)
   ·skip
    try rw [cneg q3] at hd0
    have q3' := of_decide_eq_false q3
    subst hd0
    exact Sp.of (fn := Tryz.f185) rfl rfl 4 [] (.t q1 (.t q2 (.t q2 (.t q2 (.t q2 (.t q3 (.t q3 (.t q3 (.n (.n (.n (.n (.n (.n (.n (.n (.n (.n (.n (.n (.n (.n (.n (.n (.n (.n (.n (.n (.n (.n (.n (.n (.n .nil))))))))))))))))))))))))))))))))) (by kernel_rfl) (by kernel_rfl)
  ·skip
   try rw [cneg q2] at hd0
   have q2' := of_decide_eq_false q2
   subst hd0
   exact Sp.of (fn := Tryz.f185) rfl rfl 4 [] (.t q1 (.t q2 (.t q2 (.t q2 (.t q2 (.n (.n (.n (.n (.n (.n (.n (.n (.n (.n (.n (.n (.n (.n (.n (.n (.n (.n (.n (.n (.n (.n (.n (.n (.n (.n (.n (.n .nil))))))))))))))))))))))))))))))))) (by kernel_rfl) (by kernel_rfl)
def fright2_v0 (f : Flt) (g : Gm) : Bool := bif decide (f.kind = 2) then (bif decide (1 ≤ f.kind) then (bif decide (f.kind ≤ 7) then (bif ((decide (f.kind = f.kind)) && (((decide (f.rank = (bare_v0 f))) && ((decide (f.bank = (bare_v1 f))) && ((decide (f.row = (bare_v2 f))) && ((decide (f.col = (bare_v3 f))) && true)))) && ((decide (f.chip = (bare_v4 f))) && ((decide (f.bit = (bare_v5 f))) && ((decide (f.value = (bare_v6 f))) && true))))) then (bif g.holds (⟨f.rank, f.bank, f.row, f.col⟩ : Pl) then (bif (fbel_v0 f.bit 576) then (bif (fbel_v0 f.chip 36) then (fbel_v0 f.value 2) else false) else false) else false) else false) else false) else false) else (bif decide (1 ≤ f.kind) then (bif decide (f.kind ≤ 7) then (bif ((decide (f.kind = f.kind)) && (((decide (f.rank = (bare_v0 f))) && ((decide (f.bank = (bare_v1 f))) && ((decide (f.row = (bare_v2 f))) && ((decide (f.col = (bare_v3 f))) && true)))) && ((decide (f.chip = (bare_v4 f))) && ((decide (f.bit = (bare_v5 f))) && ((decide (f.value = (bare_v6 f))) && true))))) then (bif g.holds (⟨f.rank, f.bank, f.row, f.col⟩ : Pl) then (bif (fbel_v0 f.bit 576) then (bif (fbel_v0 f.chip 36) then (fbel_v0 f.value 256) else false) else false) else false) else false) else false) else false)
theorem fright2 (f : Flt) (g : Gm)  : Sp P 185 [.ag [vi f.kind, vi f.rank, vi f.bank, vi f.row, vi f.col, vi f.chip, vi f.bit, vi f.value], .ag [vi g.ranks, vi g.spares, vi g.banks, vi g.rows, vi g.cols], vn 2] [] (vt (fright2_v0 f g)) [] := by
 generalize hd0 : fright2_v0 f g = zzhd0
 unfold fright2_v0 at hd0
 rcases bft (decide (f.kind = 2)) with q1 | q1
 ·skip
  try rw [cpos q1] at hd0
  have q1' := of_decide_eq_true q1
  rcases bft (decide (1 ≤ f.kind)) with q2 | q2
  ·skip
   try rw [cpos q2] at hd0
   have q2' := of_decide_eq_true q2
   rcases bft (decide (f.kind ≤ 7)) with q3 | q3
   ·skip
    try rw [cpos q3] at hd0
    have q3' := of_decide_eq_true q3
    rcases bft ((decide (f.kind = f.kind)) && (((decide (f.rank = (bare_v0 f))) && ((decide (f.bank = (bare_v1 f))) && ((decide (f.row = (bare_v2 f))) && ((decide (f.col = (bare_v3 f))) && true)))) && ((decide (f.chip = (bare_v4 f))) && ((decide (f.bit = (bare_v5 f))) && ((decide (f.value = (bare_v6 f))) && true))))) with q4 | q4
    ·skip
     try rw [cpos q4] at hd0
     rcases bft (g.holds (⟨f.rank, f.bank, f.row, f.col⟩ : Pl)) with q5 | q5
     ·skip
      try rw [cpos q5] at hd0
      rcases bft (fbel_v0 f.bit 576) with q6 | q6
      ·skip
       try rw [cpos q6] at hd0
       rcases bft (fbel_v0 f.chip 36) with q7 | q7
       ·skip
        try rw [cpos q7] at hd0
        subst hd0
        exact Sp.of (fn := Tryz.f185) rfl rfl 11 [] (.t q1 (.t q2 (.t q2 (.t q2 (.t q2 (.t q3 (.t q3 (.c [] (rright_2) (.t q3 (.y (.y (.y (.c [] (bare f) (.y (.y (.t q4 (.t q4 (.t q4 (.t q4 (.c [] (holds_sp g (⟨f.rank, f.bank, f.row, f.col⟩ : Pl)) (.t q4 (.t q5 (.t q5 (.t q5 (.c [] (fbel f.bit 576) (.t q5 (.t q6 (.t q6 (.t q6 (.t q6 (.c [] (chips_2) (.t q6 (.c [] (fbel f.chip 36) (.t q6 (.t q7 (.t q7 (.t q7 (.t q7 (.c [] (fbel f.value 2) (.t q7 .nil)))))))))))))))))))))))))))))))))))))))) (by kernel_rfl) (by kernel_rfl)
       ·skip
        try rw [cneg q7] at hd0
        subst hd0
        exact Sp.of (fn := Tryz.f185) rfl rfl 10 [] (.t q1 (.t q2 (.t q2 (.t q2 (.t q2 (.t q3 (.t q3 (.c [] (rright_2) (.t q3 (.y (.y (.y (.c [] (bare f) (.y (.y (.t q4 (.t q4 (.t q4 (.t q4 (.c [] (holds_sp g (⟨f.rank, f.bank, f.row, f.col⟩ : Pl)) (.t q4 (.t q5 (.t q5 (.t q5 (.c [] (fbel f.bit 576) (.t q5 (.t q6 (.t q6 (.t q6 (.t q6 (.c [] (chips_2) (.t q6 (.c [] (fbel f.chip 36) (.t q6 (.t q7 (.t q7 (.t q7 (.t q7 (.t q7 .nil))))))))))))))))))))))))))))))))))))))) (by kernel_rfl) (by kernel_rfl)
      ·skip
       try rw [cneg q6] at hd0
       subst hd0
       exact Sp.of (fn := Tryz.f185) rfl rfl 8 [] (.t q1 (.t q2 (.t q2 (.t q2 (.t q2 (.t q3 (.t q3 (.c [] (rright_2) (.t q3 (.y (.y (.y (.c [] (bare f) (.y (.y (.t q4 (.t q4 (.t q4 (.t q4 (.c [] (holds_sp g (⟨f.rank, f.bank, f.row, f.col⟩ : Pl)) (.t q4 (.t q5 (.t q5 (.t q5 (.c [] (fbel f.bit 576) (.t q5 (.t q6 (.t q6 (.t q6 (.t q6 (.t q6 (.t q6 (.n (.n (.n (.n (.n .nil))))))))))))))))))))))))))))))))))))) (by kernel_rfl) (by kernel_rfl)
     ·skip
      try rw [cneg q5] at hd0
      subst hd0
      exact Sp.of (fn := Tryz.f185) rfl rfl 7 [] (.t q1 (.t q2 (.t q2 (.t q2 (.t q2 (.t q3 (.t q3 (.c [] (rright_2) (.t q3 (.y (.y (.y (.c [] (bare f) (.y (.y (.t q4 (.t q4 (.t q4 (.t q4 (.c [] (holds_sp g (⟨f.rank, f.bank, f.row, f.col⟩ : Pl)) (.t q4 (.t q5 (.t q5 (.t q5 (.t q5 (.n (.n (.n (.n (.n (.n (.n (.n (.n (.n (.n .nil)))))))))))))))))))))))))))))))))))) (by kernel_rfl) (by kernel_rfl)
    ·skip
     try rw [cneg q4] at hd0
     subst hd0
     exact Sp.of (fn := Tryz.f185) rfl rfl 6 [] (.t q1 (.t q2 (.t q2 (.t q2 (.t q2 (.t q3 (.t q3 (.c [] (rright_2) (.t q3 (.y (.y (.y (.c [] (bare f) (.y (.y (.t q4 (.t q4 (.t q4 (.t q4 (.t q4 (.n (.n (.n (.n (.n (.n (.n (.n (.n (.n (.n (.n (.n (.n (.n .nil))))))))))))))))))))))))))))))))))) (by kernel_rfl) (by kernel_rfl)
   ·skip
    try rw [cneg q3] at hd0
    have q3' := of_decide_eq_false q3
    subst hd0
    exact Sp.of (fn := Tryz.f185) rfl rfl 4 [] (.t q1 (.t q2 (.t q2 (.t q2 (.t q2 (.t q3 (.t q3 (.t q3 (.n (.n (.n (.n (.n (.n (.n (.n (.n (.n (.n (.n (.n (.n (.n (.n (.n (.n (.n (.n (.n (.n (.n (.n (.n .nil))))))))))))))))))))))))))))))))) (by kernel_rfl) (by kernel_rfl)
  ·skip
   try rw [cneg q2] at hd0
   have q2' := of_decide_eq_false q2
   subst hd0
   exact Sp.of (fn := Tryz.f185) rfl rfl 4 [] (.t q1 (.t q2 (.t q2 (.t q2 (.t q2 (.n (.n (.n (.n (.n (.n (.n (.n (.n (.n (.n (.n (.n (.n (.n (.n (.n (.n (.n (.n (.n (.n (.n (.n (.n (.n (.n (.n .nil))))))))))))))))))))))))))))))))) (by kernel_rfl) (by kernel_rfl)
 ·skip
  try rw [cneg q1] at hd0
  have q1' := of_decide_eq_false q1
  rcases bft (decide (1 ≤ f.kind)) with q2 | q2
  ·skip
   try rw [cpos q2] at hd0
   have q2' := of_decide_eq_true q2
   rcases bft (decide (f.kind ≤ 7)) with q3 | q3
   ·skip
    try rw [cpos q3] at hd0
    have q3' := of_decide_eq_true q3
    rcases bft ((decide (f.kind = f.kind)) && (((decide (f.rank = (bare_v0 f))) && ((decide (f.bank = (bare_v1 f))) && ((decide (f.row = (bare_v2 f))) && ((decide (f.col = (bare_v3 f))) && true)))) && ((decide (f.chip = (bare_v4 f))) && ((decide (f.bit = (bare_v5 f))) && ((decide (f.value = (bare_v6 f))) && true))))) with q4 | q4
    ·skip
     try rw [cpos q4] at hd0
     rcases bft (g.holds (⟨f.rank, f.bank, f.row, f.col⟩ : Pl)) with q5 | q5
     ·skip
      try rw [cpos q5] at hd0
      rcases bft (fbel_v0 f.bit 576) with q6 | q6
      ·skip
       try rw [cpos q6] at hd0
       rcases bft (fbel_v0 f.chip 36) with q7 | q7
       ·skip
        try rw [cpos q7] at hd0
        subst hd0
        exact Sp.of (fn := Tryz.f185) rfl rfl 11 [] (.t q1 (.t q2 (.t q2 (.t q2 (.t q2 (.t q3 (.t q3 (.c [] (rright_2) (.t q3 (.y (.y (.y (.c [] (bare f) (.y (.y (.t q4 (.t q4 (.t q4 (.t q4 (.c [] (holds_sp g (⟨f.rank, f.bank, f.row, f.col⟩ : Pl)) (.t q4 (.t q5 (.t q5 (.t q5 (.c [] (fbel f.bit 576) (.t q5 (.t q6 (.t q6 (.t q6 (.t q6 (.c [] (chips_2) (.t q6 (.c [] (fbel f.chip 36) (.t q6 (.t q7 (.t q7 (.t q7 (.t q7 (.c [] (fbel f.value 256) (.t q7 .nil)))))))))))))))))))))))))))))))))))))))) (by kernel_rfl) (by kernel_rfl)
       ·skip
        try rw [cneg q7] at hd0
        subst hd0
        exact Sp.of (fn := Tryz.f185) rfl rfl 10 [] (.t q1 (.t q2 (.t q2 (.t q2 (.t q2 (.t q3 (.t q3 (.c [] (rright_2) (.t q3 (.y (.y (.y (.c [] (bare f) (.y (.y (.t q4 (.t q4 (.t q4 (.t q4 (.c [] (holds_sp g (⟨f.rank, f.bank, f.row, f.col⟩ : Pl)) (.t q4 (.t q5 (.t q5 (.t q5 (.c [] (fbel f.bit 576) (.t q5 (.t q6 (.t q6 (.t q6 (.t q6 (.c [] (chips_2) (.t q6 (.c [] (fbel f.chip 36) (.t q6 (.t q7 (.t q7 (.t q7 (.t q7 (.t q7 .nil))))))))))))))))))))))))))))))))))))))) (by kernel_rfl) (by kernel_rfl)
      ·skip
       try rw [cneg q6] at hd0
       subst hd0
       exact Sp.of (fn := Tryz.f185) rfl rfl 8 [] (.t q1 (.t q2 (.t q2 (.t q2 (.t q2 (.t q3 (.t q3 (.c [] (rright_2) (.t q3 (.y (.y (.y (.c [] (bare f) (.y (.y (.t q4 (.t q4 (.t q4 (.t q4 (.c [] (holds_sp g (⟨f.rank, f.bank, f.row, f.col⟩ : Pl)) (.t q4 (.t q5 (.t q5 (.t q5 (.c [] (fbel f.bit 576) (.t q5 (.t q6 (.t q6 (.t q6 (.t q6 (.t q6 (.t q6 (.n (.n (.n (.n (.n .nil))))))))))))))))))))))))))))))))))))) (by kernel_rfl) (by kernel_rfl)
     ·skip
      try rw [cneg q5] at hd0
      subst hd0
      exact Sp.of (fn := Tryz.f185) rfl rfl 7 [] (.t q1 (.t q2 (.t q2 (.t q2 (.t q2 (.t q3 (.t q3 (.c [] (rright_2) (.t q3 (.y (.y (.y (.c [] (bare f) (.y (.y (.t q4 (.t q4 (.t q4 (.t q4 (.c [] (holds_sp g (⟨f.rank, f.bank, f.row, f.col⟩ : Pl)) (.t q4 (.t q5 (.t q5 (.t q5 (.t q5 (.n (.n (.n (.n (.n (.n (.n (.n (.n (.n (.n .nil)))))))))))))))))))))))))))))))))))) (by kernel_rfl) (by kernel_rfl)
    ·skip
     try rw [cneg q4] at hd0
     subst hd0
     exact Sp.of (fn := Tryz.f185) rfl rfl 6 [] (.t q1 (.t q2 (.t q2 (.t q2 (.t q2 (.t q3 (.t q3 (.c [] (rright_2) (.t q3 (.y (.y (.y (.c [] (bare f) (.y (.y (.t q4 (.t q4 (.t q4 (.t q4 (.t q4 (.n (.n (.n (.n (.n (.n (.n (.n (.n (.n (.n (.n (.n (.n (.n .nil))))))))))))))))))))))))))))))))))) (by kernel_rfl) (by kernel_rfl)
   ·skip
    try rw [cneg q3] at hd0
    have q3' := of_decide_eq_false q3
    subst hd0
    exact Sp.of (fn := Tryz.f185) rfl rfl 4 [] (.t q1 (.t q2 (.t q2 (.t q2 (.t q2 (.t q3 (.t q3 (.t q3 (.n (.n (.n (.n (.n (.n (.n (.n (.n (.n (.n (.n (.n (.n (.n (.n (.n (.n (.n (.n (.n (.n (.n (.n (.n .nil))))))))))))))))))))))))))))))))) (by kernel_rfl) (by kernel_rfl)
  ·skip
   try rw [cneg q2] at hd0
   have q2' := of_decide_eq_false q2
   subst hd0
   exact Sp.of (fn := Tryz.f185) rfl rfl 4 [] (.t q1 (.t q2 (.t q2 (.t q2 (.t q2 (.n (.n (.n (.n (.n (.n (.n (.n (.n (.n (.n (.n (.n (.n (.n (.n (.n (.n (.n (.n (.n (.n (.n (.n (.n (.n (.n (.n .nil))))))))))))))))))))))))))))))))) (by kernel_rfl) (by kernel_rfl)
end Go.Proofs.YtghfannbcopjmaaGreat
