import Derived.Test.YtghfannbcopjmaaGreatFxX
namespace Go.Proofs.YtghfannbcopjmaaGreat
open Go Go.RowKit
set_option linter.unusedVariables false
set_option linter.unusedSimpArgs false
set_option maxRecDepth 100000
def sbare_v0 (k : Int) (ln : Int) (d : Nat → Nat) (m : Nat) (f0 : Int) (f1 : Int) (f2 : Int) (f3 : Int) (f4 : Int) (f5 : Int) (f6 : Int) (f7 : Int) : Int := bif decide (k = 1) then ln else (bif decide (k = 2) then ln else (bif decide (k = 3) then ln else 0))
def sbare_v1 (k : Int) (ln : Int) (d : Nat → Nat) (m : Nat) (f0 : Int) (f1 : Int) (f2 : Int) (f3 : Int) (f4 : Int) (f5 : Int) (f6 : Int) (f7 : Int) : Nat → Nat := bif decide (k = 1) then (fun _ => 0) else (bif decide (k = 2) then d else (bif decide (k = 3) then d else (fun _ => 0)))
def sbare_v2 (k : Int) (ln : Int) (d : Nat → Nat) (m : Nat) (f0 : Int) (f1 : Int) (f2 : Int) (f3 : Int) (f4 : Int) (f5 : Int) (f6 : Int) (f7 : Int) : Nat := bif decide (k = 1) then 0 else (bif decide (k = 2) then 0 else (bif decide (k = 3) then m else 0))
theorem sbare (k : Int) (ln : Int) (d : Nat → Nat) (m : Nat) (f0 : Int) (f1 : Int) (f2 : Int) (f3 : Int) (f4 : Int) (f5 : Int) (f6 : Int) (f7 : Int) (h8 : decide (k = 8) = false) : Sp P 57 [.ag [vi k, vi ln, .ar .u8 64 (nf d), vu m, vi f0, vi f1, vi f2, vi f3, vi f4, vi f5, vi f6, vi f7]] [] (.ag [vi k, vi (sbare_v0 k ln d m f0 f1 f2 f3 f4 f5 f6 f7), .ar .u8 64 (nf (sbare_v1 k ln d m f0 f1 f2 f3 f4 f5 f6 f7)), vu (sbare_v2 k ln d m f0 f1 f2 f3 f4 f5 f6 f7), vn 0, vn 0, vn 0, vn 0, vn 0, vn 0, vn 0, vn 0]) [] := by
 generalize hd0 : sbare_v0 k ln d m f0 f1 f2 f3 f4 f5 f6 f7 = zzhd0
 unfold sbare_v0 at hd0
 generalize hd1 : sbare_v1 k ln d m f0 f1 f2 f3 f4 f5 f6 f7 = zzhd1
 unfold sbare_v1 at hd1
 generalize hd2 : sbare_v2 k ln d m f0 f1 f2 f3 f4 f5 f6 f7 = zzhd2
 unfold sbare_v2 at hd2
 rcases bft (decide (k = 1)) with q1 | q1
 ·skip
  try rw [cpos q1] at hd0
  try rw [cpos q1] at hd1
  try rw [cpos q1] at hd2
  have q1' := of_decide_eq_true q1
  subst hd0 hd1 hd2
  exact Sp.of (fn := Tryz.f57) rfl rfl 5 [] (.t q1 .nil) (by kernel_rfl) (by kernel_rfl)
 ·skip
  try rw [cneg q1] at hd0
  try rw [cneg q1] at hd1
  try rw [cneg q1] at hd2
  have q1' := of_decide_eq_false q1
  rcases bft (decide (k = 2)) with q2 | q2
  ·skip
   try rw [cpos q2] at hd0
   try rw [cpos q2] at hd1
   try rw [cpos q2] at hd2
   have q2' := of_decide_eq_true q2
   subst hd0 hd1 hd2
   exact Sp.of (fn := Tryz.f57) rfl rfl 5 [] (.t q1 (.t q2 .nil)) (by kernel_rfl) (by kernel_rfl)
  ·skip
   try rw [cneg q2] at hd0
   try rw [cneg q2] at hd1
   try rw [cneg q2] at hd2
   have q2' := of_decide_eq_false q2
   rcases bft (decide (k = 3)) with q3 | q3
   ·skip
    try rw [cpos q3] at hd0
    try rw [cpos q3] at hd1
    try rw [cpos q3] at hd2
    have q3' := of_decide_eq_true q3
    subst hd0 hd1 hd2
    exact Sp.of (fn := Tryz.f57) rfl rfl 5 [] (.t q1 (.t q2 (.t q3 .nil))) (by kernel_rfl) (by kernel_rfl)
   ·skip
    try rw [cneg q3] at hd0
    try rw [cneg q3] at hd1
    try rw [cneg q3] at hd2
    have q3' := of_decide_eq_false q3
    subst hd0 hd1 hd2
    exact Sp.of (fn := Tryz.f57) rfl rfl 5 [] (.t q1 (.t q2 (.t q3 (.t h8 .nil)))) (by kernel_rfl) (by kernel_rfl)
theorem numbers8_1 (k : Int) (ln : Int) (d : Nat → Nat) (m : Nat) (f1 : Int) (f2 : Int) (f3 : Int) (f4 : Int) (f5 : Int) (f6 : Int) (f7 : Int)  : Sp P 97 [.pt 0 67] [.blk [vi k, vi ln, .ar .u8 64 (nf d), vu m, vn 1, vi f1, vi f2, vi f3, vi f4, vi f5, vi f6, vi f7] 44] (.sg 1 0 1 5) [.blk [vi k, vi ln, .ar .u8 64 (nf d), vu m, vn 1, vi f1, vi f2, vi f3, vi f4, vi f5, vi f6, vi f7] 44, .blk [.pt 0 68, .pt 0 69, .pt 0 70, .pt 0 71, .pt 0 73] 190] :=
 Sp.of (fn := Tryz.f97) rfl rfl 3 [.id 0, .id 2] (.y .nil) (by kernel_rfl) (by kernel_rfl)
theorem numbers8_2 (k : Int) (ln : Int) (d : Nat → Nat) (m : Nat) (f1 : Int) (f2 : Int) (f3 : Int) (f4 : Int) (f5 : Int) (f6 : Int) (f7 : Int)  : Sp P 97 [.pt 0 67] [.blk [vi k, vi ln, .ar .u8 64 (nf d), vu m, vn 2, vi f1, vi f2, vi f3, vi f4, vi f5, vi f6, vi f7] 44] (.sg 1 0 1 6) [.blk [vi k, vi ln, .ar .u8 64 (nf d), vu m, vn 2, vi f1, vi f2, vi f3, vi f4, vi f5, vi f6, vi f7] 44, .blk [.pt 0 68, .pt 0 69, .pt 0 70, .pt 0 71, .pt 0 73, .pt 0 74] 190] :=
 Sp.of (fn := Tryz.f97) rfl rfl 3 [.id 0, .id 2] (.n (.y .nil)) (by kernel_rfl) (by kernel_rfl)
theorem numbers8_3 (k : Int) (ln : Int) (d : Nat → Nat) (m : Nat) (f1 : Int) (f2 : Int) (f3 : Int) (f4 : Int) (f5 : Int) (f6 : Int) (f7 : Int)  : Sp P 97 [.pt 0 67] [.blk [vi k, vi ln, .ar .u8 64 (nf d), vu m, vn 3, vi f1, vi f2, vi f3, vi f4, vi f5, vi f6, vi f7] 44] (.sg 1 0 1 5) [.blk [vi k, vi ln, .ar .u8 64 (nf d), vu m, vn 3, vi f1, vi f2, vi f3, vi f4, vi f5, vi f6, vi f7] 44, .blk [.pt 0 68, .pt 0 69, .pt 0 70, .pt 0 72, .pt 0 74] 190] :=
 Sp.of (fn := Tryz.f97) rfl rfl 3 [.id 0, .id 2] (.n (.n (.y .nil))) (by kernel_rfl) (by kernel_rfl)
theorem numbers8_4 (k : Int) (ln : Int) (d : Nat → Nat) (m : Nat) (f1 : Int) (f2 : Int) (f3 : Int) (f4 : Int) (f5 : Int) (f6 : Int) (f7 : Int)  : Sp P 97 [.pt 0 67] [.blk [vi k, vi ln, .ar .u8 64 (nf d), vu m, vn 4, vi f1, vi f2, vi f3, vi f4, vi f5, vi f6, vi f7] 44] (.sg 1 0 1 5) [.blk [vi k, vi ln, .ar .u8 64 (nf d), vu m, vn 4, vi f1, vi f2, vi f3, vi f4, vi f5, vi f6, vi f7] 44, .blk [.pt 0 68, .pt 0 69, .pt 0 71, .pt 0 72, .pt 0 74] 190] :=
 Sp.of (fn := Tryz.f97) rfl rfl 3 [.id 0, .id 2] (.n (.n (.n (.y .nil)))) (by kernel_rfl) (by kernel_rfl)
theorem numbers8_5 (k : Int) (ln : Int) (d : Nat → Nat) (m : Nat) (f1 : Int) (f2 : Int) (f3 : Int) (f4 : Int) (f5 : Int) (f6 : Int) (f7 : Int)  : Sp P 97 [.pt 0 67] [.blk [vi k, vi ln, .ar .u8 64 (nf d), vu m, vn 5, vi f1, vi f2, vi f3, vi f4, vi f5, vi f6, vi f7] 44] (.sg 1 0 1 3) [.blk [vi k, vi ln, .ar .u8 64 (nf d), vu m, vn 5, vi f1, vi f2, vi f3, vi f4, vi f5, vi f6, vi f7] 44, .blk [.pt 0 68, .pt 0 72, .pt 0 74] 190] :=
 Sp.of (fn := Tryz.f97) rfl rfl 3 [.id 0, .id 2] (.n (.n (.n (.n (.y .nil))))) (by kernel_rfl) (by kernel_rfl)
theorem numbers8_6 (k : Int) (ln : Int) (d : Nat → Nat) (m : Nat) (f1 : Int) (f2 : Int) (f3 : Int) (f4 : Int) (f5 : Int) (f6 : Int) (f7 : Int)  : Sp P 97 [.pt 0 67] [.blk [vi k, vi ln, .ar .u8 64 (nf d), vu m, vn 6, vi f1, vi f2, vi f3, vi f4, vi f5, vi f6, vi f7] 44] (.sg 1 0 1 4) [.blk [vi k, vi ln, .ar .u8 64 (nf d), vu m, vn 6, vi f1, vi f2, vi f3, vi f4, vi f5, vi f6, vi f7] 44, .blk [.pt 0 68, .pt 0 69, .pt 0 70, .pt 0 71] 190] :=
 Sp.of (fn := Tryz.f97) rfl rfl 3 [.id 0, .id 2] (.n (.n (.n (.n (.n (.y .nil)))))) (by kernel_rfl) (by kernel_rfl)
theorem numbers8_7 (k : Int) (ln : Int) (d : Nat → Nat) (m : Nat) (f1 : Int) (f2 : Int) (f3 : Int) (f4 : Int) (f5 : Int) (f6 : Int) (f7 : Int)  : Sp P 97 [.pt 0 67] [.blk [vi k, vi ln, .ar .u8 64 (nf d), vu m, vn 7, vi f1, vi f2, vi f3, vi f4, vi f5, vi f6, vi f7] 44] (nilS) [.blk [vi k, vi ln, .ar .u8 64 (nf d), vu m, vn 7, vi f1, vi f2, vi f3, vi f4, vi f5, vi f6, vi f7] 44] :=
 Sp.of (fn := Tryz.f97) rfl rfl 3 [.id 0] (.n (.n (.n (.n (.n (.n .nil)))))) (by kernel_rfl) (by kernel_rfl)
theorem sbare8_1 (ln : Int) (d : Nat → Nat) (m : Nat) (f1 : Int) (f2 : Int) (f3 : Int) (f4 : Int) (f5 : Int) (f6 : Int) (f7 : Int)  : Sp P 57 [.ag [vn 8, vi ln, .ar .u8 64 (nf d), vu m, vn 1, vi f1, vi f2, vi f3, vi f4, vi f5, vi f6, vi f7]] [] (.ag [vi 8, vi 0, .ar .u8 64 (nf (fun _ => 0)), vu 0, vn 1, vi f1, vi f2, vi f3, vi f4, vi 0, vi f6, vi 0]) [] :=
 Sp.of (fn := Tryz.f57) rfl rfl 12 [] (.n (.n (.n (.y (.c [.id 3] (numbers8_1 8 0 (fun _ => 0) 0 0 0 0 0 0 0 0) (.c [.id 1] (numbers8_1 8 ln d m f1 f2 f3 f4 f5 f6 f7) (.lu 5 (.y (.ix (i := 0) (m := 5) (by decide) (.ix (i := 0) (m := 5) (by decide) (.y (.ix (i := 1) (m := 5) (by decide) (.ix (i := 1) (m := 5) (by decide) (.y (.ix (i := 2) (m := 5) (by decide) (.ix (i := 2) (m := 5) (by decide) (.y (.ix (i := 3) (m := 5) (by decide) (.ix (i := 3) (m := 5) (by decide) (.y (.ix (i := 4) (m := 5) (by decide) (.ix (i := 4) (m := 5) (by decide) (.n .nil))))))))))))))))))))))) (by kernel_rfl) (by kernel_rfl)
theorem sbare8_2 (ln : Int) (d : Nat → Nat) (m : Nat) (f1 : Int) (f2 : Int) (f3 : Int) (f4 : Int) (f5 : Int) (f6 : Int) (f7 : Int)  : Sp P 57 [.ag [vn 8, vi ln, .ar .u8 64 (nf d), vu m, vn 2, vi f1, vi f2, vi f3, vi f4, vi f5, vi f6, vi f7]] [] (.ag [vi 8, vi 0, .ar .u8 64 (nf (fun _ => 0)), vu 0, vn 2, vi f1, vi f2, vi f3, vi f4, vi 0, vi f6, vi f7]) [] :=
 Sp.of (fn := Tryz.f57) rfl rfl 13 [] (.n (.n (.n (.y (.c [.id 3] (numbers8_2 8 0 (fun _ => 0) 0 0 0 0 0 0 0 0) (.c [.id 1] (numbers8_2 8 ln d m f1 f2 f3 f4 f5 f6 f7) (.lu 6 (.y (.ix (i := 0) (m := 6) (by decide) (.ix (i := 0) (m := 6) (by decide) (.y (.ix (i := 1) (m := 6) (by decide) (.ix (i := 1) (m := 6) (by decide) (.y (.ix (i := 2) (m := 6) (by decide) (.ix (i := 2) (m := 6) (by decide) (.y (.ix (i := 3) (m := 6) (by decide) (.ix (i := 3) (m := 6) (by decide) (.y (.ix (i := 4) (m := 6) (by decide) (.ix (i := 4) (m := 6) (by decide) (.y (.ix (i := 5) (m := 6) (by decide) (.ix (i := 5) (m := 6) (by decide) (.n .nil)))))))))))))))))))))))))) (by kernel_rfl) (by kernel_rfl)
theorem sbare8_3 (ln : Int) (d : Nat → Nat) (m : Nat) (f1 : Int) (f2 : Int) (f3 : Int) (f4 : Int) (f5 : Int) (f6 : Int) (f7 : Int)  : Sp P 57 [.ag [vn 8, vi ln, .ar .u8 64 (nf d), vu m, vn 3, vi f1, vi f2, vi f3, vi f4, vi f5, vi f6, vi f7]] [] (.ag [vi 8, vi 0, .ar .u8 64 (nf (fun _ => 0)), vu 0, vn 3, vi f1, vi f2, vi f3, vi 0, vi f5, vi 0, vi f7]) [] :=
 Sp.of (fn := Tryz.f57) rfl rfl 12 [] (.n (.n (.n (.y (.c [.id 3] (numbers8_3 8 0 (fun _ => 0) 0 0 0 0 0 0 0 0) (.c [.id 1] (numbers8_3 8 ln d m f1 f2 f3 f4 f5 f6 f7) (.lu 5 (.y (.ix (i := 0) (m := 5) (by decide) (.ix (i := 0) (m := 5) (by decide) (.y (.ix (i := 1) (m := 5) (by decide) (.ix (i := 1) (m := 5) (by decide) (.y (.ix (i := 2) (m := 5) (by decide) (.ix (i := 2) (m := 5) (by decide) (.y (.ix (i := 3) (m := 5) (by decide) (.ix (i := 3) (m := 5) (by decide) (.y (.ix (i := 4) (m := 5) (by decide) (.ix (i := 4) (m := 5) (by decide) (.n .nil))))))))))))))))))))))) (by kernel_rfl) (by kernel_rfl)
theorem sbare8_4 (ln : Int) (d : Nat → Nat) (m : Nat) (f1 : Int) (f2 : Int) (f3 : Int) (f4 : Int) (f5 : Int) (f6 : Int) (f7 : Int)  : Sp P 57 [.ag [vn 8, vi ln, .ar .u8 64 (nf d), vu m, vn 4, vi f1, vi f2, vi f3, vi f4, vi f5, vi f6, vi f7]] [] (.ag [vi 8, vi 0, .ar .u8 64 (nf (fun _ => 0)), vu 0, vn 4, vi f1, vi f2, vi 0, vi f4, vi f5, vi 0, vi f7]) [] :=
 Sp.of (fn := Tryz.f57) rfl rfl 12 [] (.n (.n (.n (.y (.c [.id 3] (numbers8_4 8 0 (fun _ => 0) 0 0 0 0 0 0 0 0) (.c [.id 1] (numbers8_4 8 ln d m f1 f2 f3 f4 f5 f6 f7) (.lu 5 (.y (.ix (i := 0) (m := 5) (by decide) (.ix (i := 0) (m := 5) (by decide) (.y (.ix (i := 1) (m := 5) (by decide) (.ix (i := 1) (m := 5) (by decide) (.y (.ix (i := 2) (m := 5) (by decide) (.ix (i := 2) (m := 5) (by decide) (.y (.ix (i := 3) (m := 5) (by decide) (.ix (i := 3) (m := 5) (by decide) (.y (.ix (i := 4) (m := 5) (by decide) (.ix (i := 4) (m := 5) (by decide) (.n .nil))))))))))))))))))))))) (by kernel_rfl) (by kernel_rfl)
theorem sbare8_5 (ln : Int) (d : Nat → Nat) (m : Nat) (f1 : Int) (f2 : Int) (f3 : Int) (f4 : Int) (f5 : Int) (f6 : Int) (f7 : Int)  : Sp P 57 [.ag [vn 8, vi ln, .ar .u8 64 (nf d), vu m, vn 5, vi f1, vi f2, vi f3, vi f4, vi f5, vi f6, vi f7]] [] (.ag [vi 8, vi 0, .ar .u8 64 (nf (fun _ => 0)), vu 0, vn 5, vi f1, vi 0, vi 0, vi 0, vi f5, vi 0, vi f7]) [] :=
 Sp.of (fn := Tryz.f57) rfl rfl 10 [] (.n (.n (.n (.y (.c [.id 3] (numbers8_5 8 0 (fun _ => 0) 0 0 0 0 0 0 0 0) (.c [.id 1] (numbers8_5 8 ln d m f1 f2 f3 f4 f5 f6 f7) (.lu 3 (.y (.ix (i := 0) (m := 3) (by decide) (.ix (i := 0) (m := 3) (by decide) (.y (.ix (i := 1) (m := 3) (by decide) (.ix (i := 1) (m := 3) (by decide) (.y (.ix (i := 2) (m := 3) (by decide) (.ix (i := 2) (m := 3) (by decide) (.n .nil))))))))))))))))) (by kernel_rfl) (by kernel_rfl)
theorem sbare8_6 (ln : Int) (d : Nat → Nat) (m : Nat) (f1 : Int) (f2 : Int) (f3 : Int) (f4 : Int) (f5 : Int) (f6 : Int) (f7 : Int)  : Sp P 57 [.ag [vn 8, vi ln, .ar .u8 64 (nf d), vu m, vn 6, vi f1, vi f2, vi f3, vi f4, vi f5, vi f6, vi f7]] [] (.ag [vi 8, vi 0, .ar .u8 64 (nf (fun _ => 0)), vu 0, vn 6, vi f1, vi f2, vi f3, vi f4, vi 0, vi 0, vi 0]) [] :=
 Sp.of (fn := Tryz.f57) rfl rfl 11 [] (.n (.n (.n (.y (.c [.id 3] (numbers8_6 8 0 (fun _ => 0) 0 0 0 0 0 0 0 0) (.c [.id 1] (numbers8_6 8 ln d m f1 f2 f3 f4 f5 f6 f7) (.lu 4 (.y (.ix (i := 0) (m := 4) (by decide) (.ix (i := 0) (m := 4) (by decide) (.y (.ix (i := 1) (m := 4) (by decide) (.ix (i := 1) (m := 4) (by decide) (.y (.ix (i := 2) (m := 4) (by decide) (.ix (i := 2) (m := 4) (by decide) (.y (.ix (i := 3) (m := 4) (by decide) (.ix (i := 3) (m := 4) (by decide) (.n .nil)))))))))))))))))))) (by kernel_rfl) (by kernel_rfl)
theorem sbare8_7 (ln : Int) (d : Nat → Nat) (m : Nat) (f1 : Int) (f2 : Int) (f3 : Int) (f4 : Int) (f5 : Int) (f6 : Int) (f7 : Int)  : Sp P 57 [.ag [vn 8, vi ln, .ar .u8 64 (nf d), vu m, vn 7, vi f1, vi f2, vi f3, vi f4, vi f5, vi f6, vi f7]] [] (.ag [vi 8, vi 0, .ar .u8 64 (nf (fun _ => 0)), vu 0, vn 7, vi 0, vi 0, vi 0, vi 0, vi 0, vi 0, vi 0]) [] :=
 Sp.of (fn := Tryz.f57) rfl rfl 5 [] (.n (.n (.n (.y (.c [.id 3] (numbers8_7 8 0 (fun _ => 0) 0 0 0 0 0 0 0 0) (.c [.id 1] (numbers8_7 8 ln d m f1 f2 f3 f4 f5 f6 f7) (.lu 0 (.n .nil)))))))) (by kernel_rfl) (by kernel_rfl)
def sright_v0 (k : Int) (ln : Int) (d : Nat → Nat) (m : Nat) (f0 : Int) (f1 : Int) (f2 : Int) (f3 : Int) (f4 : Int) (f5 : Int) (f6 : Int) (f7 : Int) : Bool := bif decide (k < 1) then false else (bif decide (8 < k) then false else (bif ((decide (k = k)) && ((decide (ln = (sbare_v0 k ln d m f0 f1 f2 f3 f4 f5 f6 f7))) && ((eqA (nf d) (nf (sbare_v1 k ln d m f0 f1 f2 f3 f4 f5 f6 f7)) 64 0) && ((decide (((m : Nat) : Int) = (((sbare_v2 k ln d m f0 f1 f2 f3 f4 f5 f6 f7) : Nat) : Int))) && (((decide (f0 = 0)) && (((decide (f1 = 0)) && ((decide (f2 = 0)) && ((decide (f3 = 0)) && ((decide (f4 = 0)) && true)))) && ((decide (f5 = 0)) && ((decide (f6 = 0)) && ((decide (f7 = 0)) && true))))) && true))))) then true else false))
theorem sright (k : Int) (ln : Int) (d : Nat → Nat) (m : Nat) (f0 : Int) (f1 : Int) (f2 : Int) (f3 : Int) (f4 : Int) (f5 : Int) (f6 : Int) (f7 : Int) (h8 : decide (k = 8) = false) : Sp P 14 [.ag [vi k, vi ln, .ar .u8 64 (nf d), vu m, vi f0, vi f1, vi f2, vi f3, vi f4, vi f5, vi f6, vi f7]] [] (vt (sright_v0 k ln d m f0 f1 f2 f3 f4 f5 f6 f7)) [] := by
 generalize hd0 : sright_v0 k ln d m f0 f1 f2 f3 f4 f5 f6 f7 = zzhd0
 unfold sright_v0 at hd0
 rcases bft (decide (k < 1)) with q1 | q1
 ·skip
  try rw [cpos q1] at hd0
  have q1' := of_decide_eq_true q1
  subst hd0
  exact Sp.of (fn := Tryz.f14) rfl rfl 3 [] (.t q1 (.t q1 (.t q1 (.t q1 (.y (.y (.y (.y (.y (.y .nil)))))))))) (by kernel_rfl) (by kernel_rfl)
 ·skip
  try rw [cneg q1] at hd0
  have q1' := of_decide_eq_false q1
  rcases bft (decide (8 < k)) with q2 | q2
  ·skip
   try rw [cpos q2] at hd0
   have q2' := of_decide_eq_true q2
   subst hd0
   exact Sp.of (fn := Tryz.f14) rfl rfl 3 [] (.t q1 (.t q1 (.t q1 (.t q1 (.t q2 (.t q2 (.t q2 (.t q2 (.t q2 (.y .nil)))))))))) (by kernel_rfl) (by kernel_rfl)
  ·skip
   try rw [cneg q2] at hd0
   have q2' := of_decide_eq_false q2
   rcases bft ((decide (k = k)) && ((decide (ln = (sbare_v0 k ln d m f0 f1 f2 f3 f4 f5 f6 f7))) && ((eqA (nf d) (nf (sbare_v1 k ln d m f0 f1 f2 f3 f4 f5 f6 f7)) 64 0) && ((decide (((m : Nat) : Int) = (((sbare_v2 k ln d m f0 f1 f2 f3 f4 f5 f6 f7) : Nat) : Int))) && (((decide (f0 = 0)) && (((decide (f1 = 0)) && ((decide (f2 = 0)) && ((decide (f3 = 0)) && ((decide (f4 = 0)) && true)))) && ((decide (f5 = 0)) && ((decide (f6 = 0)) && ((decide (f7 = 0)) && true))))) && true))))) with q3 | q3
   ·skip
    try rw [cpos q3] at hd0
    subst hd0
    exact Sp.of (fn := Tryz.f14) rfl rfl 4 [] (.t q1 (.t q1 (.t q1 (.t q1 (.t q2 (.t q2 (.t q2 (.c [] (sbare k ln d m f0 f1 f2 f3 f4 f5 f6 f7 (by first | assumption | omega)) (.t q2 (.t q2 (.g q3 (.t (congrArg (!·) h8) (.t (congrArg (!·) h8) (.t (congrArg (!·) h8) (.t (congrArg (!·) h8) (.t (congrArg (!·) h8) (.t (congrArg (!·) h8) (.t (congrArg (!·) h8) .nil)))))))))))))))))) (by kernel_rfl) (by kernel_rfl)
   ·skip
    try rw [cneg q3] at hd0
    subst hd0
    exact Sp.of (fn := Tryz.f14) rfl rfl 4 [] (.t q1 (.t q1 (.t q1 (.t q1 (.t q2 (.t q2 (.t q2 (.c [] (sbare k ln d m f0 f1 f2 f3 f4 f5 f6 f7 (by first | assumption | omega)) (.t q2 (.t q2 (.g q3 .nil))))))))))) (by kernel_rfl) (by kernel_rfl)
def sright8_1_v0 (ln : Int) (d : Nat → Nat) (m : Nat) (f1 : Int) (f2 : Int) (f3 : Int) (f4 : Int) (f5 : Int) (f6 : Int) (f7 : Int) : Bool := bif (true && ((decide (ln = 0)) && ((eqA (nf d) (nf (fun _ => 0)) 64 0) && ((decide (((m : Nat) : Int) = 0)) && ((true && (((decide (f1 = f1)) && ((decide (f2 = f2)) && ((decide (f3 = f3)) && ((decide (f4 = f4)) && true)))) && ((decide (f5 = 0)) && ((decide (f6 = f6)) && ((decide (f7 = 0)) && true))))) && true))))) then true else false
theorem sright8_1 (ln : Int) (d : Nat → Nat) (m : Nat) (f1 : Int) (f2 : Int) (f3 : Int) (f4 : Int) (f5 : Int) (f6 : Int) (f7 : Int)  : Sp P 14 [.ag [vn 8, vi ln, .ar .u8 64 (nf d), vu m, vn 1, vi f1, vi f2, vi f3, vi f4, vi f5, vi f6, vi f7]] [] (vt (sright8_1_v0 ln d m f1 f2 f3 f4 f5 f6 f7)) [] := by
 generalize hd0 : sright8_1_v0 ln d m f1 f2 f3 f4 f5 f6 f7 = zzhd0
 unfold sright8_1_v0 at hd0
 rcases bft (true && ((decide (ln = 0)) && ((eqA (nf d) (nf (fun _ => 0)) 64 0) && ((decide (((m : Nat) : Int) = 0)) && ((true && (((decide (f1 = f1)) && ((decide (f2 = f2)) && ((decide (f3 = f3)) && ((decide (f4 = f4)) && true)))) && ((decide (f5 = 0)) && ((decide (f6 = f6)) && ((decide (f7 = 0)) && true))))) && true))))) with q1 | q1
 ·skip
  try rw [cpos q1] at hd0
  subst hd0
  exact Sp.of (fn := Tryz.f14) rfl rfl 4 [] (.n (.n (.n (.n (.n (.n (.n (.c [] (sbare8_1 ln d m f1 f2 f3 f4 f5 f6 f7) (.n (.n (.g q1 (.n (.n (.n (.n (.n (.y (.y (.y (.y (.n (.y (.n .nil))))))))))))))))))))))) (by kernel_rfl) (by kernel_rfl)
 ·skip
  try rw [cneg q1] at hd0
  subst hd0
  exact Sp.of (fn := Tryz.f14) rfl rfl 4 [] (.n (.n (.n (.n (.n (.n (.n (.c [] (sbare8_1 ln d m f1 f2 f3 f4 f5 f6 f7) (.n (.n (.g q1 .nil))))))))))) (by kernel_rfl) (by kernel_rfl)
def sright8_2_v0 (ln : Int) (d : Nat → Nat) (m : Nat) (f1 : Int) (f2 : Int) (f3 : Int) (f4 : Int) (f5 : Int) (f6 : Int) (f7 : Int) : Bool := bif (true && ((decide (ln = 0)) && ((eqA (nf d) (nf (fun _ => 0)) 64 0) && ((decide (((m : Nat) : Int) = 0)) && ((true && (((decide (f1 = f1)) && ((decide (f2 = f2)) && ((decide (f3 = f3)) && ((decide (f4 = f4)) && true)))) && ((decide (f5 = 0)) && ((decide (f6 = f6)) && ((decide (f7 = f7)) && true))))) && true))))) then true else false
theorem sright8_2 (ln : Int) (d : Nat → Nat) (m : Nat) (f1 : Int) (f2 : Int) (f3 : Int) (f4 : Int) (f5 : Int) (f6 : Int) (f7 : Int)  : Sp P 14 [.ag [vn 8, vi ln, .ar .u8 64 (nf d), vu m, vn 2, vi f1, vi f2, vi f3, vi f4, vi f5, vi f6, vi f7]] [] (vt (sright8_2_v0 ln d m f1 f2 f3 f4 f5 f6 f7)) [] := by
 generalize hd0 : sright8_2_v0 ln d m f1 f2 f3 f4 f5 f6 f7 = zzhd0
 unfold sright8_2_v0 at hd0
 rcases bft (true && ((decide (ln = 0)) && ((eqA (nf d) (nf (fun _ => 0)) 64 0) && ((decide (((m : Nat) : Int) = 0)) && ((true && (((decide (f1 = f1)) && ((decide (f2 = f2)) && ((decide (f3 = f3)) && ((decide (f4 = f4)) && true)))) && ((decide (f5 = 0)) && ((decide (f6 = f6)) && ((decide (f7 = f7)) && true))))) && true))))) with q1 | q1
 ·skip
  try rw [cpos q1] at hd0
  subst hd0
  exact Sp.of (fn := Tryz.f14) rfl rfl 4 [] (.n (.n (.n (.n (.n (.n (.n (.c [] (sbare8_2 ln d m f1 f2 f3 f4 f5 f6 f7) (.n (.n (.g q1 (.n (.n (.n (.n (.n (.y (.y (.y (.y (.n (.y (.n .nil))))))))))))))))))))))) (by kernel_rfl) (by kernel_rfl)
 ·skip
  try rw [cneg q1] at hd0
  subst hd0
  exact Sp.of (fn := Tryz.f14) rfl rfl 4 [] (.n (.n (.n (.n (.n (.n (.n (.c [] (sbare8_2 ln d m f1 f2 f3 f4 f5 f6 f7) (.n (.n (.g q1 .nil))))))))))) (by kernel_rfl) (by kernel_rfl)
def sright8_3_v0 (ln : Int) (d : Nat → Nat) (m : Nat) (f1 : Int) (f2 : Int) (f3 : Int) (f4 : Int) (f5 : Int) (f6 : Int) (f7 : Int) : Bool := bif (true && ((decide (ln = 0)) && ((eqA (nf d) (nf (fun _ => 0)) 64 0) && ((decide (((m : Nat) : Int) = 0)) && ((true && (((decide (f1 = f1)) && ((decide (f2 = f2)) && ((decide (f3 = f3)) && ((decide (f4 = 0)) && true)))) && ((decide (f5 = f5)) && ((decide (f6 = 0)) && ((decide (f7 = f7)) && true))))) && true))))) then true else false
theorem sright8_3 (ln : Int) (d : Nat → Nat) (m : Nat) (f1 : Int) (f2 : Int) (f3 : Int) (f4 : Int) (f5 : Int) (f6 : Int) (f7 : Int)  : Sp P 14 [.ag [vn 8, vi ln, .ar .u8 64 (nf d), vu m, vn 3, vi f1, vi f2, vi f3, vi f4, vi f5, vi f6, vi f7]] [] (vt (sright8_3_v0 ln d m f1 f2 f3 f4 f5 f6 f7)) [] := by
 generalize hd0 : sright8_3_v0 ln d m f1 f2 f3 f4 f5 f6 f7 = zzhd0
 unfold sright8_3_v0 at hd0
 rcases bft (true && ((decide (ln = 0)) && ((eqA (nf d) (nf (fun _ => 0)) 64 0) && ((decide (((m : Nat) : Int) = 0)) && ((true && (((decide (f1 = f1)) && ((decide (f2 = f2)) && ((decide (f3 = f3)) && ((decide (f4 = 0)) && true)))) && ((decide (f5 = f5)) && ((decide (f6 = 0)) && ((decide (f7 = f7)) && true))))) && true))))) with q1 | q1
 ·skip
  try rw [cpos q1] at hd0
  subst hd0
  exact Sp.of (fn := Tryz.f14) rfl rfl 4 [] (.n (.n (.n (.n (.n (.n (.n (.c [] (sbare8_3 ln d m f1 f2 f3 f4 f5 f6 f7) (.n (.n (.g q1 (.n (.n (.n (.n (.n (.y (.y (.y (.y (.n (.y (.n .nil))))))))))))))))))))))) (by kernel_rfl) (by kernel_rfl)
 ·skip
  try rw [cneg q1] at hd0
  subst hd0
  exact Sp.of (fn := Tryz.f14) rfl rfl 4 [] (.n (.n (.n (.n (.n (.n (.n (.c [] (sbare8_3 ln d m f1 f2 f3 f4 f5 f6 f7) (.n (.n (.g q1 .nil))))))))))) (by kernel_rfl) (by kernel_rfl)
def sright8_4_v0 (ln : Int) (d : Nat → Nat) (m : Nat) (f1 : Int) (f2 : Int) (f3 : Int) (f4 : Int) (f5 : Int) (f6 : Int) (f7 : Int) : Bool := bif (true && ((decide (ln = 0)) && ((eqA (nf d) (nf (fun _ => 0)) 64 0) && ((decide (((m : Nat) : Int) = 0)) && ((true && (((decide (f1 = f1)) && ((decide (f2 = f2)) && ((decide (f3 = 0)) && ((decide (f4 = f4)) && true)))) && ((decide (f5 = f5)) && ((decide (f6 = 0)) && ((decide (f7 = f7)) && true))))) && true))))) then true else false
theorem sright8_4 (ln : Int) (d : Nat → Nat) (m : Nat) (f1 : Int) (f2 : Int) (f3 : Int) (f4 : Int) (f5 : Int) (f6 : Int) (f7 : Int)  : Sp P 14 [.ag [vn 8, vi ln, .ar .u8 64 (nf d), vu m, vn 4, vi f1, vi f2, vi f3, vi f4, vi f5, vi f6, vi f7]] [] (vt (sright8_4_v0 ln d m f1 f2 f3 f4 f5 f6 f7)) [] := by
 generalize hd0 : sright8_4_v0 ln d m f1 f2 f3 f4 f5 f6 f7 = zzhd0
 unfold sright8_4_v0 at hd0
 rcases bft (true && ((decide (ln = 0)) && ((eqA (nf d) (nf (fun _ => 0)) 64 0) && ((decide (((m : Nat) : Int) = 0)) && ((true && (((decide (f1 = f1)) && ((decide (f2 = f2)) && ((decide (f3 = 0)) && ((decide (f4 = f4)) && true)))) && ((decide (f5 = f5)) && ((decide (f6 = 0)) && ((decide (f7 = f7)) && true))))) && true))))) with q1 | q1
 ·skip
  try rw [cpos q1] at hd0
  subst hd0
  exact Sp.of (fn := Tryz.f14) rfl rfl 4 [] (.n (.n (.n (.n (.n (.n (.n (.c [] (sbare8_4 ln d m f1 f2 f3 f4 f5 f6 f7) (.n (.n (.g q1 (.n (.n (.n (.n (.n (.y (.y (.y (.y (.n (.y (.n .nil))))))))))))))))))))))) (by kernel_rfl) (by kernel_rfl)
 ·skip
  try rw [cneg q1] at hd0
  subst hd0
  exact Sp.of (fn := Tryz.f14) rfl rfl 4 [] (.n (.n (.n (.n (.n (.n (.n (.c [] (sbare8_4 ln d m f1 f2 f3 f4 f5 f6 f7) (.n (.n (.g q1 .nil))))))))))) (by kernel_rfl) (by kernel_rfl)
def sright8_5_v0 (ln : Int) (d : Nat → Nat) (m : Nat) (f1 : Int) (f2 : Int) (f3 : Int) (f4 : Int) (f5 : Int) (f6 : Int) (f7 : Int) : Bool := bif (true && ((decide (ln = 0)) && ((eqA (nf d) (nf (fun _ => 0)) 64 0) && ((decide (((m : Nat) : Int) = 0)) && ((true && (((decide (f1 = f1)) && ((decide (f2 = 0)) && ((decide (f3 = 0)) && ((decide (f4 = 0)) && true)))) && ((decide (f5 = f5)) && ((decide (f6 = 0)) && ((decide (f7 = f7)) && true))))) && true))))) then true else false
theorem sright8_5 (ln : Int) (d : Nat → Nat) (m : Nat) (f1 : Int) (f2 : Int) (f3 : Int) (f4 : Int) (f5 : Int) (f6 : Int) (f7 : Int)  : Sp P 14 [.ag [vn 8, vi ln, .ar .u8 64 (nf d), vu m, vn 5, vi f1, vi f2, vi f3, vi f4, vi f5, vi f6, vi f7]] [] (vt (sright8_5_v0 ln d m f1 f2 f3 f4 f5 f6 f7)) [] := by
 generalize hd0 : sright8_5_v0 ln d m f1 f2 f3 f4 f5 f6 f7 = zzhd0
 unfold sright8_5_v0 at hd0
 rcases bft (true && ((decide (ln = 0)) && ((eqA (nf d) (nf (fun _ => 0)) 64 0) && ((decide (((m : Nat) : Int) = 0)) && ((true && (((decide (f1 = f1)) && ((decide (f2 = 0)) && ((decide (f3 = 0)) && ((decide (f4 = 0)) && true)))) && ((decide (f5 = f5)) && ((decide (f6 = 0)) && ((decide (f7 = f7)) && true))))) && true))))) with q1 | q1
 ·skip
  try rw [cpos q1] at hd0
  subst hd0
  exact Sp.of (fn := Tryz.f14) rfl rfl 4 [] (.n (.n (.n (.n (.n (.n (.n (.c [] (sbare8_5 ln d m f1 f2 f3 f4 f5 f6 f7) (.n (.n (.g q1 (.n (.n (.n (.n (.n (.y (.y (.y (.y (.n (.y (.n .nil))))))))))))))))))))))) (by kernel_rfl) (by kernel_rfl)
 ·skip
  try rw [cneg q1] at hd0
  subst hd0
  exact Sp.of (fn := Tryz.f14) rfl rfl 4 [] (.n (.n (.n (.n (.n (.n (.n (.c [] (sbare8_5 ln d m f1 f2 f3 f4 f5 f6 f7) (.n (.n (.g q1 .nil))))))))))) (by kernel_rfl) (by kernel_rfl)
def sright8_6_v0 (ln : Int) (d : Nat → Nat) (m : Nat) (f1 : Int) (f2 : Int) (f3 : Int) (f4 : Int) (f5 : Int) (f6 : Int) (f7 : Int) : Bool := bif (true && ((decide (ln = 0)) && ((eqA (nf d) (nf (fun _ => 0)) 64 0) && ((decide (((m : Nat) : Int) = 0)) && ((true && (((decide (f1 = f1)) && ((decide (f2 = f2)) && ((decide (f3 = f3)) && ((decide (f4 = f4)) && true)))) && ((decide (f5 = 0)) && ((decide (f6 = 0)) && ((decide (f7 = 0)) && true))))) && true))))) then true else false
theorem sright8_6 (ln : Int) (d : Nat → Nat) (m : Nat) (f1 : Int) (f2 : Int) (f3 : Int) (f4 : Int) (f5 : Int) (f6 : Int) (f7 : Int)  : Sp P 14 [.ag [vn 8, vi ln, .ar .u8 64 (nf d), vu m, vn 6, vi f1, vi f2, vi f3, vi f4, vi f5, vi f6, vi f7]] [] (vt (sright8_6_v0 ln d m f1 f2 f3 f4 f5 f6 f7)) [] := by
 generalize hd0 : sright8_6_v0 ln d m f1 f2 f3 f4 f5 f6 f7 = zzhd0
 unfold sright8_6_v0 at hd0
 rcases bft (true && ((decide (ln = 0)) && ((eqA (nf d) (nf (fun _ => 0)) 64 0) && ((decide (((m : Nat) : Int) = 0)) && ((true && (((decide (f1 = f1)) && ((decide (f2 = f2)) && ((decide (f3 = f3)) && ((decide (f4 = f4)) && true)))) && ((decide (f5 = 0)) && ((decide (f6 = 0)) && ((decide (f7 = 0)) && true))))) && true))))) with q1 | q1
 ·skip
  try rw [cpos q1] at hd0
  subst hd0
  exact Sp.of (fn := Tryz.f14) rfl rfl 4 [] (.n (.n (.n (.n (.n (.n (.n (.c [] (sbare8_6 ln d m f1 f2 f3 f4 f5 f6 f7) (.n (.n (.g q1 (.n (.n (.n (.n (.n (.y (.y (.y (.y (.n (.y (.n .nil))))))))))))))))))))))) (by kernel_rfl) (by kernel_rfl)
 ·skip
  try rw [cneg q1] at hd0
  subst hd0
  exact Sp.of (fn := Tryz.f14) rfl rfl 4 [] (.n (.n (.n (.n (.n (.n (.n (.c [] (sbare8_6 ln d m f1 f2 f3 f4 f5 f6 f7) (.n (.n (.g q1 .nil))))))))))) (by kernel_rfl) (by kernel_rfl)
def sright8_7_v0 (ln : Int) (d : Nat → Nat) (m : Nat) (f1 : Int) (f2 : Int) (f3 : Int) (f4 : Int) (f5 : Int) (f6 : Int) (f7 : Int) : Bool := bif (true && ((decide (ln = 0)) && ((eqA (nf d) (nf (fun _ => 0)) 64 0) && ((decide (((m : Nat) : Int) = 0)) && ((true && (((decide (f1 = 0)) && ((decide (f2 = 0)) && ((decide (f3 = 0)) && ((decide (f4 = 0)) && true)))) && ((decide (f5 = 0)) && ((decide (f6 = 0)) && ((decide (f7 = 0)) && true))))) && true))))) then true else false
theorem sright8_7 (ln : Int) (d : Nat → Nat) (m : Nat) (f1 : Int) (f2 : Int) (f3 : Int) (f4 : Int) (f5 : Int) (f6 : Int) (f7 : Int)  : Sp P 14 [.ag [vn 8, vi ln, .ar .u8 64 (nf d), vu m, vn 7, vi f1, vi f2, vi f3, vi f4, vi f5, vi f6, vi f7]] [] (vt (sright8_7_v0 ln d m f1 f2 f3 f4 f5 f6 f7)) [] := by
 generalize hd0 : sright8_7_v0 ln d m f1 f2 f3 f4 f5 f6 f7 = zzhd0
 unfold sright8_7_v0 at hd0
 rcases bft (true && ((decide (ln = 0)) && ((eqA (nf d) (nf (fun _ => 0)) 64 0) && ((decide (((m : Nat) : Int) = 0)) && ((true && (((decide (f1 = 0)) && ((decide (f2 = 0)) && ((decide (f3 = 0)) && ((decide (f4 = 0)) && true)))) && ((decide (f5 = 0)) && ((decide (f6 = 0)) && ((decide (f7 = 0)) && true))))) && true))))) with q1 | q1
 ·skip
  try rw [cpos q1] at hd0
  subst hd0
  exact Sp.of (fn := Tryz.f14) rfl rfl 4 [] (.n (.n (.n (.n (.n (.n (.n (.c [] (sbare8_7 ln d m f1 f2 f3 f4 f5 f6 f7) (.n (.n (.g q1 (.n (.n (.n (.n (.n (.y (.y (.y (.y (.n (.y (.n .nil))))))))))))))))))))))) (by kernel_rfl) (by kernel_rfl)
 ·skip
  try rw [cneg q1] at hd0
  subst hd0
  exact Sp.of (fn := Tryz.f14) rfl rfl 4 [] (.n (.n (.n (.n (.n (.n (.n (.c [] (sbare8_7 ln d m f1 f2 f3 f4 f5 f6 f7) (.n (.n (.g q1 .nil))))))))))) (by kernel_rfl) (by kernel_rfl)
theorem numbers8_o (ln : Int) (d : Nat → Nat) (m : Nat) (f0 : Int) (f1 : Int) (f2 : Int) (f3 : Int) (f4 : Int) (f5 : Int) (f6 : Int) (f7 : Int) (n1 : decide (f0 = 1) = false) (n2 : decide (f0 = 2) = false) (n3 : decide (f0 = 3) = false) (n4 : decide (f0 = 4) = false) (n5 : decide (f0 = 5) = false) (n6 : decide (f0 = 6) = false) (n7 : decide (f0 = 7) = false) : Sp P 97 [.pt 0 67] [.blk [vn 8, vi ln, .ar .u8 64 (nf d), vu m, vi f0, vi f1, vi f2, vi f3, vi f4, vi f5, vi f6, vi f7] 44] (nilS) [.blk [vn 8, vi ln, .ar .u8 64 (nf d), vu m, vi f0, vi f1, vi f2, vi f3, vi f4, vi f5, vi f6, vi f7] 44] :=
 Sp.of (fn := Tryz.f97) rfl rfl 3 [.id 0] (.t n1 (.t n2 (.t n3 (.t n4 (.t n5 (.t n6 .nil)))))) (by kernel_rfl) (by kernel_rfl)
theorem sbare8_o (ln : Int) (d : Nat → Nat) (m : Nat) (f0 : Int) (f1 : Int) (f2 : Int) (f3 : Int) (f4 : Int) (f5 : Int) (f6 : Int) (f7 : Int) (n1 : decide (f0 = 1) = false) (n2 : decide (f0 = 2) = false) (n3 : decide (f0 = 3) = false) (n4 : decide (f0 = 4) = false) (n5 : decide (f0 = 5) = false) (n6 : decide (f0 = 6) = false) (n7 : decide (f0 = 7) = false) : Sp P 57 [.ag [vn 8, vi ln, .ar .u8 64 (nf d), vu m, vi f0, vi f1, vi f2, vi f3, vi f4, vi f5, vi f6, vi f7]] [] (.ag [vn 8, vi 0, .ar .u8 64 (nf (fun _ => 0)), vu 0, vi f0, vi 0, vi 0, vi 0, vi 0, vi 0, vi 0, vi 0]) [] :=
 Sp.of (fn := Tryz.f57) rfl rfl 5 [] (.n (.n (.n (.y (.c [.id 3] (numbers8_o 0 (fun _ => 0) 0 f0 0 0 0 0 0 0 0 (by first | assumption | omega) (by first | assumption | omega) (by first | assumption | omega) (by first | assumption | omega) (by first | assumption | omega) (by first | assumption | omega) (by first | assumption | omega)) (.c [.id 1] (numbers8_o ln d m f0 f1 f2 f3 f4 f5 f6 f7 (by first | assumption | omega) (by first | assumption | omega) (by first | assumption | omega) (by first | assumption | omega) (by first | assumption | omega) (by first | assumption | omega) (by first | assumption | omega)) (.lu 0 (.n .nil)))))))) (by kernel_rfl) (by kernel_rfl)
def sright8_o_v0 (ln : Int) (d : Nat → Nat) (m : Nat) (f0 : Int) (f1 : Int) (f2 : Int) (f3 : Int) (f4 : Int) (f5 : Int) (f6 : Int) (f7 : Int) : Bool := bif (true && ((decide (ln = 0)) && ((eqA (nf d) (nf (fun _ => 0)) 64 0) && ((decide (((m : Nat) : Int) = 0)) && (((decide (f0 = f0)) && (((decide (f1 = 0)) && ((decide (f2 = 0)) && ((decide (f3 = 0)) && ((decide (f4 = 0)) && true)))) && ((decide (f5 = 0)) && ((decide (f6 = 0)) && ((decide (f7 = 0)) && true))))) && true))))) then (bif decide (1 ≤ f0) then (decide (f0 ≤ 7)) else false) else false
theorem sright8_o (ln : Int) (d : Nat → Nat) (m : Nat) (f0 : Int) (f1 : Int) (f2 : Int) (f3 : Int) (f4 : Int) (f5 : Int) (f6 : Int) (f7 : Int) (n1 : decide (f0 = 1) = false) (n2 : decide (f0 = 2) = false) (n3 : decide (f0 = 3) = false) (n4 : decide (f0 = 4) = false) (n5 : decide (f0 = 5) = false) (n6 : decide (f0 = 6) = false) (n7 : decide (f0 = 7) = false) : Sp P 14 [.ag [vn 8, vi ln, .ar .u8 64 (nf d), vu m, vi f0, vi f1, vi f2, vi f3, vi f4, vi f5, vi f6, vi f7]] [] (vt (sright8_o_v0 ln d m f0 f1 f2 f3 f4 f5 f6 f7)) [] := by
 generalize hd0 : sright8_o_v0 ln d m f0 f1 f2 f3 f4 f5 f6 f7 = zzhd0
 unfold sright8_o_v0 at hd0
 rcases bft (true && ((decide (ln = 0)) && ((eqA (nf d) (nf (fun _ => 0)) 64 0) && ((decide (((m : Nat) : Int) = 0)) && (((decide (f0 = f0)) && (((decide (f1 = 0)) && ((decide (f2 = 0)) && ((decide (f3 = 0)) && ((decide (f4 = 0)) && true)))) && ((decide (f5 = 0)) && ((decide (f6 = 0)) && ((decide (f7 = 0)) && true))))) && true))))) with q1 | q1
 ·skip
  try rw [cpos q1] at hd0
  rcases bft (decide (1 ≤ f0)) with q2 | q2
  ·skip
   try rw [cpos q2] at hd0
   have q2' := of_decide_eq_true q2
   subst hd0
   exact Sp.of (fn := Tryz.f14) rfl rfl 4 [] (.n (.n (.n (.n (.n (.n (.n (.c [] (sbare8_o ln d m f0 f1 f2 f3 f4 f5 f6 f7 (by first | assumption | omega) (by first | assumption | omega) (by first | assumption | omega) (by first | assumption | omega) (by first | assumption | omega) (by first | assumption | omega) (by first | assumption | omega)) (.n (.n (.g q1 (.n (.n (.n (.n (.n (.t q2 (.t q2 (.t q2 (.t q2 (.n (.t q2 (.n .nil))))))))))))))))))))))) (by kernel_rfl) (by kernel_rfl)
  ·skip
   try rw [cneg q2] at hd0
   have q2' := of_decide_eq_false q2
   subst hd0
   exact Sp.of (fn := Tryz.f14) rfl rfl 4 [] (.n (.n (.n (.n (.n (.n (.n (.c [] (sbare8_o ln d m f0 f1 f2 f3 f4 f5 f6 f7 (by first | assumption | omega) (by first | assumption | omega) (by first | assumption | omega) (by first | assumption | omega) (by first | assumption | omega) (by first | assumption | omega) (by first | assumption | omega)) (.n (.n (.g q1 (.n (.n (.n (.n (.n (.t q2 (.t q2 (.t q2 (.t q2 (.n (.t q2 (.n .nil))))))))))))))))))))))) (by kernel_rfl) (by kernel_rfl)
 ·skip
  try rw [cneg q1] at hd0
  subst hd0
  exact Sp.of (fn := Tryz.f14) rfl rfl 4 [] (.n (.n (.n (.n (.n (.n (.n (.c [] (sbare8_o ln d m f0 f1 f2 f3 f4 f5 f6 f7 (by first | assumption | omega) (by first | assumption | omega) (by first | assumption | omega) (by first | assumption | omega) (by first | assumption | omega) (by first | assumption | omega) (by first | assumption | omega)) (.n (.n (.g q1 .nil))))))))))) (by kernel_rfl) (by kernel_rfl)
end Go.Proofs.YtghfannbcopjmaaGreat
