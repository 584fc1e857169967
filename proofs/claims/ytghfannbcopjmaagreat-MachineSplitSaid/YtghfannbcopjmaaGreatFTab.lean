import Derived.Test.YtghfannbcopjmaaGreatFDel
import Derived.Test.YtghfannbcopjmaaGreatFSt
import Derived.Test.YtghfannbcopjmaaGreatFBkt
namespace Go.Proofs.YtghfannbcopjmaaGreat
open Go Go.RowKit
set_option linter.unusedVariables false
set_option linter.unusedSimpArgs false
set_option maxRecDepth 100000
theorem tfind1 (x : Pg) (k : Int)  : Sp P 307 [.ag [vi x.k, vi x.b.level, vi x.b.age], .pt 0 0] [.ro (.blk [vi k] 3)] (vt (decide (x.k = k))) [.ro (.blk [vi k] 3)] :=
 Sp.of (fn := Tryz.f307) rfl rfl 3 [.id 0] .nil (by kernel_rfl) (by kernel_rfl)
def tkw (l : List Pg) (k : Int) : Nat := ff (fun i => decide ((l.getD i ePg0).k = k)) l.length
theorem tkw_at {l : List Pg} {k : Int} (h : ((tkw l k : Nat) : Int) < ((l.length : Nat) : Int)) : decide ((l.getD (tkw l k) ePg0).k = k) = true := ff_at (p := fun i => decide ((l.getD i ePg0).k = k)) (n := l.length) (show tkw l k < l.length by omega)
theorem tkw_le (l : List Pg) (k : Int) : tkw l k ≤ l.length := ff_le _ _
def tindex_v0 (l : List Pg) (k : Int) : Int := bif decide ((((tkw l k) : Nat) : Int) < ((l.length : Nat) : Int)) then (((tkw l k) : Nat) : Int) else (-1)
theorem tindex (l : List Pg) (k : Int) (hl : l.length ≤ 100000) : Sp P 306 [.sl 0, .fn (.func 307) [] [.pt 1 0]] [.ro (.row ePg l), .ro (.blk [vi k] 3)] (vi (tindex_v0 l k)) [.ro (.row ePg l), .ro (.blk [vi k] 3)] := by
 have hw := tkw_le l k
 generalize hd0 : tindex_v0 l k = zzhd0
 unfold tindex_v0 at hd0
 rcases bft (decide ((((tkw l k) : Nat) : Int) < ((l.length : Nat) : Int))) with q1 | q1
 ·skip
  try rw [cpos q1] at hd0
  have q1' := of_decide_eq_true q1
  subst hd0
  exact Sp.of (fn := Tryz.f306) rfl rfl 3 [.id 0, .id 1] (.lp (tkw l k) 3 [] [] (fun i => [(8, vn i)]) (fun i => []) (fun i hi => (.t (show (decide (((i : Nat) : Int) < ((l.length : Nat) : Int))) = true from decide_eq_true (by omega)) (.ix (i := i) (m := l.length) (by omega) (.el (e := ePg) (gDx (l := l) (i := i) ePg0 (by omega)) (.c [.id 1] (tfind1 (l.getD i ePg0) k) (.t (show (decide ((l.getD i ePg0).k = k)) = false from ff_lt hi) (.e 18 (aAdd (a := ((i : Nat) : Int)) (b := 1) (c := ((i + 1 : Nat) : Int)) (by omega)) .nil))))))) (.t q1 (.ix (i := (tkw l k)) (m := l.length) (by have hq := of_decide_eq_true q1; omega) (.el (e := ePg) (gDx (l := l) (i := (tkw l k)) ePg0 (by have hq := of_decide_eq_true q1; omega)) (.c [.id 1] (tfind1 (l.getD (tkw l k) ePg0) k) (.t (show (decide ((l.getD (tkw l k) ePg0).k = k)) = true from tkw_at (of_decide_eq_true q1)) .nil)))))) (by kernel_rfl) (by kernel_rfl)
 ·skip
  try rw [cneg q1] at hd0
  have q1' := of_decide_eq_false q1
  subst hd0
  exact Sp.of (fn := Tryz.f306) rfl rfl 3 [.id 0, .id 1] (.lp (tkw l k) 3 [] [] (fun i => [(8, vn i)]) (fun i => []) (fun i hi => (.t (show (decide (((i : Nat) : Int) < ((l.length : Nat) : Int))) = true from decide_eq_true (by omega)) (.ix (i := i) (m := l.length) (by omega) (.el (e := ePg) (gDx (l := l) (i := i) ePg0 (by omega)) (.c [.id 1] (tfind1 (l.getD i ePg0) k) (.t (show (decide ((l.getD i ePg0).k = k)) = false from ff_lt hi) (.e 18 (aAdd (a := ((i : Nat) : Int)) (b := 1) (c := ((i + 1 : Nat) : Int)) (by omega)) .nil))))))) (.t q1 .nil)) (by kernel_rfl) (by kernel_rfl)
theorem tfind (l : List Pg) (room : Int) (k : Int) (hl : l.length ≤ 100000) : Sp P 288 [.pt 0 0, vi k] [.ro (.blk [.sl 1, vi room, .fn (.func 197) [] []] 305), .ro (.row ePg l)] (vi (tindex_v0 l k)) [.ro (.blk [.sl 1, vi room, .fn (.func 197) [] []] 305), .ro (.row ePg l)] :=
 Sp.of (fn := Tryz.f288) rfl rfl 3 [.id 0, .id 1] (.c [.id 1, .id 3] (tindex l k (by first | assumption | omega)) .nil) (by kernel_rfl) (by kernel_rfl)
theorem tkw_ix {l : List Pg} {k : Int} (h : ¬ (tindex_v0 l k < 0)) : 0 ≤ tindex_v0 l k ∧ tindex_v0 l k < ((l.length : Nat) : Int) := by
 have hw := tkw_le l k
 unfold tindex_v0 at h ⊢
 cases q : decide (((tkw l k : Nat) : Int) < ((l.length : Nat) : Int))
 ·rw [q] at h; exact absurd (show (-1 : Int) < 0 by decide) h
 ·have := of_decide_eq_true q
  exact ⟨Int.natCast_nonneg _, this⟩
def tGet_v0 (l : List Pg) (room : Int) (k : Int) : Int := bif decide ((tindex_v0 l k) < 0) then 0 else (l.getD (tindex_v0 l k).toNat ePg0).b.level
def tGet_v1 (l : List Pg) (room : Int) (k : Int) : Int := bif decide ((tindex_v0 l k) < 0) then 0 else (l.getD (tindex_v0 l k).toNat ePg0).b.age
def tGet_v2 (l : List Pg) (room : Int) (k : Int) : Bool := bif decide ((tindex_v0 l k) < 0) then false else true
theorem tGet (l : List Pg) (room : Int) (k : Int) (hl : l.length ≤ 100000) : Sp P 262 [.pt 0 0, vi k] [.ro (.blk [.sl 1, vi room, .fn (.func 197) [] []] 305), .ro (.row ePg l)] (.tu [.ag [vi (tGet_v0 l room k), vi (tGet_v1 l room k)], vt (tGet_v2 l room k)]) [.ro (.blk [.sl 1, vi room, .fn (.func 197) [] []] 305), .ro (.row ePg l)] := by
 generalize hd0 : tGet_v0 l room k = zzhd0
 unfold tGet_v0 at hd0
 generalize hd1 : tGet_v1 l room k = zzhd1
 unfold tGet_v1 at hd1
 generalize hd2 : tGet_v2 l room k = zzhd2
 unfold tGet_v2 at hd2
 rcases bft (decide ((tindex_v0 l k) < 0)) with q1 | q1
 ·skip
  try rw [cpos q1] at hd0
  try rw [cpos q1] at hd1
  try rw [cpos q1] at hd2
  have q1' := of_decide_eq_true q1
  subst hd0 hd1 hd2
  exact Sp.of (fn := Tryz.f262) rfl rfl 4 [.id 0, .id 1] (.c [.id 0, .id 1] (tfind l room k (by first | assumption | omega)) (.t q1 .nil)) (by kernel_rfl) (by kernel_rfl)
 ·skip
  try rw [cneg q1] at hd0
  try rw [cneg q1] at hd1
  try rw [cneg q1] at hd2
  have q1' := of_decide_eq_false q1
  subst hd0 hd1 hd2
  exact Sp.of (fn := Tryz.f262) rfl rfl 3 [.id 0, .id 1] (.c [.id 0, .id 1] (tfind l room k (by first | assumption | omega)) (.t q1 (.ix (n := (tindex_v0 l k)) (i := (tindex_v0 l k).toNat) (m := l.length) (e := (by have hx := tkw_ix (l := l) (k := k) (by omega); omega)) (by have hx := tkw_ix (l := l) (k := k) (by omega); omega) (.el (e := ePg) (gDx (l := l) (i := (tindex_v0 l k).toNat) ePg0 (by have hx := tkw_ix (l := l) (k := k) (by omega); omega)) .nil)))) (by kernel_rfl) (by kernel_rfl)
theorem tweight (b : Bk)  : Sp P 197 [.ag [vi b.level, vi b.age]] [] (vi b.level) [] :=
 Sp.of (fn := Tryz.f197) rfl rfl 3 [] .nil (by kernel_rfl) (by kernel_rfl)
def lgt (l : List Pg) : Nat → Int × Int
 | 0 => (0, 0)
 | i + 1 => (bif decide (((i : Nat) : Int) = 0) then ((i : Nat) : Int) else bif decide ((l.getD i ePg0).b.level < (lgt l i).2) then ((i : Nat) : Int) else (lgt l i).1,
   bif decide (((i : Nat) : Int) = 0) then (l.getD i ePg0).b.level else bif decide ((l.getD i ePg0).b.level < (lgt l i).2) then (l.getD i ePg0).b.level else (lgt l i).2)
theorem lgt_b (l : List Pg) : ∀ i, 0 ≤ (lgt l i).1 ∧ ((lgt l i).1 < ((i : Nat) : Int) ∨ i = 0)
 | 0 => ⟨Int.le_refl _, .inr rfl⟩
 | i + 1 => by
  have h := lgt_b l i
  rw [lgt]
  simp only [Bool.cond_eq_ite, decide_eq_true_eq]
  split
  ·omega
  ·split <;> omega
theorem tlight (l : List Pg) (room : Int) (hl : l.length ≤ 100000) : Sp P 290 [.pt 0 0] [.ro (.blk [.sl 1, vi room, .fn (.func 197) [] []] 305), .ro (.row ePg l)] (vi (lgt l l.length).1) [.ro (.blk [.sl 1, vi room, .fn (.func 197) [] []] 305), .ro (.row ePg l)] :=
 Sp.of (fn := Tryz.f290) rfl rfl 4 [.id 0, .id 1] (.lp l.length 3 [] [] (fun i => [(13, vn i), (3, vi (lgt l i).1), (4, vi (lgt l i).2)]) (fun i => []) (fun i hi => (.t (show (decide (((i : Nat) : Int) < ((l.length : Nat) : Int))) = true from decide_eq_true (by omega)) (.cs 2 (decide (((i : Nat) : Int) = 0)) 3 [] [] (fun z => [(3, vi (bif z then ((i : Nat) : Int) else (bif (decide ((l.getD i ePg0).b.level < (lgt l i).2)) then ((i : Nat) : Int) else (lgt l i).1))), (4, vi (bif z then (l.getD i ePg0).b.level else (bif (decide ((l.getD i ePg0).b.level < (lgt l i).2)) then (l.getD i ePg0).b.level else (lgt l i).2))), (5, vn i), (7, vi (l.getD i ePg0).b.level), (15, vn i), (16, .pe 1 i 3 0), (17, .ag [vi (l.getD i ePg0).k, vi (l.getD i ePg0).b.level, vi (l.getD i ePg0).b.age]), (18, .pt 0 0), (19, .pt 0 0), (20, .pt 0 2), (21, .fn (.func 197) [] []), (23, .ag [vi (l.getD i ePg0).b.level, vi (l.getD i ePg0).b.age]), (24, vi (l.getD i ePg0).b.level), (25, vn i), (26, vt (decide (((i : Nat) : Int) = 0))), (27, vt (decide (((i : Nat) : Int) = 0))), (31, vt (bif z then true else (decide ((l.getD i ePg0).b.level < (lgt l i).2))))]) (fun z => []) (fun hq1 => (.ix (i := i) (m := l.length) (by omega) (.el (e := ePg) (gDx (l := l) (i := i) ePg0 (by omega)) (.c [] (tweight (l.getD i ePg0).b) (.t hq1 (.t hq1 (.t hq1 (.t hq1 (.y .nil))))))))) (fun hq1 => (.ix (i := i) (m := l.length) (by omega) (.el (e := ePg) (gDx (l := l) (i := i) ePg0 (by omega)) (.c [] (tweight (l.getD i ePg0).b) (.t hq1 (.t hq1 (.t hq1 (.t hq1 (.cs 0 (decide ((l.getD i ePg0).b.level < (lgt l i).2)) 5 [] [] (fun z => [(3, vi (bif z then ((i : Nat) : Int) else (lgt l i).1)), (4, vi (bif z then (l.getD i ePg0).b.level else (lgt l i).2))]) (fun z => []) (fun hq2 => (.t hq2 .nil)) (fun hq2 => (.t hq2 .nil)) .nil))))))))) (.e 34 (aAdd (a := ((i : Nat) : Int)) (b := 1) (c := ((i + 1 : Nat) : Int)) (by omega)) .nil)))) (.t (show (decide (((l.length : Nat) : Int) < ((l.length : Nat) : Int))) = false from decide_eq_false (by omega)) .nil)) (by kernel_rfl) (by kernel_rfl)
theorem tremove (l : List Pg) (room : Int) (i : Int) (hl : l.length ≤ 4096) (hr : 0 ≤ i ∧ i < ((l.length : Nat) : Int)) : Sp P 289 [.pt 0 0, vi i] [.blk [.sl 1, vi room, .fn (.func 197) [] []] 305, .row ePg l] (vi (l.getD i.toNat ePg0).k) [.blk [.sl 1, vi room, .fn (.func 197) [] []] 305, .row ePg (l.eraseIdx i.toNat)] :=
 Sp.of (fn := Tryz.f289) rfl rfl 3 [.id 0, .id 3] (.ix (n := i) (i := i.toNat) (m := l.length) (e := (by omega)) (by omega) (.el (e := ePg) (gDx (l := l) (i := i.toNat) ePg0 (by omega)) (.c [.id 1, .id 0] (del_pg l i (IntKind.i64.wrap (i + 1)) room (by first | assumption | omega) (by first | assumption | omega) (i64ok ⟨by omega, by omega⟩)) .nil))) (by kernel_rfl) (by kernel_rfl)
def tPut_l (l : List Pg) (room : Int) (k : Int) (b : Bk) : List Pg := bif decide (0 ≤ (tindex_v0 l k)) then (l.set (tindex_v0 l k).toNat (⟨(l.getD (tindex_v0 l k).toNat ePg0).k, b⟩ : Pg)) else (bif decide (((l.length : Nat) : Int) = room) then ((l.eraseIdx (lgt l l.length).1.toNat) ++ [(⟨k, b⟩ : Pg)]) else (l ++ [(⟨k, b⟩ : Pg)]))
def tPut_v0 (l : List Pg) (room : Int) (k : Int) (b : Bk) : Int := bif decide (0 ≤ (tindex_v0 l k)) then 0 else (bif decide (((l.length : Nat) : Int) = room) then (l.getD (lgt l l.length).1.toNat ePg0).k else 0)
def tPut_v1 (l : List Pg) (room : Int) (k : Int) (b : Bk) : Bool := bif decide (0 ≤ (tindex_v0 l k)) then false else (bif decide (((l.length : Nat) : Int) = room) then true else false)
theorem tPut (l : List Pg) (room : Int) (k : Int) (b : Bk) (hb : l.length ≤ 256 ∧ 1 ≤ room ∧ ((l.length : Nat) : Int) ≤ room) : Sp P 263 [.pt 0 0, vi k, .ag [vi b.level, vi b.age]] [.blk [.sl 1, vi room, .fn (.func 197) [] []] 305, .row ePg l] (.tu [vi (tPut_v0 l room k b), vt (tPut_v1 l room k b)]) [.blk [.sl 1, vi room, .fn (.func 197) [] []] 305, .row ePg (tPut_l l room k b)] := by
 generalize hd0 : tPut_l l room k b = zzhd0
 unfold tPut_l at hd0
 generalize hd1 : tPut_v0 l room k b = zzhd1
 unfold tPut_v0 at hd1
 generalize hd2 : tPut_v1 l room k b = zzhd2
 unfold tPut_v1 at hd2
 rcases bft (decide (0 ≤ (tindex_v0 l k))) with q1 | q1
 ·skip
  try rw [cpos q1] at hd0
  try rw [cpos q1] at hd1
  try rw [cpos q1] at hd2
  have q1' := of_decide_eq_true q1
  subst hd0 hd1 hd2
  exact Sp.of (fn := Tryz.f263) rfl rfl 4 [.id 0, .id 1] (.c [.id 0, .id 1] (tfind l room k (by first | assumption | omega)) (.t q1 (.ix (n := (tindex_v0 l k)) (i := (tindex_v0 l k).toNat) (m := l.length) (e := (by have hx := tkw_ix (l := l) (k := k) (by omega); omega)) (by have hx := tkw_ix (l := l) (k := k) (by omega); omega) (.el (e := ePg) (gDx (l := l) (i := (tindex_v0 l k).toNat) ePg0 (by have hx := tkw_ix (l := l) (k := k) (by omega); omega)) (.sw (e := ePg) (l := l) (i := (tindex_v0 l k).toNat) (a := (⟨(l.getD (tindex_v0 l k).toNat ePg0).k, b⟩ : Pg)) (by have hx := tkw_ix (l := l) (k := k) (by omega); omega) .nil))))) (by kernel_rfl) (by kernel_rfl)
 ·skip
  try rw [cneg q1] at hd0
  try rw [cneg q1] at hd1
  try rw [cneg q1] at hd2
  have q1' := of_decide_eq_false q1
  rcases bft (decide (((l.length : Nat) : Int) = room)) with q2 | q2
  ·skip
   try rw [cpos q2] at hd0
   try rw [cpos q2] at hd1
   try rw [cpos q2] at hd2
   have q2' := of_decide_eq_true q2
   subst hd0 hd1 hd2
   exact Sp.of (fn := Tryz.f263) rfl rfl 6 [.id 0, .id 5] (.c [.id 0, .id 1] (tfind l room k (by first | assumption | omega)) (.t q1 (.t q2 (.c [.id 0, .id 1] (tlight l room (by first | assumption | omega)) (.c [.id 0, .id 1] (tremove l room (lgt l l.length).1 (by first | assumption | omega) (by have := lgt_b l l.length; omega)) (.ap (e := ePg) (l := (l.eraseIdx (lgt l l.length).1.toNat)) (l' := [(⟨k, b⟩ : Pg)]) .row (.flat [vi k, vi b.level, vi b.age] [(⟨k, b⟩ : Pg)] rfl) (by rw [List.length_eraseIdx]; simp only [List.length_cons, List.length_nil]; split <;> omega) .nil)))))) (by kernel_rfl) (by kernel_rfl)
  ·skip
   try rw [cneg q2] at hd0
   try rw [cneg q2] at hd1
   try rw [cneg q2] at hd2
   have q2' := of_decide_eq_false q2
   subst hd0 hd1 hd2
   exact Sp.of (fn := Tryz.f263) rfl rfl 6 [.id 0, .id 5] (.c [.id 0, .id 1] (tfind l room k (by first | assumption | omega)) (.t q1 (.t q2 (.ap (e := ePg) (l := l) (l' := [(⟨k, b⟩ : Pg)]) .row (.flat [vi k, vi b.level, vi b.age] [(⟨k, b⟩ : Pg)] rfl) (by simp only [List.length_cons, List.length_nil]; omega) .nil)))) (by kernel_rfl) (by kernel_rfl)
def tDrop_l (l : List Pg) (room : Int) (k : Int) : List Pg := bif decide ((tindex_v0 l k) < 0) then l else (l.eraseIdx (tindex_v0 l k).toNat)
def tDrop_v0 (l : List Pg) (room : Int) (k : Int) : Bool := bif decide ((tindex_v0 l k) < 0) then false else true
theorem tDrop (l : List Pg) (room : Int) (k : Int) (hb : l.length ≤ 256 ∧ 1 ≤ room ∧ ((l.length : Nat) : Int) ≤ room) : Sp P 297 [.pt 0 0, vi k] [.blk [.sl 1, vi room, .fn (.func 197) [] []] 305, .row ePg l] (vt (tDrop_v0 l room k)) [.blk [.sl 1, vi room, .fn (.func 197) [] []] 305, .row ePg (tDrop_l l room k)] := by
 generalize hd0 : tDrop_l l room k = zzhd0
 unfold tDrop_l at hd0
 generalize hd1 : tDrop_v0 l room k = zzhd1
 unfold tDrop_v0 at hd1
 rcases bft (decide ((tindex_v0 l k) < 0)) with q1 | q1
 ·skip
  try rw [cpos q1] at hd0
  try rw [cpos q1] at hd1
  have q1' := of_decide_eq_true q1
  subst hd0 hd1
  exact Sp.of (fn := Tryz.f297) rfl rfl 3 [.id 0, .id 1] (.c [.id 0, .id 1] (tfind l room k (by first | assumption | omega)) (.t q1 .nil)) (by kernel_rfl) (by kernel_rfl)
 ·skip
  try rw [cneg q1] at hd0
  try rw [cneg q1] at hd1
  have q1' := of_decide_eq_false q1
  subst hd0 hd1
  exact Sp.of (fn := Tryz.f297) rfl rfl 3 [.id 0, .id 1] (.c [.id 0, .id 1] (tfind l room k (by first | assumption | omega)) (.t q1 (.c [.id 0, .id 1] (tremove l room (tindex_v0 l k) (by first | assumption | omega) (tkw_ix (by omega))) .nil))) (by kernel_rfl) (by kernel_rfl)
theorem ttick1 (k : Int) (b : Bk) (r : Rls)  : Sp P 233 [vi k, .ag [vi b.level, vi b.age], .pt 0 0] [.ro (.blk [.pt 1 0] 158), .ro (.blk [vi r.rank.limit, vi r.rank.every, vi r.page.limit, vi r.page.every, vi r.room, vi r.heavy, .sl 2, .pt 3 0] 244), .ro (.gone), .ro (.gone)] (.ag [vi (bkTicks_v0 b r.page 1), vi (bkTicks_v1 b r.page 1)]) [.ro (.blk [.pt 1 0] 158), .ro (.blk [vi r.rank.limit, vi r.rank.every, vi r.page.limit, vi r.page.every, vi r.room, vi r.heavy, .sl 2, .pt 3 0] 244), .ro (.gone), .ro (.gone)] :=
 Sp.of (fn := Tryz.f233) rfl rfl 6 [.id 0, .id 1, .id 2, .id 3] (.c [] (bkTick b r.page) .nil) (by kernel_rfl) (by kernel_rfl)
def updL (r : Rls) (l : List Pg) : Nat → List Pg
 | 0 => l
 | i + 1 => (updL r l i).set i ⟨((updL r l i).getD i ePg0).k, ⟨bkTicks_v0 ((updL r l i).getD i ePg0).b r.page 1, bkTicks_v1 ((updL r l i).getD i ePg0).b r.page 1⟩⟩
theorem updL_len (r : Rls) (l : List Pg) : ∀ i, (updL r l i).length = l.length
 | 0 => rfl
 | i + 1 => by rw [updL, List.length_set, updL_len r l i]
theorem tUpdate (l : List Pg) (room : Int) (r : Rls) (hl : l.length ≤ 100000) : Sp P 232 [.pt 0 0, .fn (.func 233) [] [.pt 2 0]] [.blk [.sl 1, vi room, .fn (.func 197) [] []] 305, .row ePg l, .ro (.blk [.pt 3 0] 158), .ro (.blk [vi r.rank.limit, vi r.rank.every, vi r.page.limit, vi r.page.every, vi r.room, vi r.heavy, .sl 4, .pt 0 0] 244), .ro (.gone)] (.tu []) [.blk [.sl 1, vi room, .fn (.func 197) [] []] 305, .row ePg (updL r l l.length), .ro (.blk [.pt 3 0] 158), .ro (.blk [vi r.rank.limit, vi r.rank.every, vi r.page.limit, vi r.page.every, vi r.room, vi r.heavy, .sl 4, .pt 0 0] 244), .ro (.gone)] :=
 Sp.of (fn := Tryz.f232) rfl rfl 5 [.id 0, .id 1, .id 2, .id 3, .id 4] (.lp l.length 6 [] [] (fun i => [(11, vn i)]) (fun i => [(1, .row ePg (updL r l i))]) (fun i hi => (.t (show (decide (((i : Nat) : Int) < ((l.length : Nat) : Int))) = true from decide_eq_true (by omega)) (.ix (i := i) (m := (updL r l i).length) (by have hu := updL_len r l i; omega) (.el (e := ePg) (gDx (l := updL r l i) (i := i) ePg0 (by have hu := updL_len r l i; omega)) (.c [.id 2, .id 3, .id 4, .id 0] (ttick1 ((updL r l i).getD i ePg0).k ((updL r l i).getD i ePg0).b r) (.ix (i := i) (m := (updL r l i).length) (by have hu := updL_len r l i; omega) (.el (e := ePg) (gDx (l := updL r l i) (i := i) ePg0 (by have hu := updL_len r l i; omega)) (.sw (e := ePg) (l := updL r l i) (i := i) (a := (⟨((updL r l i).getD i ePg0).k, (⟨bkTicks_v0 ((updL r l i).getD i ePg0).b r.page 1, bkTicks_v1 ((updL r l i).getD i ePg0).b r.page 1⟩ : Bk)⟩ : Pg)) (by have hu := updL_len r l i; omega) (.e 29 (aAdd (a := ((i : Nat) : Int)) (b := 1) (c := ((i + 1 : Nat) : Int)) (by omega)) .nil))))))))) (.t (show (decide (((l.length : Nat) : Int) < ((l.length : Nat) : Int))) = false from decide_eq_false (by omega)) .nil)) (by kernel_rfl) (by kernel_rfl)
end Go.Proofs.YtghfannbcopjmaaGreat
