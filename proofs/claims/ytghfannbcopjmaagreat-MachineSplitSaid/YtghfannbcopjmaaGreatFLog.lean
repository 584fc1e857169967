import Derived.Test.YtghfannbcopjmaaGreatFDel
import Derived.Test.YtghfannbcopjmaaGreatFSt
namespace Go.Proofs.YtghfannbcopjmaaGreat
open Go Go.RowKit
set_option linter.unusedVariables false
set_option linter.unusedSimpArgs false
set_option maxRecDepth 100000
structure LogOk (s : LogS) : Prop where
 len : s.l.length ≤ 256
 room : 1 ≤ s.room ∧ ((s.l.length : Nat) : Int) ≤ s.room
theorem LogOk.le {s : LogS} (h : LogOk s) : s.l.length ≤ 100000 := by have := h.len; omega
theorem grave (x : Rec)  : Sp P 285 [.ag [vi x.seq, vi x.time, vi x.kind, vi x.index, vi x.info]] [] (vt (decide (x.kind = 2))) [] :=
 Sp.of (fn := Tryz.f285) rfl rfl 3 [] .nil (by kernel_rfl) (by kernel_rfl)
theorem light1 (x : Rec)  : Sp P 305 [.ag [vi x.seq, vi x.time, vi x.kind, vi x.index, vi x.info]] [] (vt (!(decide (x.kind = 2)))) [] :=
 Sp.of (fn := Tryz.f305) rfl rfl 3 [] (.c [] (grave x) .nil) (by kernel_rfl) (by kernel_rfl)
def lgw (l : List Rec) : Nat := ff (fun i => !decide ((l.getD i eRec0).kind = 2)) l.length
theorem lgw_at {l : List Rec} (h : ((lgw l : Nat) : Int) < ((l.length : Nat) : Int)) : decide ((l.getD (lgw l) eRec0).kind = 2) = false := by
 have h : (!decide ((l.getD (lgw l) eRec0).kind = 2)) = true := ff_at (p := fun i => !decide ((l.getD i eRec0).kind = 2)) (n := l.length) (show lgw l < l.length by omega)
 exact Eq.mp (Bool.not_eq_true' _) h
theorem lgw_lt {l : List Rec} {i : Nat} (h : i < lgw l) : decide ((l.getD i eRec0).kind = 2) = true := by
 have := ff_lt (p := fun i => !decide ((l.getD i eRec0).kind = 2)) h
 simpa using this
theorem lgw_le (l : List Rec) : lgw l ≤ l.length := ff_le _ _
def lindex_v0 (l : List Rec) : Int := bif decide ((((lgw l) : Nat) : Int) < ((l.length : Nat) : Int)) then (((lgw l) : Nat) : Int) else (-1)
theorem lindex (l : List Rec) (hl : l.length ≤ 100000) : Sp P 304 [.sl 0, .fn (.func 305) [] []] [.ro (.row eRec l)] (vi (lindex_v0 l)) [.ro (.row eRec l)] := by
 have hw := lgw_le l
 generalize hd0 : lindex_v0 l = zzhd0
 unfold lindex_v0 at hd0
 rcases bft (decide ((((lgw l) : Nat) : Int) < ((l.length : Nat) : Int))) with q1 | q1
 ·skip
  try rw [cpos q1] at hd0
  have q1' := of_decide_eq_true q1
  subst hd0
  exact Sp.of (fn := Tryz.f304) rfl rfl 3 [.id 0] (.lp (lgw l) 2 [] [] (fun i => [(8, vn i)]) (fun i => []) (fun i hi => (.t (show (decide (((i : Nat) : Int) < ((l.length : Nat) : Int))) = true from decide_eq_true (by omega)) (.ix (i := i) (m := l.length) (by omega) (.el (e := eRec) (gDx (l := l) (i := i) eRec0 (by omega)) (.c [] (light1 (l.getD i eRec0)) (.t (congrArg (!·) (show (decide ((l.getD i eRec0).kind = 2)) = true from lgw_lt hi)) (.e 18 (aAdd (a := ((i : Nat) : Int)) (b := 1) (c := ((i + 1 : Nat) : Int)) (by omega)) .nil))))))) (.t q1 (.ix (i := (lgw l)) (m := l.length) (by have hq := of_decide_eq_true q1; omega) (.el (e := eRec) (gDx (l := l) (i := (lgw l)) eRec0 (by have hq := of_decide_eq_true q1; omega)) (.c [] (light1 (l.getD (lgw l) eRec0)) (.t (congrArg (!·) (show (decide ((l.getD (lgw l) eRec0).kind = 2)) = false from lgw_at (of_decide_eq_true q1))) .nil)))))) (by kernel_rfl) (by kernel_rfl)
 ·skip
  try rw [cneg q1] at hd0
  have q1' := of_decide_eq_false q1
  subst hd0
  exact Sp.of (fn := Tryz.f304) rfl rfl 3 [.id 0] (.lp (lgw l) 2 [] [] (fun i => [(8, vn i)]) (fun i => []) (fun i hi => (.t (show (decide (((i : Nat) : Int) < ((l.length : Nat) : Int))) = true from decide_eq_true (by omega)) (.ix (i := i) (m := l.length) (by omega) (.el (e := eRec) (gDx (l := l) (i := i) eRec0 (by omega)) (.c [] (light1 (l.getD i eRec0)) (.t (congrArg (!·) (show (decide ((l.getD i eRec0).kind = 2)) = true from lgw_lt hi)) (.e 18 (aAdd (a := ((i : Nat) : Int)) (b := 1) (c := ((i + 1 : Nat) : Int)) (by omega)) .nil))))))) (.t q1 .nil)) (by kernel_rfl) (by kernel_rfl)
theorem lindex_ix {l : List Rec} (h : ¬ (lindex_v0 l < 0)) : 0 ≤ lindex_v0 l ∧ lindex_v0 l < ((l.length : Nat) : Int) := by
 unfold lindex_v0 at h ⊢
 cases q : decide (((lgw l : Nat) : Int) < ((l.length : Nat) : Int))
 ·rw [q] at h; exact absurd (show (-1 : Int) < 0 by decide) h
 ·have := of_decide_eq_true q
  exact ⟨Int.natCast_nonneg _, this⟩
theorem llight (s : LogS) (ok : LogOk s) : Sp P 284 [.pt 0 0] (ros (bLog s 0)) (vi (lindex_v0 s.l)) (ros (bLog s 0)) :=
 Sp.of (fn := Tryz.f284) rfl rfl 3 [.id 0, .id 1] (.c [.id 1] (lindex s.l ok.le) .nil) (by kernel_rfl) (by kernel_rfl)
def lAdd_s (s : LogS) (x : Rec) : LogS := bif decide (((s.l.length : Nat) : Int) = s.room) then (bif decide (x.kind = 2) then (bif decide ((lindex_v0 s.l) < 0) then (⟨s.l, s.room, IntKind.i64.wrap (s.next + 1), true⟩ : LogS) else (⟨(s.l.eraseIdx (lindex_v0 s.l).toNat) ++ [{ x with seq := s.next }], s.room, IntKind.i64.wrap (s.next + 1), true⟩ : LogS)) else (⟨s.l, s.room, IntKind.i64.wrap (s.next + 1), true⟩ : LogS)) else (⟨s.l ++ [{ x with seq := s.next }], s.room, IntKind.i64.wrap (s.next + 1), s.lost⟩ : LogS)
def lAdd_v0 (s : LogS) (x : Rec) : Bool := bif decide (((s.l.length : Nat) : Int) = s.room) then (bif decide (x.kind = 2) then (bif decide ((lindex_v0 s.l) < 0) then false else true) else false) else true
theorem lAdd (s : LogS) (x : Rec) (ok : LogOk s) : Sp P 260 [.pt 0 0, .ag [vi x.seq, vi x.time, vi x.kind, vi x.index, vi x.info]] (bLog s 0) (.tu [.ag [vi s.next, vi x.time, vi x.kind, vi x.index, vi x.info], vt (lAdd_v0 s x)]) (bLog (lAdd_s s x) 0) := by
 have h1 := ok.len
 have h2 := ok.room
 generalize hd0 : lAdd_s s x = zzhd0
 unfold lAdd_s at hd0
 generalize hd1 : lAdd_v0 s x = zzhd1
 unfold lAdd_v0 at hd1
 rcases bft (decide (((s.l.length : Nat) : Int) = s.room)) with q1 | q1
 ·skip
  try rw [cpos q1] at hd0
  try rw [cpos q1] at hd1
  have q1' := of_decide_eq_true q1
  rcases bft (decide (x.kind = 2)) with q2 | q2
  ·skip
   try rw [cpos q2] at hd0
   try rw [cpos q2] at hd1
   have q2' := of_decide_eq_true q2
   rcases bft (decide ((lindex_v0 s.l) < 0)) with q3 | q3
   ·skip
    try rw [cpos q3] at hd0
    try rw [cpos q3] at hd1
    have q3' := of_decide_eq_true q3
    subst hd0 hd1
    exact Sp.of (fn := Tryz.f260) rfl rfl 4 [.id 0, .id 1] (.t q1 (.c [.id 0, .id 1] (llight (⟨s.l, s.room, IntKind.i64.wrap (s.next + 1), true⟩ : LogS) (⟨ok.len, ok.room⟩)) (.c [] (grave { x with seq := s.next }) (.g q2 (.g q2 (.g q2 (.t q3 .nil))))))) (by kernel_rfl) (by kernel_rfl)
   ·skip
    try rw [cneg q3] at hd0
    try rw [cneg q3] at hd1
    have q3' := of_decide_eq_false q3
    subst hd0 hd1
    exact Sp.of (fn := Tryz.f260) rfl rfl 8 [.id 0, .id 7] (.t q1 (.c [.id 0, .id 1] (llight (⟨s.l, s.room, IntKind.i64.wrap (s.next + 1), true⟩ : LogS) (⟨ok.len, ok.room⟩)) (.c [] (grave { x with seq := s.next }) (.g q2 (.g q2 (.g q2 (.t q3 (.c [.id 1, .id 0] (del_rec s.l (lindex_v0 s.l) (IntKind.i64.wrap ((lindex_v0 s.l) + 1)) s.room (IntKind.i64.wrap (s.next + 1)) true (by first | assumption | omega) (lindex_ix (by omega)) (i64ok ⟨by have := lindex_ix (l := s.l) (by omega); omega, by have := lindex_ix (l := s.l) (by omega); omega⟩)) (.ap (e := eRec) (l := s.l.eraseIdx (lindex_v0 s.l).toNat) (l' := [{ x with seq := s.next }]) .row (.flat [vi s.next, vi x.time, vi x.kind, vi x.index, vi x.info] [{ x with seq := s.next }] rfl) (by rw [List.length_eraseIdx]; simp only [List.length_cons, List.length_nil]; split <;> omega) .nil))))))))) (by kernel_rfl) (by kernel_rfl)
  ·skip
   try rw [cneg q2] at hd0
   try rw [cneg q2] at hd1
   have q2' := of_decide_eq_false q2
   subst hd0 hd1
   exact Sp.of (fn := Tryz.f260) rfl rfl 4 [.id 0, .id 1] (.t q1 (.c [.id 0, .id 1] (llight (⟨s.l, s.room, IntKind.i64.wrap (s.next + 1), true⟩ : LogS) (⟨ok.len, ok.room⟩)) (.c [] (grave { x with seq := s.next }) (.g q2 (.g q2 (.g q2 (.y .nil))))))) (by kernel_rfl) (by kernel_rfl)
 ·skip
  try rw [cneg q1] at hd0
  try rw [cneg q1] at hd1
  have q1' := of_decide_eq_false q1
  subst hd0 hd1
  exact Sp.of (fn := Tryz.f260) rfl rfl 7 [.id 0, .id 6] (.t q1 (.ap (e := eRec) (l := s.l) (l' := [{ x with seq := s.next }]) .row (.flat [vi s.next, vi x.time, vi x.kind, vi x.index, vi x.info] [{ x with seq := s.next }] rfl) (by simp only [List.length_cons, List.length_nil]; omega) .nil)) (by kernel_rfl) (by kernel_rfl)
def lClear_s (s : LogS) : LogS := (⟨[], s.room, s.next, false⟩ : LogS)
theorem lClear (s : LogS)  : Sp P 184 [.pt 0 0] (bLog s 0) (vn s.l.length) (bLog (lClear_s s) 0) :=
 Sp.of (fn := Tryz.f184) rfl rfl 3 [.id 0, .nil] .nil (by kernel_rfl) (by kernel_rfl)
theorem lLen (s : LogS)  : Sp P 49 [.pt 0 0] (ros (bLog s 0)) (vn s.l.length) (ros (bLog s 0)) :=
 Sp.of (fn := Tryz.f49) rfl rfl 3 [.id 0, .id 1] .nil (by kernel_rfl) (by kernel_rfl)
theorem lAdd_ok {s : LogS} {x : Rec} (h : LogOk s) (hr : s.room ≤ 256) : LogOk (lAdd_s s x) := by
 obtain ⟨h1, h2⟩ := h
 unfold lAdd_s
 cases q1 : decide (((s.l.length : Nat) : Int) = s.room)
 ·have q := of_decide_eq_false q1
  exact ⟨by show (s.l ++ [_]).length ≤ 256; rw [List.length_append]; show s.l.length + 1 ≤ 256; omega, by show 1 ≤ s.room ∧ (((s.l ++ [_]).length : Nat) : Int) ≤ s.room; rw [List.length_append]; show 1 ≤ s.room ∧ ((s.l.length + 1 : Nat) : Int) ≤ s.room; omega⟩
 ·cases q2 : decide (x.kind = 2)
  ·exact ⟨h1, h2⟩
  ·cases q3 : decide (lindex_v0 s.l < 0)
   ·have q := of_decide_eq_false q3
    have hx := lindex_ix q
    have he : (s.l.eraseIdx (lindex_v0 s.l).toNat).length = s.l.length - 1 := by rw [List.length_eraseIdx, if_pos (by omega)]
    exact ⟨by show (s.l.eraseIdx _ ++ [_]).length ≤ 256; rw [List.length_append, he]; show s.l.length - 1 + 1 ≤ 256; omega, by show 1 ≤ s.room ∧ (((s.l.eraseIdx _ ++ [_]).length : Nat) : Int) ≤ s.room; rw [List.length_append, he]; show 1 ≤ s.room ∧ ((s.l.length - 1 + 1 : Nat) : Int) ≤ s.room; omega⟩
   ·exact ⟨h1, h2⟩
theorem lClear_ok {s : LogS} (h : LogOk s) : LogOk (lClear_s s) := ⟨Nat.zero_le _, by have := h.room; show 1 ≤ s.room ∧ ((0 : Nat) : Int) ≤ s.room; omega⟩
end Go.Proofs.YtghfannbcopjmaaGreat
