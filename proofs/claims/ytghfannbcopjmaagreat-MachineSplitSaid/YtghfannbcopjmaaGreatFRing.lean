import Derived.Test.YtghfannbcopjmaaGreatFSt
namespace Go.Proofs.YtghfannbcopjmaaGreat
open Go Go.RowKit
set_option linter.unusedVariables false
set_option linter.unusedSimpArgs false
set_option maxRecDepth 100000
structure RgOk (s : RgS) : Prop where
 len : s.l.length = 256
 at0 : 0 ≤ s.at' ∧ s.at' < 256
 n0 : 0 ≤ s.n ∧ s.n ≤ 256
theorem RgOk.ne {s : RgS} (h : RgOk s) : ((s.l.length : Nat) : Int) ≠ 0 := by have := h.len; omega
def akEq (a b : Ak) : Bool := decide (a.kind = b.kind) && (decide (a.which = b.which) && true)
def rplace_v0 (s : RgS) (i : Int) : Int := (IntKind.i64.wrap (s.at' + i)).tmod ((s.l.length : Nat) : Int)
theorem rplace (s : RgS) (i : Int) (ok : RgOk s) : Sp P 311 [.pt 0 0, vi i] (ros (bRing s 0)) (vi (rplace_v0 s i)) (ros (bRing s 0)) :=
 Sp.of (fn := Tryz.f311) rfl rfl 3 [.id 0, .id 1] (.p 16 (pRemI (IntKind.i64.wrap (s.at' + i)) ((s.l.length : Nat) : Int) (ok.ne)) .nil) (by kernel_rfl) (by kernel_rfl)
theorem rplace_b {s : RgS} (h : RgOk s) {i : Int} (hi : 0 ≤ i ∧ i ≤ 256) : 0 ≤ rplace_v0 s i ∧ rplace_v0 s i < ((s.l.length : Nat) : Int) := by
 have := h.at0; have := h.len
 have e : IntKind.i64.wrap (s.at' + i) = s.at' + i := i64ok ⟨by omega, by omega⟩
 unfold rplace_v0
 rw [e, this, Int.tmod_eq_emod_of_nonneg (by omega)]
 omega
def rpush_s (s : RgS) (x : Ak) : RgS := bif decide (s.n = ((s.l.length : Nat) : Int)) then s else (⟨s.l.set (rplace_v0 s s.n).toNat x, s.at', IntKind.i64.wrap (s.n + 1)⟩ : RgS)
def rpush_v0 (s : RgS) (x : Ak) : Nat := bif decide (s.n = ((s.l.length : Nat) : Int)) then 14 else 0
theorem rpush (s : RgS) (x : Ak) (ok : RgOk s) : Sp P 295 [.pt 0 0, .ag [vi x.kind, vi x.which]] (bRing s 0) (vn (rpush_v0 s x)) (bRing (rpush_s s x) 0) := by
 have hp := rplace_b ok (i := s.n) ok.n0
 generalize hd0 : rpush_s s x = zzhd0
 unfold rpush_s at hd0
 generalize hd1 : rpush_v0 s x = zzhd1
 unfold rpush_v0 at hd1
 rcases bft (decide (s.n = ((s.l.length : Nat) : Int))) with q1 | q1
 ·skip
  try rw [cpos q1] at hd0
  try rw [cpos q1] at hd1
  have q1' := of_decide_eq_true q1
  subst hd0 hd1
  exact Sp.of (fn := Tryz.f295) rfl rfl 3 [.id 0, .id 1] (.t q1 .nil) (by kernel_rfl) (by kernel_rfl)
 ·skip
  try rw [cneg q1] at hd0
  try rw [cneg q1] at hd1
  have q1' := of_decide_eq_false q1
  subst hd0 hd1
  exact Sp.of (fn := Tryz.f295) rfl rfl 5 [.id 0, .id 1] (.t q1 (.c [.id 0, .id 1] (rplace s s.n (by first | assumption | omega)) (.ix (n := (rplace_v0 s s.n)) (i := (rplace_v0 s s.n).toNat) (m := s.l.length) (e := (by omega)) (by omega) (.sw (e := eAk) (l := s.l) (i := (rplace_v0 s s.n).toNat) (a := x) (by omega) .nil)))) (by kernel_rfl) (by kernel_rfl)
def rwhere (s : RgS) (x : Ak) : Nat := ff (fun i => akEq x (s.l.getD (rplace_v0 s ((i : Nat) : Int)).toNat eAk0)) s.n.toNat
theorem rwhere_at {s : RgS} {x : Ak} (h : ((rwhere s x : Nat) : Int) < s.n) : akEq x (s.l.getD (rplace_v0 s (((rwhere s x) : Nat) : Int)).toNat eAk0) = true := ff_at (p := fun i => akEq x (s.l.getD (rplace_v0 s ((i : Nat) : Int)).toNat eAk0)) (n := s.n.toNat) (show rwhere s x < s.n.toNat by omega)
theorem rall (s : RgS)  : Sp P 310 [.pt 0 0] (ros (bRing s 0)) (.fn (.func 315) [] [.pt 2 0]) (ros (bRing s 0) ++ [.blk [.pt 0 0] 220]) :=
 Sp.of (fn := Tryz.f310) rfl rfl 3 [.id 0, .id 1, .id 3] .nil (by kernel_rfl) (by kernel_rfl)
def rhas_v0 (s : RgS) (x : Ak) : Bool := bif decide ((((rwhere s x) : Nat) : Int) < s.n) then true else false
theorem rhas (s : RgS) (x : Ak) (ok : RgOk s) : Sp P 294 [.pt 0 0, .ag [vi x.kind, vi x.which]] (ros (bRing s 0)) (vt (rhas_v0 s x)) (ros (bRing s 0)) := by
 have hn := ok.n0
 have hw : rwhere s x ≤ s.n.toNat := ff_le _ _
 have hp : ∀ i : Nat, i < s.n.toNat → 0 ≤ rplace_v0 s ((i : Nat) : Int) ∧ rplace_v0 s ((i : Nat) : Int) < ((s.l.length : Nat) : Int) := fun i hi => rplace_b ok (by omega)
 generalize hd0 : rhas_v0 s x = zzhd0
 unfold rhas_v0 at hd0
 rcases bft (decide ((((rwhere s x) : Nat) : Int) < s.n)) with q1 | q1
 ·skip
  try rw [cpos q1] at hd0
  have q1' := of_decide_eq_true q1
  subst hd0
  exact Sp.of (fn := Tryz.f294) rfl rfl 9 [.id 0, .id 1] (.c [.id 0, .id 1] (rall s) (.lp (rwhere s x) 8 [] [] (fun i => [(8, vn i)]) (fun i => [(6, .lo .ready none)]) (fun i hi => (.t (show (decide (((i : Nat) : Int) < s.n)) = true from decide_eq_true (by omega)) (.c [.id 0, .id 1] (rplace s ((i : Nat) : Int) (by first | assumption | omega)) (.ix (n := (rplace_v0 s ((i : Nat) : Int))) (i := (rplace_v0 s ((i : Nat) : Int)).toNat) (m := s.l.length) (e := (by have := hp i (by omega); omega)) (by have := hp i (by omega); omega) (.el (e := eAk) (gDx (l := s.l) (i := (rplace_v0 s ((i : Nat) : Int)).toNat) eAk0 (by have := hp i (by omega); omega)) (.t (show ((decide (x.kind = (s.l.getD (rplace_v0 s ((i : Nat) : Int)).toNat eAk0).kind)) && ((decide (x.which = (s.l.getD (rplace_v0 s ((i : Nat) : Int)).toNat eAk0).which)) && true)) = false from ff_lt hi) (.n (.e 24 (aAdd (a := ((i : Nat) : Int)) (b := 1) (c := ((i + 1 : Nat) : Int)) (by omega)) .nil)))))))) (.t q1 (.c [.id 0, .id 1] (rplace s (((rwhere s x) : Nat) : Int) (by first | assumption | omega)) (.ix (n := (rplace_v0 s (((rwhere s x) : Nat) : Int))) (i := (rplace_v0 s (((rwhere s x) : Nat) : Int)).toNat) (m := s.l.length) (e := (by have := hp (rwhere s x) (by have := of_decide_eq_true q1; omega); omega)) (by have := hp (rwhere s x) (by have := of_decide_eq_true q1; omega); omega) (.el (e := eAk) (gDx (l := s.l) (i := (rplace_v0 s (((rwhere s x) : Nat) : Int)).toNat) eAk0 (by have := hp (rwhere s x) (by have := of_decide_eq_true q1; omega); omega)) (.t (show ((decide (x.kind = (s.l.getD (rplace_v0 s (((rwhere s x) : Nat) : Int)).toNat eAk0).kind)) && ((decide (x.which = (s.l.getD (rplace_v0 s (((rwhere s x) : Nat) : Int)).toNat eAk0).which)) && true)) = true from rwhere_at (of_decide_eq_true q1)) (.y .nil)))))))) (by kernel_rfl) (by kernel_rfl)
 ·skip
  try rw [cneg q1] at hd0
  have q1' := of_decide_eq_false q1
  subst hd0
  exact Sp.of (fn := Tryz.f294) rfl rfl 9 [.id 0, .id 1] (.c [.id 0, .id 1] (rall s) (.lp (rwhere s x) 8 [] [] (fun i => [(8, vn i)]) (fun i => [(6, .lo .ready none)]) (fun i hi => (.t (show (decide (((i : Nat) : Int) < s.n)) = true from decide_eq_true (by omega)) (.c [.id 0, .id 1] (rplace s ((i : Nat) : Int) (by first | assumption | omega)) (.ix (n := (rplace_v0 s ((i : Nat) : Int))) (i := (rplace_v0 s ((i : Nat) : Int)).toNat) (m := s.l.length) (e := (by have := hp i (by omega); omega)) (by have := hp i (by omega); omega) (.el (e := eAk) (gDx (l := s.l) (i := (rplace_v0 s ((i : Nat) : Int)).toNat) eAk0 (by have := hp i (by omega); omega)) (.t (show ((decide (x.kind = (s.l.getD (rplace_v0 s ((i : Nat) : Int)).toNat eAk0).kind)) && ((decide (x.which = (s.l.getD (rplace_v0 s ((i : Nat) : Int)).toNat eAk0).which)) && true)) = false from ff_lt hi) (.n (.e 24 (aAdd (a := ((i : Nat) : Int)) (b := 1) (c := ((i + 1 : Nat) : Int)) (by omega)) .nil)))))))) (.t q1 .nil))) (by kernel_rfl) (by kernel_rfl)
def ronce_s (s : RgS) (x : Ak) : RgS := bif (rhas_v0 s x) then s else (rpush_s s x)
def ronce_v0 (s : RgS) (x : Ak) : Nat := bif (rhas_v0 s x) then 15 else (rpush_v0 s x)
theorem ronce (s : RgS) (x : Ak) (ok : RgOk s) : Sp P 266 [.pt 0 0, .ag [vi x.kind, vi x.which]] (bRing s 0) (vn (ronce_v0 s x)) (bRing (ronce_s s x) 0) := by
 generalize hd0 : ronce_s s x = zzhd0
 unfold ronce_s at hd0
 generalize hd1 : ronce_v0 s x = zzhd1
 unfold ronce_v0 at hd1
 rcases bft (rhas_v0 s x) with q1 | q1
 ·skip
  try rw [cpos q1] at hd0
  try rw [cpos q1] at hd1
  subst hd0 hd1
  exact Sp.of (fn := Tryz.f266) rfl rfl 3 [.id 0, .id 1] (.c [.id 0, .id 1] (rhas s x (by first | assumption | omega)) (.t q1 .nil)) (by kernel_rfl) (by kernel_rfl)
 ·skip
  try rw [cneg q1] at hd0
  try rw [cneg q1] at hd1
  subst hd0 hd1
  exact Sp.of (fn := Tryz.f266) rfl rfl 3 [.id 0, .id 1] (.c [.id 0, .id 1] (rhas s x (by first | assumption | omega)) (.t q1 (.c [.id 0, .id 1] (rpush s x (by first | assumption | omega)) .nil))) (by kernel_rfl) (by kernel_rfl)
def rremove_s (s : RgS) : RgS := bif decide (s.n ≤ 0) then s else (⟨(s.l.set s.at'.toNat (⟨0, 0⟩ : Ak)), (rplace_v0 { s with l := s.l.set s.at'.toNat (⟨0, 0⟩ : Ak) } 1), IntKind.i64.wrap (s.n - 1)⟩ : RgS)
def rremove_v0 (s : RgS) : Int := bif decide (s.n ≤ 0) then 0 else (s.l.getD (rplace_v0 s 0).toNat eAk0).kind
def rremove_v1 (s : RgS) : Int := bif decide (s.n ≤ 0) then 0 else (s.l.getD (rplace_v0 s 0).toNat eAk0).which
def rremove_v2 (s : RgS) : Nat := bif decide (s.n ≤ 0) then 13 else 0
theorem rremove (s : RgS) (ok : RgOk s) : Sp P 296 [.pt 0 0, vn 0] (bRing s 0) (.tu [.ag [vi (rremove_v0 s), vi (rremove_v1 s)], vn (rremove_v2 s)]) (bRing (rremove_s s) 0) := by
 have h0 := rplace_b ok (i := 0) (by decide)
 have h1 := ok.at0
 have h2 := ok.len
 generalize hd0 : rremove_s s = zzhd0
 unfold rremove_s at hd0
 generalize hd1 : rremove_v0 s = zzhd1
 unfold rremove_v0 at hd1
 generalize hd2 : rremove_v1 s = zzhd2
 unfold rremove_v1 at hd2
 generalize hd3 : rremove_v2 s = zzhd3
 unfold rremove_v2 at hd3
 rcases bft (decide (s.n ≤ 0)) with q1 | q1
 ·skip
  try rw [cpos q1] at hd0
  try rw [cpos q1] at hd1
  try rw [cpos q1] at hd2
  try rw [cpos q1] at hd3
  have q1' := of_decide_eq_true q1
  subst hd0 hd1 hd2 hd3
  exact Sp.of (fn := Tryz.f296) rfl rfl 4 [.id 0, .id 1] (.n (.n (.n (.n (.n (.n (.n (.t q1 .nil)))))))) (by kernel_rfl) (by kernel_rfl)
 ·skip
  try rw [cneg q1] at hd0
  try rw [cneg q1] at hd1
  try rw [cneg q1] at hd2
  try rw [cneg q1] at hd3
  have q1' := of_decide_eq_false q1
  subst hd0 hd1 hd2 hd3
  exact Sp.of (fn := Tryz.f296) rfl rfl 8 [.id 0, .id 1] (.n (.n (.n (.n (.n (.n (.n (.t q1 (.c [.id 0, .id 1] (rplace s 0 (by first | assumption | omega)) (.ix (n := (rplace_v0 s 0)) (i := (rplace_v0 s 0).toNat) (m := s.l.length) (e := (by omega)) (by omega) (.el (e := eAk) (gDx (l := s.l) (i := (rplace_v0 s 0).toNat) eAk0 (by omega)) (.lu 0 (.n (.ix (n := s.at') (i := s.at'.toNat) (m := s.l.length) (e := (by omega)) (by omega) (.sw (e := eAk) (l := s.l) (i := s.at'.toNat) (a := (⟨0, 0⟩ : Ak)) (by omega) (.c [.id 0, .id 1] (rplace { s with l := s.l.set s.at'.toNat (⟨0, 0⟩ : Ak) } 1 (⟨by simp only [List.length_set]; exact ok.len, ok.at0, ok.n0⟩)) .nil)))))))))))))))) (by kernel_rfl) (by kernel_rfl)
theorem rpop (s : RgS) (ok : RgOk s) : Sp P 271 [.pt 0 0] (bRing s 0) (.tu [.ag [vi (rremove_v0 s), vi (rremove_v1 s)], vn (rremove_v2 s)]) (bRing (rremove_s s) 0) :=
 Sp.of (fn := Tryz.f271) rfl rfl 3 [.id 0, .id 1] (.c [.id 0, .id 1] (rremove s (by first | assumption | omega)) .nil) (by kernel_rfl) (by kernel_rfl)
theorem rpush_ok {s : RgS} {x : Ak} (h : RgOk s) : RgOk (rpush_s s x) := by
 obtain ⟨h1, h2, h3⟩ := h
 unfold rpush_s
 cases q : decide (s.n = ((s.l.length : Nat) : Int))
 ·have q' := of_decide_eq_false q
  refine ⟨by show (List.set _ _ _).length = 256; rw [List.length_set]; exact h1, h2, ?_⟩
  show 0 ≤ IntKind.i64.wrap (s.n + 1) ∧ IntKind.i64.wrap (s.n + 1) ≤ 256
  rw [show IntKind.i64.wrap (s.n + 1) = s.n + 1 from i64ok ⟨by omega, by omega⟩]; omega
 ·exact ⟨h1, h2, h3⟩
theorem rremove_ok {s : RgS} (h : RgOk s) : RgOk (rremove_s s) := by
 obtain ⟨h1, h2, h3⟩ := h
 unfold rremove_s
 cases q : decide (s.n ≤ 0)
 ·have q' := of_decide_eq_false q
  have hl : (s.l.set s.at'.toNat (⟨0, 0⟩ : Ak)).length = 256 := by rw [List.length_set]; exact h1
  have := rplace_b (s := { s with l := s.l.set s.at'.toNat (⟨0, 0⟩ : Ak) }) ⟨hl, h2, h3⟩ (i := 1) (by decide)
  refine ⟨hl, ⟨this.1, ?_⟩, ?_⟩
  ·have := this.2; rw [hl] at this; exact this
  ·show 0 ≤ IntKind.i64.wrap (s.n - 1) ∧ IntKind.i64.wrap (s.n - 1) ≤ 256
   rw [show IntKind.i64.wrap (s.n - 1) = s.n - 1 from i64ok ⟨by omega, by omega⟩]; omega
 ·exact ⟨h1, h2, h3⟩
theorem ronce_ok {s : RgS} {x : Ak} (h : RgOk s) : RgOk (ronce_s s x) := by
 unfold ronce_s; cases rhas_v0 s x
 ·exact rpush_ok h
 ·exact h
end Go.Proofs.YtghfannbcopjmaaGreat
