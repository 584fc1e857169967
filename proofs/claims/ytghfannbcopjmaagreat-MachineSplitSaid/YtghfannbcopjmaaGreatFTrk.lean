import Derived.Test.YtghfannbcopjmaaGreatFTab
import Derived.Test.YtghfannbcopjmaaGreatFSt
import Derived.Test.YtghfannbcopjmaaGreatFBkt
namespace Go.Proofs.YtghfannbcopjmaaGreat
open Go Go.RowKit
set_option linter.unusedVariables false
set_option linter.unusedSimpArgs false
set_option maxRecDepth 100000
structure TrkOk (s : TrkS) : Prop where
 pg : s.pages.length ≤ 256 ∧ 1 ≤ s.r.room ∧ ((s.pages.length : Nat) : Int) ≤ s.r.room
 rk : s.ranks.length ≤ 8
def rulesRight_v0 (r : Rls) : Bool := bif (rlRight_v0 r.rank) then (bif (rlRight_v0 r.page) then (bif decide (1 ≤ r.room) then (bif decide (r.room ≤ 256) then (bif decide (1 ≤ r.heavy) then (decide (r.heavy ≤ 65536)) else false) else false) else false) else false) else false
theorem rulesRight (r : Rls)  : Sp P 107 [.ag [vi r.rank.limit, vi r.rank.every, vi r.page.limit, vi r.page.every, vi r.room, vi r.heavy]] [] (vt (rulesRight_v0 r)) [] := by
 generalize hd0 : rulesRight_v0 r = zzhd0
 unfold rulesRight_v0 at hd0
 rcases bft (rlRight_v0 r.rank) with q1 | q1
 ·skip
  try rw [cpos q1] at hd0
  rcases bft (rlRight_v0 r.page) with q2 | q2
  ·skip
   try rw [cpos q2] at hd0
   rcases bft (decide (1 ≤ r.room)) with q3 | q3
   ·skip
    try rw [cpos q3] at hd0
    have q3' := of_decide_eq_true q3
    rcases bft (decide (r.room ≤ 256)) with q4 | q4
    ·skip
     try rw [cpos q4] at hd0
     have q4' := of_decide_eq_true q4
     rcases bft (decide (1 ≤ r.heavy)) with q5 | q5
     ·skip
      try rw [cpos q5] at hd0
      have q5' := of_decide_eq_true q5
      subst hd0
      exact Sp.of (fn := Tryz.f107) rfl rfl 3 [] (.c [] (rlRight r.rank) (.t q1 (.t q1 (.t q1 (.c [] (rlRight r.page) (.t q1 (.t q2 (.t q2 (.t q2 (.t q2 (.t q3 (.t q3 (.t q3 (.t q3 (.t q4 (.t q4 (.t q4 (.t q4 (.t q5 (.t q5 (.t q5 (.t q5 .nil)))))))))))))))))))))) (by kernel_rfl) (by kernel_rfl)
     ·skip
      try rw [cneg q5] at hd0
      have q5' := of_decide_eq_false q5
      subst hd0
      exact Sp.of (fn := Tryz.f107) rfl rfl 3 [] (.c [] (rlRight r.rank) (.t q1 (.t q1 (.t q1 (.c [] (rlRight r.page) (.t q1 (.t q2 (.t q2 (.t q2 (.t q2 (.t q3 (.t q3 (.t q3 (.t q3 (.t q4 (.t q4 (.t q4 (.t q4 (.t q5 (.t q5 (.t q5 (.t q5 .nil)))))))))))))))))))))) (by kernel_rfl) (by kernel_rfl)
    ·skip
     try rw [cneg q4] at hd0
     have q4' := of_decide_eq_false q4
     subst hd0
     exact Sp.of (fn := Tryz.f107) rfl rfl 3 [] (.c [] (rlRight r.rank) (.t q1 (.t q1 (.t q1 (.c [] (rlRight r.page) (.t q1 (.t q2 (.t q2 (.t q2 (.t q2 (.t q3 (.t q3 (.t q3 (.t q3 (.t q4 (.t q4 (.t q4 (.t q4 (.n (.n (.n (.n .nil)))))))))))))))))))))) (by kernel_rfl) (by kernel_rfl)
   ·skip
    try rw [cneg q3] at hd0
    have q3' := of_decide_eq_false q3
    subst hd0
    exact Sp.of (fn := Tryz.f107) rfl rfl 3 [] (.c [] (rlRight r.rank) (.t q1 (.t q1 (.t q1 (.c [] (rlRight r.page) (.t q1 (.t q2 (.t q2 (.t q2 (.t q2 (.t q3 (.t q3 (.t q3 (.t q3 (.n (.n (.n (.n (.n (.n (.n (.n .nil)))))))))))))))))))))) (by kernel_rfl) (by kernel_rfl)
  ·skip
   try rw [cneg q2] at hd0
   subst hd0
   exact Sp.of (fn := Tryz.f107) rfl rfl 3 [] (.c [] (rlRight r.rank) (.t q1 (.t q1 (.t q1 (.c [] (rlRight r.page) (.t q1 (.t q2 (.t q2 (.t q2 (.t q2 (.n (.n (.n (.n (.n (.n (.n (.n (.n (.n (.n (.n .nil)))))))))))))))))))))) (by kernel_rfl) (by kernel_rfl)
 ·skip
  try rw [cneg q1] at hd0
  subst hd0
  exact Sp.of (fn := Tryz.f107) rfl rfl 3 [] (.c [] (rlRight r.rank) (.t q1 (.t q1 (.t q1 (.t q1 (.n (.n (.n (.n (.n (.n (.n (.n (.n (.n (.n (.n (.n (.n (.n (.n .nil))))))))))))))))))))) (by kernel_rfl) (by kernel_rfl)
def khas_v0 (s : TrkS) (k : Int) : Bool := bif decide (0 ≤ k) then (decide (k < ((s.ranks.length : Nat) : Int))) else false
theorem khas (s : TrkS) (k : Int)  : Sp P 144 [.pt 0 0, vi k] (ros (bTrk s 0)) (vt (khas_v0 s k)) (ros (bTrk s 0)) := by
 generalize hd0 : khas_v0 s k = zzhd0
 unfold khas_v0 at hd0
 rcases bft (decide (0 ≤ k)) with q1 | q1
 ·skip
  try rw [cpos q1] at hd0
  have q1' := of_decide_eq_true q1
  subst hd0
  exact Sp.of (fn := Tryz.f144) rfl rfl 3 [.id 0, .id 1, .id 2, .id 3] (.t q1 (.t q1 (.t q1 (.t q1 (.t q1 (.t q1 (.t q1 (.t q1 .nil)))))))) (by kernel_rfl) (by kernel_rfl)
 ·skip
  try rw [cneg q1] at hd0
  have q1' := of_decide_eq_false q1
  subst hd0
  exact Sp.of (fn := Tryz.f144) rfl rfl 3 [.id 0, .id 1, .id 2, .id 3] (.t q1 (.t q1 (.t q1 (.t q1 (.t q1 (.t q1 (.t q1 (.t q1 .nil)))))))) (by kernel_rfl) (by kernel_rfl)
theorem khas_t {s : TrkS} {k : Int} (h : khas_v0 s k = true) : 0 ≤ k ∧ k < ((s.ranks.length : Nat) : Int) := by
 unfold khas_v0 at h; revert h; cases q : decide (0 ≤ k) <;> simp_all
def kNote_s (s : TrkS) (k : Int) (g : Int) (n : Int) : TrkS := bif (khas_v0 s k) then (bif decide (n < 0) then s else (⟨s.r, (s.ranks.set k.toNat (⟨bkFill_v0 (s.ranks.getD k.toNat eBk0) s.r.rank n, (s.ranks.getD k.toNat eBk0).age⟩ : Bk)), (tPut_l s.pages s.r.room g (⟨(bkFill_v0 (⟨tGet_v0 s.pages s.r.room g, tGet_v1 s.pages s.r.room g⟩ : Bk) s.r.page n), tGet_v1 s.pages s.r.room g⟩ : Bk))⟩ : TrkS)) else s
def kNote_v0 (s : TrkS) (k : Int) (g : Int) (n : Int) : Bool := bif (khas_v0 s k) then (bif decide (n < 0) then false else (bkFill_v1 (s.ranks.getD k.toNat eBk0) s.r.rank n)) else false
def kNote_v1 (s : TrkS) (k : Int) (g : Int) (n : Int) : Bool := bif (khas_v0 s k) then (bif decide (n < 0) then false else (bkFill_v1 (⟨tGet_v0 s.pages s.r.room g, tGet_v1 s.pages s.r.room g⟩ : Bk) s.r.page n)) else false
def kNote_v2 (s : TrkS) (k : Int) (g : Int) (n : Int) : Nat := bif (khas_v0 s k) then (bif decide (n < 0) then 12 else 0) else 12
theorem kNote (s : TrkS) (k : Int) (g : Int) (n : Int) (ok : TrkOk s) : Sp P 229 [.pt 0 0, vi k, vi g, vi n] (bTrk s 0) (.tu [.ag [vt (kNote_v0 s k g n), vt (kNote_v1 s k g n)], vn (kNote_v2 s k g n)]) (bTrk (kNote_s s k g n) 0) := by
 generalize hd0 : kNote_s s k g n = zzhd0
 unfold kNote_s at hd0
 generalize hd1 : kNote_v0 s k g n = zzhd1
 unfold kNote_v0 at hd1
 generalize hd2 : kNote_v1 s k g n = zzhd2
 unfold kNote_v1 at hd2
 generalize hd3 : kNote_v2 s k g n = zzhd3
 unfold kNote_v2 at hd3
 rcases bft (khas_v0 s k) with q1 | q1
 ·skip
  try rw [cpos q1] at hd0
  try rw [cpos q1] at hd1
  try rw [cpos q1] at hd2
  try rw [cpos q1] at hd3
  have q1' := khas_t q1
  rcases bft (decide (n < 0)) with q2 | q2
  ·skip
   try rw [cpos q2] at hd0
   try rw [cpos q2] at hd1
   try rw [cpos q2] at hd2
   try rw [cpos q2] at hd3
   have q2' := of_decide_eq_true q2
   subst hd0 hd1 hd2 hd3
   exact Sp.of (fn := Tryz.f229) rfl rfl 3 [.id 0, .id 1, .id 2, .id 3] (.c [.id 0, .id 1, .id 2, .id 3] (khas s k) (.g q1 (.g q1 (.g q1 (.t q2 .nil))))) (by kernel_rfl) (by kernel_rfl)
  ·skip
   try rw [cneg q2] at hd0
   try rw [cneg q2] at hd1
   try rw [cneg q2] at hd2
   try rw [cneg q2] at hd3
   have q2' := of_decide_eq_false q2
   subst hd0 hd1 hd2 hd3
   exact Sp.of (fn := Tryz.f229) rfl rfl 12 [.id 0, .id 1, .id 2, .id 3] (.c [.id 0, .id 1, .id 2, .id 3] (khas s k) (.g q1 (.g q1 (.g q1 (.t q2 (.ix (n := k) (i := k.toNat) (m := s.ranks.length) (e := (by omega)) (by omega) (.el (e := eBk) (gDx (l := s.ranks) (i := k.toNat) eBk0 (by omega)) (.c [] (bkFill (s.ranks.getD k.toNat eBk0) s.r.rank n) (.ix (n := k) (i := k.toNat) (m := s.ranks.length) (e := (by omega)) (by omega) (.sw (e := eBk) (l := s.ranks) (i := k.toNat) (a := (⟨bkFill_v0 (s.ranks.getD k.toNat eBk0) s.r.rank n, (s.ranks.getD k.toNat eBk0).age⟩ : Bk)) (by omega) (.c [.id 2, .id 3] (tGet s.pages s.r.room g (Nat.le_trans ok.pg.1 (by decide))) (.c [] (bkFill (⟨tGet_v0 s.pages s.r.room g, tGet_v1 s.pages s.r.room g⟩ : Bk) s.r.page n) (.c [.id 2, .id 3] (tPut s.pages s.r.room g (⟨(bkFill_v0 (⟨tGet_v0 s.pages s.r.room g, tGet_v1 s.pages s.r.room g⟩ : Bk) s.r.page n), tGet_v1 s.pages s.r.room g⟩ : Bk) ok.pg) .nil))))))))))))) (by kernel_rfl) (by kernel_rfl)
 ·skip
  try rw [cneg q1] at hd0
  try rw [cneg q1] at hd1
  try rw [cneg q1] at hd2
  try rw [cneg q1] at hd3
  subst hd0 hd1 hd2 hd3
  exact Sp.of (fn := Tryz.f229) rfl rfl 3 [.id 0, .id 1, .id 2, .id 3] (.c [.id 0, .id 1, .id 2, .id 3] (khas s k) (.g q1 (.g q1 (.g q1 (.y .nil))))) (by kernel_rfl) (by kernel_rfl)
def kReset_s (s : TrkS) (k : Int) : TrkS := bif (khas_v0 s k) then { s with ranks := s.ranks.set k.toNat (⟨0, 0⟩ : Bk) } else s
theorem kReset (s : TrkS) (k : Int)  : Sp P 274 [.pt 0 0, vi k] (bTrk s 0) (.tu []) (bTrk (kReset_s s k) 0) := by
 generalize hd0 : kReset_s s k = zzhd0
 unfold kReset_s at hd0
 rcases bft (khas_v0 s k) with q1 | q1
 ·skip
  try rw [cpos q1] at hd0
  have q1' := khas_t q1
  subst hd0
  exact Sp.of (fn := Tryz.f274) rfl rfl 3 [.id 0, .id 1, .id 2, .id 3] (.c [.id 0, .id 1, .id 2, .id 3] (khas s k) (.t q1 (.ix (n := k) (i := k.toNat) (m := s.ranks.length) (e := (by omega)) (by omega) (.sw (e := eBk) (l := s.ranks) (i := k.toNat) (a := (⟨0, 0⟩ : Bk)) (by omega) .nil)))) (by kernel_rfl) (by kernel_rfl)
 ·skip
  try rw [cneg q1] at hd0
  subst hd0
  exact Sp.of (fn := Tryz.f274) rfl rfl 3 [.id 0, .id 1, .id 2, .id 3] (.c [.id 0, .id 1, .id 2, .id 3] (khas s k) (.t q1 .nil)) (by kernel_rfl) (by kernel_rfl)
def kDrop_s (s : TrkS) (k : Int) : TrkS := { s with pages := tDrop_l s.pages s.r.room k }
theorem kDrop (s : TrkS) (k : Int) (ok : TrkOk s) : Sp P 273 [.pt 0 0, vi k] (bTrk s 0) (.tu []) (bTrk (kDrop_s s k) 0) :=
 Sp.of (fn := Tryz.f273) rfl rfl 3 [.id 0, .id 1, .id 2, .id 3] (.c [.id 2, .id 3] (tDrop s.pages s.r.room k ok.pg) .nil) (by kernel_rfl) (by kernel_rfl)
def rkT (r : Rls) (l : List Bk) : Nat → List Bk
 | 0 => l
 | i + 1 => (rkT r l i).set i ⟨bkTicks_v0 ((rkT r l i).getD i eBk0) r.rank 1, bkTicks_v1 ((rkT r l i).getD i eBk0) r.rank 1⟩
theorem rkT_len (r : Rls) (l : List Bk) : ∀ i, (rkT r l i).length = l.length
 | 0 => rfl
 | i + 1 => by rw [rkT, List.length_set, rkT_len r l i]
def kTick_s (s : TrkS) : TrkS := (⟨s.r, rkT s.r s.ranks s.ranks.length, updL s.r s.pages s.pages.length⟩ : TrkS)
theorem kTick (s : TrkS) (ok : TrkOk s) : Sp P 181 [.pt 0 0] (bTrk s 0) (.tu []) (bTrk (kTick_s s) 0) := by
 have hk := ok.rk
 generalize hd0 : kTick_s s = zzhd0
 unfold kTick_s at hd0
 subst hd0
 exact Sp.of (fn := Tryz.f181) rfl rfl 6 [.id 0, .id 1, .id 2, .id 3] (.lp s.ranks.length 6 [] [] (fun i => [(9, vn i)]) (fun i => [(1, .row eBk (rkT s.r s.ranks i))]) (fun i hi => (.t (show (decide (((i : Nat) : Int) < ((s.ranks.length : Nat) : Int))) = true from decide_eq_true (by omega)) (.ix (i := i) (m := (rkT s.r s.ranks i).length) (by have hu := rkT_len s.r s.ranks i; omega) (.el (e := eBk) (gDx (l := rkT s.r s.ranks i) (i := i) eBk0 (by have hu := rkT_len s.r s.ranks i; omega)) (.c [] (bkTick ((rkT s.r s.ranks i).getD i eBk0) s.r.rank) (.ix (i := i) (m := (rkT s.r s.ranks i).length) (by have hu := rkT_len s.r s.ranks i; omega) (.sw (e := eBk) (l := rkT s.r s.ranks i) (i := i) (a := (⟨bkTicks_v0 ((rkT s.r s.ranks i).getD i eBk0) s.r.rank 1, bkTicks_v1 ((rkT s.r s.ranks i).getD i eBk0) s.r.rank 1⟩ : Bk)) (by have hu := rkT_len s.r s.ranks i; omega) (.e 27 (aAdd (a := ((i : Nat) : Int)) (b := 1) (c := ((i + 1 : Nat) : Int)) (by omega)) .nil)))))))) (.t (show (decide (((s.ranks.length : Nat) : Int) < ((s.ranks.length : Nat) : Int))) = false from decide_eq_false (by omega)) (.c [.id 2, .id 3, .id 5, .id 0, .id 1] (tUpdate s.pages s.r.room s.r (Nat.le_trans ok.pg.1 (by decide))) .nil))) (by kernel_rfl) (by kernel_rfl)
end Go.Proofs.YtghfannbcopjmaaGreat
