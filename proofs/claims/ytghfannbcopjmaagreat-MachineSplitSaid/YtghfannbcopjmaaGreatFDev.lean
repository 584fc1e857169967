import Derived.Test.YtghfannbcopjmaaGreatFDram
import Derived.Test.YtghfannbcopjmaaGreatFExp
namespace Go.Proofs.YtghfannbcopjmaaGreat
open Go Go.RowKit
set_option linter.unusedVariables false
set_option linter.unusedSimpArgs false
set_option maxRecDepth 100000
theorem dInjectX (s : DramS) (f : Flt) (ok : DramOk s) (hf : fright_v0 s.mode f s.g = false) : Sp P 139 [.pt 0 0, .ag [vi f.kind, vi f.rank, vi f.bank, vi f.row, vi f.col, vi f.chip, vi f.bit, vi f.value]] (bDram s 0) (vn 10) (bDram s 0) :=
 Sp.of (fn := Tryz.f139) rfl rfl 4 [.id 0, .id 1, .id 2, .id 3] (.c [] (fright s.mode f s.g ok.md) (.t (congrArg (!·) (show (fright_v0 s.mode f s.g) = false from hf)) .nil)) (by kernel_rfl) (by kernel_rfl)
def dInject_s (s : DramS) (f : Flt) : DramS := bif fright_v0 s.mode f s.g then dInjectN_s s f.n else s
def dInject_v0 (s : DramS) (f : Flt) : Int := bif fright_v0 s.mode f s.g then (dInjectN_v0 s f.n) else 10
theorem Flt.n_flt {f : Flt} (h1 : 0 ≤ f.chip) (h2 : 0 ≤ f.bit) (h3 : 0 ≤ f.value) : f.n.flt = f := by
 cases f; simp only [Flt.n, FltN.flt] at *; rw [Int.toNat_of_nonneg h1, Int.toNat_of_nonneg h2, Int.toNat_of_nonneg h3]
theorem Flt.cells {f : Flt} (h1 : 0 ≤ f.chip) (h2 : 0 ≤ f.bit) (h3 : 0 ≤ f.value) : (.ag [vi f.n.kind, vi f.n.rank, vi f.n.bank, vi f.n.row, vi f.n.col, vn f.n.chip, vn f.n.bit, vn f.n.value] : V) = .ag [vi f.kind, vi f.rank, vi f.bank, vi f.row, vi f.col, vi f.chip, vi f.bit, vi f.value] := by
 show V.ag [vi f.kind, vi f.rank, vi f.bank, vi f.row, vi f.col, vi ((f.chip.toNat : Nat) : Int), vi ((f.bit.toNat : Nat) : Int), vi ((f.value.toNat : Nat) : Int)] = _
 rw [Int.toNat_of_nonneg h1, Int.toNat_of_nonneg h2, Int.toNat_of_nonneg h3]
theorem dInject (s : DramS) (f : Flt) (ok : DramOk s) : Sp P 139 [.pt 0 0, .ag [vi f.kind, vi f.rank, vi f.bank, vi f.row, vi f.col, vi f.chip, vi f.bit, vi f.value]] (bDram s 0) (vi (dInject_v0 s f)) (bDram (dInject_s s f) 0) := by
 unfold dInject_v0 dInject_s
 cases q : fright_v0 s.mode f s.g with
 | false => exact dInjectX s f ok q
 | true =>
  obtain ⟨_, _, h3, h4, h5, _⟩ := fright_t ok.md q
  have h := dInjectN s f.n ok (by rw [Flt.n_flt h4.1 h3.1 h5.1]; exact q)
  rw [Flt.cells h4.1 h3.1 h5.1] at h
  exact h
theorem dInject_ok {s : DramS} {f : Flt} (ok : DramOk s) : DramOk (dInject_s s f) := by
 unfold dInject_s
 cases q : fright_v0 s.mode f s.g with
 | false => exact ok
 | true =>
  obtain ⟨_, _, h3, h4, h5, _⟩ := fright_t ok.md q
  have hf := FltN.okR ok.md (f := f.n) (g := s.g) (by rw [Flt.n_flt h4.1 h3.1 h5.1]; exact q)
  obtain ⟨o1, o2, o3, o4, o5⟩ := ok
  show DramOk (dInjectN_s s f.n)
  unfold dInjectN_s
  cases decide (f.n.kind = 1) with
  | true =>
   refine ⟨o1, fun k j => ?_, o3, o4, o5⟩
   show upZ s.c _ _ k j < 256
   unfold upZ
   split
   ·exact flpF_lt (o2 _) _ _
   ·exact o2 k j
  | false =>
   simp only [cond_false]
   cases lasts_v0 _ with
   | true =>
    simp only [cond_true]
    cases q2 : decide (256 ≤ ((s.la.length : Nat) : Int)) with
    | true => exact ⟨o1, o2, o3, o4, o5⟩
    | false =>
     have := of_decide_eq_false q2
     refine ⟨o1, o2, fun x hx => ?_, ?_, o5⟩
     ·rcases List.mem_append.1 hx with hx | hx
      ·exact o3 x hx
      ·rw [List.mem_singleton.1 hx]; exact hf
     ·show (s.la ++ [f.n]).length ≤ 256
      rw [List.length_append]; show s.la.length + 1 ≤ 256; omega
   | false =>
    simp only [cond_false]
    cases q2 : decide (256 ≤ ((s.co.length : Nat) : Int)) with
    | true => exact ⟨o1, o2, o3, o4, o5⟩
    | false =>
     have := of_decide_eq_false q2
     refine ⟨o1, o2, o3, o4, ?_⟩
     show (s.co ++ [f.n]).length ≤ 256
     rw [List.length_append]; show s.co.length + 1 ≤ 256; omega
def dWent_s (s : DramS) (i : Int) : DramS := bif decide (((s.co.length : Nat) : Int) = 0) then s else { s with co := (s.co.drop 1).take (s.co.length - 1) }
def dWent_v0 (s : DramS) (i : Int) : Int := bif decide (((s.co.length : Nat) : Int) = 0) then i else (bif decide ((s.co.getD 0 flt0).kind = 7) then i else (bif decide (s.g.ixE (⟨(s.co.getD 0 flt0).rank, (s.co.getD 0 flt0).bank, (s.co.getD 0 flt0).row, (s.co.getD 0 flt0).col⟩ : Pl) = 0) then (s.g.ix (⟨(s.co.getD 0 flt0).rank, (s.co.getD 0 flt0).bank, (s.co.getD 0 flt0).row, (s.co.getD 0 flt0).col⟩ : Pl)) else i))
def dWent_v1 (s : DramS) (i : Int) : Bool := bif decide (((s.co.length : Nat) : Int) = 0) then false else (bif decide ((s.co.getD 0 flt0).kind = 7) then true else false)
theorem dWent (s : DramS) (i : Int) (ok : DramOk s) : Sp P 214 [.pt 0 0, vi i] (bDram s 0) (.ag [vi (dWent_v0 s i), vt (dWent_v1 s i)]) (bDram (dWent_s s i) 0) := by
 have hcl := ok.cl
 generalize hd0 : dWent_s s i = zzhd0
 unfold dWent_s at hd0
 generalize hd1 : dWent_v0 s i = zzhd1
 unfold dWent_v0 at hd1
 generalize hd2 : dWent_v1 s i = zzhd2
 unfold dWent_v1 at hd2
 rcases bft (decide (((s.co.length : Nat) : Int) = 0)) with q1 | q1
 ·skip
  try rw [cpos q1] at hd0
  try rw [cpos q1] at hd1
  try rw [cpos q1] at hd2
  have q1' := of_decide_eq_true q1
  subst hd0 hd1 hd2
  exact Sp.of (fn := Tryz.f214) rfl rfl 3 [.id 0, .id 1, .id 2, .id 3] (.t q1 .nil) (by kernel_rfl) (by kernel_rfl)
 ·skip
  try rw [cneg q1] at hd0
  try rw [cneg q1] at hd1
  try rw [cneg q1] at hd2
  have q1' := of_decide_eq_false q1
  rcases bft (decide ((s.co.getD 0 flt0).kind = 7)) with q2 | q2
  ·skip
   try rw [cpos q2] at hd0
   try rw [cpos q2] at hd1
   try rw [cpos q2] at hd2
   have q2' := of_decide_eq_true q2
   subst hd0 hd1 hd2
   exact Sp.of (fn := Tryz.f214) rfl rfl 5 [.id 0, .id 1, .id 2, .id 7] (.t q1 (.ix (i := 0) (m := s.co.length) (by omega) (.el (e := eF) (gDx (l := s.co) (i := 0) flt0 (by omega)) (.sl (i := 1) (n := s.co.length - 1) (m := s.co.length) (hi := ((s.co.length : Nat) : Int)) (h2 := by omega) (by omega) (.cw [.ss 3 1 8 (s.co.length - 1)] (fclone ((s.co.drop 1).take (s.co.length - 1)) (by rw [List.length_take, List.length_drop]; omega)) _ (congrArg (fun z : Fd => [z]) (vwS eF s.co 1 (s.co.length - 1) (by first | assumption | omega))) (.t q2 .nil)))))) (by kernel_rfl) (by kernel_rfl)
  ·skip
   try rw [cneg q2] at hd0
   try rw [cneg q2] at hd1
   try rw [cneg q2] at hd2
   have q2' := of_decide_eq_false q2
   rcases bft (decide (s.g.ixE (⟨(s.co.getD 0 flt0).rank, (s.co.getD 0 flt0).bank, (s.co.getD 0 flt0).row, (s.co.getD 0 flt0).col⟩ : Pl) = 0)) with q3 | q3
   ·skip
    try rw [cpos q3] at hd0
    try rw [cpos q3] at hd1
    try rw [cpos q3] at hd2
    have q3' := of_decide_eq_true q3
    subst hd0 hd1 hd2
    exact Sp.of (fn := Tryz.f214) rfl rfl 6 [.id 0, .id 1, .id 2, .id 7] (.t q1 (.ix (i := 0) (m := s.co.length) (by omega) (.el (e := eF) (gDx (l := s.co) (i := 0) flt0 (by omega)) (.sl (i := 1) (n := s.co.length - 1) (m := s.co.length) (hi := ((s.co.length : Nat) : Int)) (h2 := by omega) (by omega) (.cw [.ss 3 1 8 (s.co.length - 1)] (fclone ((s.co.drop 1).take (s.co.length - 1)) (by rw [List.length_take, List.length_drop]; omega)) _ (congrArg (fun z : Fd => [z]) (vwS eF s.co 1 (s.co.length - 1) (by first | assumption | omega))) (.t q2 (.c [] (gindex_sp s.g (⟨(s.co.getD 0 flt0).rank, (s.co.getD 0 flt0).bank, (s.co.getD 0 flt0).row, (s.co.getD 0 flt0).col⟩ : Pl)) (.g q3 .nil)))))))) (by kernel_rfl) (by kernel_rfl)
   ·skip
    try rw [cneg q3] at hd0
    try rw [cneg q3] at hd1
    try rw [cneg q3] at hd2
    have q3' := of_decide_eq_false q3
    subst hd0 hd1 hd2
    exact Sp.of (fn := Tryz.f214) rfl rfl 6 [.id 0, .id 1, .id 2, .id 7] (.t q1 (.ix (i := 0) (m := s.co.length) (by omega) (.el (e := eF) (gDx (l := s.co) (i := 0) flt0 (by omega)) (.sl (i := 1) (n := s.co.length - 1) (m := s.co.length) (hi := ((s.co.length : Nat) : Int)) (h2 := by omega) (by omega) (.cw [.ss 3 1 8 (s.co.length - 1)] (fclone ((s.co.drop 1).take (s.co.length - 1)) (by rw [List.length_take, List.length_drop]; omega)) _ (congrArg (fun z : Fd => [z]) (vwS eF s.co 1 (s.co.length - 1) (by first | assumption | omega))) (.t q2 (.c [] (gindex_sp s.g (⟨(s.co.getD 0 flt0).rank, (s.co.getD 0 flt0).bank, (s.co.getD 0 flt0).row, (s.co.getD 0 flt0).col⟩ : Pl)) (.g q3 .nil)))))))) (by kernel_rfl) (by kernel_rfl)
theorem dWent_ok {s : DramS} {i : Int} (ok : DramOk s) : DramOk (dWent_s s i) := by
 obtain ⟨o1, o2, o3, o4, o5⟩ := ok
 unfold dWent_s
 cases decide (((s.co.length : Nat) : Int) = 0)
 ·exact ⟨o1, o2, o3, o4, by show (List.take _ (List.drop 1 s.co)).length ≤ 256; rw [List.length_take, List.length_drop]; omega⟩
 ·exact ⟨o1, o2, o3, o4, o5⟩
def dWrite_s (s : DramS) (i : Int) (r : Nat → Nat) : DramS := bif decide (s.g.atE i = 0) then (bif (dWent_v1 s i) then (dWent_s s i) else { (dWent_s s i) with c := upZ (dWent_s s i).c (dWent_v0 s i) r }) else s
def dWrite_v0 (s : DramS) (i : Int) (r : Nat → Nat) : Int := bif decide (s.g.atE i = 0) then (dWent_v0 s i) else 0
def dWrite_v1 (s : DramS) (i : Int) (r : Nat → Nat) : Bool := bif decide (s.g.atE i = 0) then (dWent_v1 s i) else false
def dWrite_v2 (s : DramS) (i : Int) (r : Nat → Nat) : Int := bif decide (s.g.atE i = 0) then 0 else (s.g.atE i)
theorem dWrite (s : DramS) (i : Int) (r : Nat → Nat) (ok : DramOk s) : Sp P 227 [.pt 0 0, vi i, .ar .u8 72 (nf r)] (bDram s 0) (.tu [.ag [vi (dWrite_v0 s i r), vt (dWrite_v1 s i r)], vi (dWrite_v2 s i r)]) (bDram (dWrite_s s i r) 0) := by
 generalize hd0 : dWrite_s s i r = zzhd0
 unfold dWrite_s at hd0
 generalize hd1 : dWrite_v0 s i r = zzhd1
 unfold dWrite_v0 at hd1
 generalize hd2 : dWrite_v1 s i r = zzhd2
 unfold dWrite_v1 at hd2
 generalize hd3 : dWrite_v2 s i r = zzhd3
 unfold dWrite_v2 at hd3
 rcases bft (decide (s.g.atE i = 0)) with q1 | q1
 ·skip
  try rw [cpos q1] at hd0
  try rw [cpos q1] at hd1
  try rw [cpos q1] at hd2
  try rw [cpos q1] at hd3
  have q1' := of_decide_eq_true q1
  rcases bft (dWent_v1 s i) with q2 | q2
  ·skip
   try rw [cpos q2] at hd0
   try rw [cpos q2] at hd1
   try rw [cpos q2] at hd2
   try rw [cpos q2] at hd3
   subst hd0 hd1 hd2 hd3
   exact Sp.of (fn := Tryz.f227) rfl rfl 6 [.id 0, .id 1, .id 2, .id 3] (.c [] (gat_sp s.g i) (.g q1 (.c [.id 0, .id 1, .id 2, .id 3] (dWent s i ok) (.g q2 .nil)))) (by kernel_rfl) (by kernel_rfl)
  ·skip
   try rw [cneg q2] at hd0
   try rw [cneg q2] at hd1
   try rw [cneg q2] at hd2
   try rw [cneg q2] at hd3
   subst hd0 hd1 hd2 hd3
   exact Sp.of (fn := Tryz.f227) rfl rfl 7 [.id 0, .id 1, .id 2, .id 3] (.c [] (gat_sp s.g i) (.g q1 (.c [.id 0, .id 1, .id 2, .id 3] (dWent s i ok) (.g q2 (.mu (mpB_up (dWent_s s i).c (dWent_v0 s i) r) .nil))))) (by kernel_rfl) (by kernel_rfl)
 ·skip
  try rw [cneg q1] at hd0
  try rw [cneg q1] at hd1
  try rw [cneg q1] at hd2
  try rw [cneg q1] at hd3
  have q1' := of_decide_eq_false q1
  subst hd0 hd1 hd2 hd3
  exact Sp.of (fn := Tryz.f227) rfl rfl 5 [.id 0, .id 1, .id 2, .id 3] (.c [] (gat_sp s.g i) (.g q1 .nil)) (by kernel_rfl) (by kernel_rfl)
def dRead_s (s : DramS) (i : Int) : DramS := bif decide (s.g.atE i = 0) then (dWent_s s i) else s
def dRead_v0 (s : DramS) (i : Int) : Nat → Nat := bif decide (s.g.atE i = 0) then (bif (dWent_v1 s i) then (fun _ => 0) else (dLook_v0 (dWent_s s i) (dWent_v0 s i))) else (fun _ => 0)
def dRead_v1 (s : DramS) (i : Int) : Int := bif decide (s.g.atE i = 0) then (dWent_v0 s i) else 0
def dRead_v2 (s : DramS) (i : Int) : Bool := bif decide (s.g.atE i = 0) then (dWent_v1 s i) else false
def dRead_v3 (s : DramS) (i : Int) : Int := bif decide (s.g.atE i = 0) then (bif (dWent_v1 s i) then 0 else (dLook_v1 (dWent_s s i) (dWent_v0 s i))) else (s.g.atE i)
theorem dRead (s : DramS) (i : Int) (ok : DramOk s) : Sp P 166 [.pt 0 0, vi i] (bDram s 0) (.tu [.ar .u8 72 (nf (dRead_v0 s i)), .ag [vi (dRead_v1 s i), vt (dRead_v2 s i)], vi (dRead_v3 s i)]) (bDram (dRead_s s i) 0) := by
 generalize hd0 : dRead_s s i = zzhd0
 unfold dRead_s at hd0
 generalize hd1 : dRead_v0 s i = zzhd1
 unfold dRead_v0 at hd1
 generalize hd2 : dRead_v1 s i = zzhd2
 unfold dRead_v1 at hd2
 generalize hd3 : dRead_v2 s i = zzhd3
 unfold dRead_v2 at hd3
 generalize hd4 : dRead_v3 s i = zzhd4
 unfold dRead_v3 at hd4
 rcases bft (decide (s.g.atE i = 0)) with q1 | q1
 ·skip
  try rw [cpos q1] at hd0
  try rw [cpos q1] at hd1
  try rw [cpos q1] at hd2
  try rw [cpos q1] at hd3
  try rw [cpos q1] at hd4
  have q1' := of_decide_eq_true q1
  rcases bft (dWent_v1 s i) with q2 | q2
  ·skip
   try rw [cpos q2] at hd0
   try rw [cpos q2] at hd1
   try rw [cpos q2] at hd2
   try rw [cpos q2] at hd3
   try rw [cpos q2] at hd4
   subst hd0 hd1 hd2 hd3 hd4
   exact Sp.of (fn := Tryz.f166) rfl rfl 8 [.id 0, .id 1, .id 2, .id 3] (.c [] (gat_sp s.g i) (.g q1 (.c [.id 0, .id 1, .id 2, .id 3] (dWent s i ok) (.t q2 .nil)))) (by kernel_rfl) (by kernel_rfl)
  ·skip
   try rw [cneg q2] at hd0
   try rw [cneg q2] at hd1
   try rw [cneg q2] at hd2
   try rw [cneg q2] at hd3
   try rw [cneg q2] at hd4
   subst hd0 hd1 hd2 hd3 hd4
   exact Sp.of (fn := Tryz.f166) rfl rfl 9 [.id 0, .id 1, .id 2, .id 3] (.c [] (gat_sp s.g i) (.g q1 (.c [.id 0, .id 1, .id 2, .id 3] (dWent s i ok) (.t q2 (.c [.id 0, .id 1, .id 2, .id 3] (dLook (dWent_s s i) (dWent_v0 s i) (dWent_ok ok)) .nil))))) (by kernel_rfl) (by kernel_rfl)
 ·skip
  try rw [cneg q1] at hd0
  try rw [cneg q1] at hd1
  try rw [cneg q1] at hd2
  try rw [cneg q1] at hd3
  try rw [cneg q1] at hd4
  have q1' := of_decide_eq_false q1
  subst hd0 hd1 hd2 hd3 hd4
  exact Sp.of (fn := Tryz.f166) rfl rfl 5 [.id 0, .id 1, .id 2, .id 3] (.c [] (gat_sp s.g i) (.g q1 .nil)) (by kernel_rfl) (by kernel_rfl)
theorem dWrite_ok {s : DramS} {i : Int} {r : Nat → Nat} (ok : DramOk s) (hr : ∀ j, r j < 256) : DramOk (dWrite_s s i r) := by
 obtain ⟨o1, o2, o3, o4, o5⟩ := dWent_ok (i := i) ok
 unfold dWrite_s
 cases decide (s.g.atE i = 0)
 ·exact ok
 ·cases dWent_v1 s i
  ·refine ⟨o1, fun k j => ?_, o3, o4, o5⟩
   show upZ (dWent_s s i).c _ _ k j < 256
   unfold upZ
   split
   ·exact hr j
   ·exact o2 k j
  ·exact ⟨o1, o2, o3, o4, o5⟩
theorem dRead_ok {s : DramS} {i : Int} (ok : DramOk s) : DramOk (dRead_s s i) := by
 unfold dRead_s
 cases decide (s.g.atE i = 0)
 ·exact ok
 ·exact dWent_ok (i := i) ok
theorem dLook_lt {s : DramS} {i : Int} (ok : DramOk s) (j : Nat) : dLook_v0 s i j < 256 := by
 unfold dLook_v0
 simp only [Bool.cond_eq_ite]
 split
 ·first | exact overlay_lt ok.md (ok.c _) ok.la j | exact (by decide : (0 : Nat) < 256)
 ·first | exact overlay_lt ok.md (ok.c _) ok.la j | exact (by decide : (0 : Nat) < 256)
theorem dRead_lt {s : DramS} {i : Int} (ok : DramOk s) (j : Nat) : dRead_v0 s i j < 256 := by
 unfold dRead_v0
 cases decide (s.g.atE i = 0)
 ·exact (by decide : (0 : Nat) < 256)
 ·cases dWent_v1 s i
  ·exact dLook_lt (dWent_ok (i := i) ok) j
  ·exact (by decide : (0 : Nat) < 256)
structure DevOk (s : DevS) : Prop where
 d : DramOk s.d
 gh : ∀ k j, s.gh k j < 256
def exposure_v0 (m : Int) (r : Nat → Nat) (q : Nat → Nat) : Nat := bif decide (m = 1) then (ex1 r q 8) else (ex2 r q 2)
theorem exposure (m : Int) (r : Nat → Nat) (q : Nat → Nat) (hm : m = 1 ∨ m = 2) (hr : ∀ j, r j < 256) (hq : ∀ j, q j < 256) : Sp P 167 [vi m, .ar .u8 72 (nf r), .ar .u8 72 (nf q)] [] (vn (exposure_v0 m r q)) [] := by
 rcases hm with rfl | rfl
 ·simp only [exposure_v0, show decide ((1 : Int) = 1) = true from rfl, cond_true]; exact Eq.mp (by kernel_rfl) (exposure_1 r q hr hq)
 ·simp only [exposure_v0, show decide ((2 : Int) = 1) = false from rfl, cond_false]; exact Eq.mp (by kernel_rfl) (exposure_2 r q hr hq)
theorem vDram (s : DevS)  : Sp P 67 [.pt 0 0] (ros (bDev s 0)) (.pt 4 0) (ros (bDev s 0)) :=
 Sp.of (fn := Tryz.f67) rfl rfl 3 [.id 0, .id 1, .id 2, .id 3, .id 4, .id 5, .id 6, .id 7] .nil (by kernel_rfl) (by kernel_rfl)
theorem vCount (s : DevS)  : Sp P 17 [.pt 0 0] (ros (bDev s 0)) (vn s.l.length) (ros (bDev s 0)) :=
 Sp.of (fn := Tryz.f17) rfl rfl 3 [.id 0, .id 1, .id 2, .id 3, .id 4, .id 5, .id 6, .id 7] .nil (by kernel_rfl) (by kernel_rfl)
theorem vMarked (s : DevS) (i : Int)  : Sp P 168 [.pt 0 0, vi i] (ros (bDev s 0)) (vt (decide (s.mks i = 1))) (ros (bDev s 0)) :=
 Sp.of (fn := Tryz.f168) rfl rfl 3 [.id 0, .id 1, .id 2, .id 3, .id 4, .id 5, .id 6, .id 7] .nil (by kernel_rfl) (by kernel_rfl)
def vInject_s (s : DevS) (f : Flt) : DevS := { s with d := (dInject_s s.d f) }
theorem vInject (s : DevS) (f : Flt) (ok : DevOk s) : Sp P 92 [.pt 0 0, .ag [vi f.kind, vi f.rank, vi f.bank, vi f.row, vi f.col, vi f.chip, vi f.bit, vi f.value]] (bDev s 0) (vi (dInject_v0 s.d f)) (bDev (vInject_s s f) 0) :=
 Sp.of (fn := Tryz.f92) rfl rfl 4 [.id 0, .id 1, .id 2, .id 3, .id 4, .id 5, .id 6, .id 7] (.c [.id 4, .id 5, .id 6, .id 7] (dInject s.d f ok.d) .nil) (by kernel_rfl) (by kernel_rfl)
def vput_s (s : DevS) (i : Int) (r : Nat → Nat) (m : Int) : DevS := bif decide ((dWrite_v2 s.d i r) = 0) then (⟨(dWrite_s s.d i r), upZ s.gh i r, upZ s.mks i m, (s.l ++ [(⟨true, i, dWrite_v0 s.d i r, dWrite_v1 s.d i r, 0, false⟩ : Acc)])⟩ : DevS) else { s with d := (dWrite_s s.d i r) }
def vput_v0 (s : DevS) (i : Int) (r : Nat → Nat) (m : Int) : Int := bif decide ((dWrite_v2 s.d i r) = 0) then 0 else (dWrite_v2 s.d i r)
theorem vput (s : DevS) (i : Int) (r : Nat → Nat) (m : Int) (ok : DevOk s) (hl : s.l.length ≤ 100000000) : Sp P 179 [.pt 0 0, vi i, .ar .u8 72 (nf r), vi m] (bDev s 0) (vi (vput_v0 s i r m)) (bDev (vput_s s i r m) 0) := by
 generalize hd0 : vput_s s i r m = zzhd0
 unfold vput_s at hd0
 generalize hd1 : vput_v0 s i r m = zzhd1
 unfold vput_v0 at hd1
 rcases bft (decide ((dWrite_v2 s.d i r) = 0)) with q1 | q1
 ·skip
  try rw [cpos q1] at hd0
  try rw [cpos q1] at hd1
  have q1' := of_decide_eq_true q1
  subst hd0 hd1
  exact Sp.of (fn := Tryz.f179) rfl rfl 10 [.id 0, .id 1, .id 2, .id 15, .id 4, .id 5, .id 6, .id 7] (.c [.id 4, .id 5, .id 6, .id 7] (dWrite s.d i r ok.d) (.g q1 (.mu (mpB_up s.gh i r) (.mu (mpI_up s.mks i m) (.ap (e := eAcc) (l := s.l) (l' := [(⟨true, i, dWrite_v0 s.d i r, dWrite_v1 s.d i r, 0, false⟩ : Acc)]) .row (.flat [vt true, vi i, vi (dWrite_v0 s.d i r), vt (dWrite_v1 s.d i r), vn 0, vt false] [(⟨true, i, dWrite_v0 s.d i r, dWrite_v1 s.d i r, 0, false⟩ : Acc)] rfl) (by simp only [List.length_append, List.length_cons, List.length_nil]; omega) .nil))))) (by kernel_rfl) (by kernel_rfl)
 ·skip
  try rw [cneg q1] at hd0
  try rw [cneg q1] at hd1
  have q1' := of_decide_eq_false q1
  subst hd0 hd1
  exact Sp.of (fn := Tryz.f179) rfl rfl 6 [.id 0, .id 1, .id 2, .id 3, .id 4, .id 5, .id 6, .id 7] (.c [.id 4, .id 5, .id 6, .id 7] (dWrite s.d i r ok.d) (.g q1 .nil)) (by kernel_rfl) (by kernel_rfl)
theorem vWrite (s : DevS) (i : Int) (r : Nat → Nat) (ok : DevOk s) (hl : s.l.length ≤ 100000000) : Sp P 137 [.pt 0 0, vi i, .ar .u8 72 (nf r)] (bDev s 0) (vi (vput_v0 s i r 0)) (bDev (vput_s s i r 0) 0) :=
 Sp.of (fn := Tryz.f137) rfl rfl 3 [.id 0, .id 1, .id 2, .id 3, .id 4, .id 5, .id 6, .id 7] (.c [.id 0, .id 1, .id 2, .id 3, .id 4, .id 5, .id 6, .id 7] (vput s i r 0 (by first | assumption | omega) (by first | assumption | omega)) .nil) (by kernel_rfl) (by kernel_rfl)
theorem vMark (s : DevS) (i : Int) (r : Nat → Nat) (ok : DevOk s) (hl : s.l.length ≤ 100000000) : Sp P 136 [.pt 0 0, vi i, .ar .u8 72 (nf r)] (bDev s 0) (vi (vput_v0 s i r 1)) (bDev (vput_s s i r 1) 0) :=
 Sp.of (fn := Tryz.f136) rfl rfl 3 [.id 0, .id 1, .id 2, .id 3, .id 4, .id 5, .id 6, .id 7] (.c [.id 0, .id 1, .id 2, .id 3, .id 4, .id 5, .id 6, .id 7] (vput s i r 1 (by first | assumption | omega) (by first | assumption | omega)) .nil) (by kernel_rfl) (by kernel_rfl)
def vRead_s (s : DevS) (i : Int) : DevS := bif decide ((dRead_v3 s.d i) = 0) then (bif (dRead_v2 s.d i) then (⟨(dRead_s s.d i), s.gh, s.mks, (s.l ++ [(⟨false, i, dRead_v1 s.d i, dRead_v2 s.d i, (((exposure_v0 (dRead_s s.d i).mode (dRead_v0 s.d i) (s.gh (dRead_v1 s.d i))) : Nat) : Int), false⟩ : Acc)])⟩ : DevS) else (⟨(dRead_s s.d i), s.gh, s.mks, (s.l ++ [(⟨false, i, dRead_v1 s.d i, dRead_v2 s.d i, (((exposure_v0 (dRead_s s.d i).mode (dRead_v0 s.d i) (s.gh (dRead_v1 s.d i))) : Nat) : Int), decide (s.mks (dRead_v1 s.d i) = 1)⟩ : Acc)])⟩ : DevS)) else { s with d := (dRead_s s.d i) }
def vRead_v0 (s : DevS) (i : Int) : Nat → Nat := bif decide ((dRead_v3 s.d i) = 0) then (dRead_v0 s.d i) else (fun _ => 0)
def vRead_v1 (s : DevS) (i : Int) : Int := bif decide ((dRead_v3 s.d i) = 0) then 0 else (dRead_v3 s.d i)
theorem vRead (s : DevS) (i : Int) (ok : DevOk s) (hl : s.l.length ≤ 100000000) : Sp P 133 [.pt 0 0, vi i] (bDev s 0) (.tu [.ar .u8 72 (nf (vRead_v0 s i)), vi (vRead_v1 s i)]) (bDev (vRead_s s i) 0) := by
 generalize hd0 : vRead_s s i = zzhd0
 unfold vRead_s at hd0
 generalize hd1 : vRead_v0 s i = zzhd1
 unfold vRead_v0 at hd1
 generalize hd2 : vRead_v1 s i = zzhd2
 unfold vRead_v1 at hd2
 rcases bft (decide ((dRead_v3 s.d i) = 0)) with q1 | q1
 ·skip
  try rw [cpos q1] at hd0
  try rw [cpos q1] at hd1
  try rw [cpos q1] at hd2
  have q1' := of_decide_eq_true q1
  rcases bft (dRead_v2 s.d i) with q2 | q2
  ·skip
   try rw [cpos q2] at hd0
   try rw [cpos q2] at hd1
   try rw [cpos q2] at hd2
   subst hd0 hd1 hd2
   exact Sp.of (fn := Tryz.f133) rfl rfl 10 [.id 0, .id 1, .id 2, .id 15, .id 4, .id 5, .id 6, .id 7] (.c [.id 4, .id 5, .id 6, .id 7] (dRead s.d i ok.d) (.g q1 (.c [.id 4, .id 5, .id 6, .id 7] (dMode (dRead_s s.d i)) (.c [] (exposure (dRead_s s.d i).mode (dRead_v0 s.d i) (s.gh (dRead_v1 s.d i)) ((dRead_ok ok.d).md) (dRead_lt ok.d) (ok.gh _)) (.g q2 (.g q2 (.g q2 (.g q2 (.g q2 (.ap (e := eAcc) (l := s.l) (l' := [(⟨false, i, dRead_v1 s.d i, dRead_v2 s.d i, (((exposure_v0 (dRead_s s.d i).mode (dRead_v0 s.d i) (s.gh (dRead_v1 s.d i))) : Nat) : Int), false⟩ : Acc)]) .row (.flat [vt false, vi i, vi (dRead_v1 s.d i), vt (dRead_v2 s.d i), vn (exposure_v0 (dRead_s s.d i).mode (dRead_v0 s.d i) (s.gh (dRead_v1 s.d i))), vt false] [(⟨false, i, dRead_v1 s.d i, dRead_v2 s.d i, (((exposure_v0 (dRead_s s.d i).mode (dRead_v0 s.d i) (s.gh (dRead_v1 s.d i))) : Nat) : Int), false⟩ : Acc)] rfl) (by simp only [List.length_append, List.length_cons, List.length_nil]; omega) .nil)))))))))) (by kernel_rfl) (by kernel_rfl)
  ·skip
   try rw [cneg q2] at hd0
   try rw [cneg q2] at hd1
   try rw [cneg q2] at hd2
   subst hd0 hd1 hd2
   exact Sp.of (fn := Tryz.f133) rfl rfl 11 [.id 0, .id 1, .id 2, .id 16, .id 4, .id 5, .id 6, .id 7] (.c [.id 4, .id 5, .id 6, .id 7] (dRead s.d i ok.d) (.g q1 (.c [.id 4, .id 5, .id 6, .id 7] (dMode (dRead_s s.d i)) (.c [] (exposure (dRead_s s.d i).mode (dRead_v0 s.d i) (s.gh (dRead_v1 s.d i)) ((dRead_ok ok.d).md) (dRead_lt ok.d) (ok.gh _)) (.g q2 (.g q2 (.g q2 (.g q2 (.c [.id 0, .id 1, .id 2, .id 3, .id 4, .id 5, .id 6, .id 7] (vMarked { s with d := (dRead_s s.d i) } (dRead_v1 s.d i)) (.g q2 (.ap (e := eAcc) (l := s.l) (l' := [(⟨false, i, dRead_v1 s.d i, dRead_v2 s.d i, (((exposure_v0 (dRead_s s.d i).mode (dRead_v0 s.d i) (s.gh (dRead_v1 s.d i))) : Nat) : Int), decide (s.mks (dRead_v1 s.d i) = 1)⟩ : Acc)]) .row (.flat [vt false, vi i, vi (dRead_v1 s.d i), vt (dRead_v2 s.d i), vn (exposure_v0 (dRead_s s.d i).mode (dRead_v0 s.d i) (s.gh (dRead_v1 s.d i))), vt (decide (s.mks (dRead_v1 s.d i) = 1))] [(⟨false, i, dRead_v1 s.d i, dRead_v2 s.d i, (((exposure_v0 (dRead_s s.d i).mode (dRead_v0 s.d i) (s.gh (dRead_v1 s.d i))) : Nat) : Int), decide (s.mks (dRead_v1 s.d i) = 1)⟩ : Acc)] rfl) (by simp only [List.length_append, List.length_cons, List.length_nil]; omega) .nil))))))))))) (by kernel_rfl) (by kernel_rfl)
 ·skip
  try rw [cneg q1] at hd0
  try rw [cneg q1] at hd1
  try rw [cneg q1] at hd2
  have q1' := of_decide_eq_false q1
  subst hd0 hd1 hd2
  exact Sp.of (fn := Tryz.f133) rfl rfl 5 [.id 0, .id 1, .id 2, .id 3, .id 4, .id 5, .id 6, .id 7] (.c [.id 4, .id 5, .id 6, .id 7] (dRead s.d i ok.d) (.g q1 .nil)) (by kernel_rfl) (by kernel_rfl)
theorem vput_ok {s : DevS} {i : Int} {r : Nat → Nat} {m : Int} (ok : DevOk s) (hr : ∀ j, r j < 256) : DevOk (vput_s s i r m) := by
 unfold vput_s
 cases decide (dWrite_v2 s.d i r = 0)
 ·exact ⟨dWrite_ok ok.d hr, ok.gh⟩
 ·refine ⟨dWrite_ok ok.d hr, fun k j => ?_⟩
  show upZ s.gh _ _ k j < 256
  unfold upZ
  split
  ·exact hr j
  ·exact ok.gh k j
theorem vRead_ok {s : DevS} {i : Int} (ok : DevOk s) : DevOk (vRead_s s i) := by
 unfold vRead_s
 simp only [Bool.cond_eq_ite]
 repeat (first | exact ⟨dRead_ok ok.d, ok.gh⟩ | split)
theorem vRead_lt {s : DevS} {i : Int} (ok : DevOk s) (j : Nat) : vRead_v0 s i j < 256 := by
 unfold vRead_v0
 simp only [Bool.cond_eq_ite]
 repeat (first | exact dRead_lt ok.d j | exact (by decide : (0 : Nat) < 256) | split)
theorem vInject_ok {s : DevS} {f : Flt} (ok : DevOk s) : DevOk { s with d := dInject_s s.d f } := ⟨dInject_ok ok.d, ok.gh⟩
end Go.Proofs.YtghfannbcopjmaaGreat
