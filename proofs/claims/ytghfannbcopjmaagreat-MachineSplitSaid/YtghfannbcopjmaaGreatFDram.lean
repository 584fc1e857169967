import Derived.Test.YtghfannbcopjmaaGreatFSt
namespace Go.Proofs.YtghfannbcopjmaaGreat
open Go Go.RowKit
set_option linter.unusedVariables false
set_option linter.unusedSimpArgs false
set_option maxRecDepth 100000
def chN (m : Int) : Nat := bif decide (m = 1) then 9 else 36
structure DramOk (s : DramS) : Prop where
 md : s.mode = 1 ∨ s.mode = 2
 c : ∀ k j, s.c k j < 256
 la : ∀ f ∈ s.la, f.ok (chN s.mode)
 ll : s.la.length ≤ 256
 cl : s.co.length ≤ 256
theorem cT {c a : Bool} (h : (bif c then a else false) = true) : c = true ∧ a = true := by cases c; cases h; exact ⟨rfl, h⟩
theorem fbel_t {i n : Int} (h : fbel_v0 i n = true) : 0 ≤ i ∧ i < n := by
 unfold fbel_v0 at h; obtain ⟨h1, h2⟩ := cT h; exact ⟨of_decide_eq_true h1, of_decide_eq_true h2⟩
theorem fright1_t {f : Flt} {g : Gm} (h : fright1_v0 f g = true) : (1 ≤ f.kind ∧ f.kind ≤ 7) ∧ g.holds ⟨f.rank, f.bank, f.row, f.col⟩ = true ∧ (0 ≤ f.bit ∧ f.bit < 576) ∧ (0 ≤ f.chip ∧ f.chip < 9) ∧ (0 ≤ f.value ∧ f.value < 256) ∧ (f.kind = 2 → f.value < 2) := by
 unfold fright1_v0 at h
 cases q : decide (f.kind = 2) with
 | true =>
  rw [cpos q] at h
  obtain ⟨h1, h⟩ := cT h; obtain ⟨h2, h⟩ := cT h; obtain ⟨h3, h⟩ := cT h; obtain ⟨h4, h⟩ := cT h; obtain ⟨h5, h⟩ := cT h; obtain ⟨h6, h⟩ := cT h
  have h := fbel_t h
  exact ⟨⟨of_decide_eq_true h1, of_decide_eq_true h2⟩, h4, fbel_t h5, fbel_t h6, ⟨h.1, by omega⟩, fun _ => h.2⟩
 | false =>
  rw [cneg q] at h
  obtain ⟨h1, h⟩ := cT h; obtain ⟨h2, h⟩ := cT h; obtain ⟨h3, h⟩ := cT h; obtain ⟨h4, h⟩ := cT h; obtain ⟨h5, h⟩ := cT h; obtain ⟨h6, h⟩ := cT h
  exact ⟨⟨of_decide_eq_true h1, of_decide_eq_true h2⟩, h4, fbel_t h5, fbel_t h6, fbel_t h, fun e => absurd e (of_decide_eq_false q)⟩
theorem fright2_t {f : Flt} {g : Gm} (h : fright2_v0 f g = true) : (1 ≤ f.kind ∧ f.kind ≤ 7) ∧ g.holds ⟨f.rank, f.bank, f.row, f.col⟩ = true ∧ (0 ≤ f.bit ∧ f.bit < 576) ∧ (0 ≤ f.chip ∧ f.chip < 36) ∧ (0 ≤ f.value ∧ f.value < 256) ∧ (f.kind = 2 → f.value < 2) := by
 unfold fright2_v0 at h
 cases q : decide (f.kind = 2) with
 | true =>
  rw [cpos q] at h
  obtain ⟨h1, h⟩ := cT h; obtain ⟨h2, h⟩ := cT h; obtain ⟨h3, h⟩ := cT h; obtain ⟨h4, h⟩ := cT h; obtain ⟨h5, h⟩ := cT h; obtain ⟨h6, h⟩ := cT h
  have h := fbel_t h
  exact ⟨⟨of_decide_eq_true h1, of_decide_eq_true h2⟩, h4, fbel_t h5, fbel_t h6, ⟨h.1, by omega⟩, fun _ => h.2⟩
 | false =>
  rw [cneg q] at h
  obtain ⟨h1, h⟩ := cT h; obtain ⟨h2, h⟩ := cT h; obtain ⟨h3, h⟩ := cT h; obtain ⟨h4, h⟩ := cT h; obtain ⟨h5, h⟩ := cT h; obtain ⟨h6, h⟩ := cT h
  exact ⟨⟨of_decide_eq_true h1, of_decide_eq_true h2⟩, h4, fbel_t h5, fbel_t h6, fbel_t h, fun e => absurd e (of_decide_eq_false q)⟩
def fright_v0 (m : Int) (f : Flt) (g : Gm) : Bool := bif decide (m = 1) then (fright1_v0 f g) else (fright2_v0 f g)
theorem fright (m : Int) (f : Flt) (g : Gm) (hm : m = 1 ∨ m = 2)  : Sp P 185 [.ag [vi f.kind, vi f.rank, vi f.bank, vi f.row, vi f.col, vi f.chip, vi f.bit, vi f.value], .ag [vi g.ranks, vi g.spares, vi g.banks, vi g.rows, vi g.cols], vi m] [] (vt (fright_v0 m f g)) [] := by
 rcases hm with rfl | rfl
 ·simp only [fright_v0, show decide ((1 : Int) = 1) = true from rfl, cond_true]; exact Eq.mp (by kernel_rfl) (fright1 f g )
 ·simp only [fright_v0, show decide ((2 : Int) = 1) = false from rfl, cond_false]; exact Eq.mp (by kernel_rfl) (fright2 f g )
def overlay_v0 (m : Int) (l : List FltN) (x : Pl) (r : Nat → Nat) : Nat → Nat := bif decide (m = 1) then (ov1 l x r l.length) else (ov2 l x r l.length)
theorem overlay (m : Int) (l : List FltN) (x : Pl) (r : Nat → Nat) (hm : m = 1 ∨ m = 2) (hl : l.length ≤ 2147483648) (hr : ∀ j, r j < 256) (ho : ∀ f ∈ l, f.ok (chN m)) : Sp P 251 [.sl 0, vi m, .ag [vi x.rank, vi x.bank, vi x.row, vi x.col], .ar .u8 72 (nf r)] [.ro (.row eF l)] (.ar .u8 72 (nf (overlay_v0 m l x r))) [.ro (.row eF l)] := by
 rcases hm with rfl | rfl
 ·simp only [overlay_v0, show decide ((1 : Int) = 1) = true from rfl, cond_true]; exact Eq.mp (by kernel_rfl) (overlay1 l x r hl hr ho)
 ·simp only [overlay_v0, show decide ((2 : Int) = 1) = false from rfl, cond_false]; exact Eq.mp (by kernel_rfl) (overlay2 l x r hl hr ho)
theorem overlay_lt {m : Int} (hm : m = 1 ∨ m = 2) {l : List FltN} {x : Pl} {r : Nat → Nat} (hr : ∀ j, r j < 256) (ho : ∀ f ∈ l, f.ok (chN m)) (j : Nat) : overlay_v0 m l x r j < 256 := by
 rcases hm with rfl | rfl
 ·exact ov1_lt hr ho l.length (Nat.le_refl _) j
 ·exact ov2_lt hr ho l.length (Nat.le_refl _) j
theorem fright_t {m : Int} (hm : m = 1 ∨ m = 2) {f : Flt} {g : Gm} (h : fright_v0 m f g = true) : (1 ≤ f.kind ∧ f.kind ≤ 7) ∧ g.holds ⟨f.rank, f.bank, f.row, f.col⟩ = true ∧ (0 ≤ f.bit ∧ f.bit < 576) ∧ (0 ≤ f.chip ∧ f.chip < chN m) ∧ (0 ≤ f.value ∧ f.value < 256) ∧ (f.kind = 2 → f.value < 2) := by
 rcases hm with rfl | rfl
 ·exact fright1_t h
 ·exact fright2_t h
def FltN.flt (f : FltN) : Flt := ⟨f.kind, f.rank, f.bank, f.row, f.col, f.chip, f.bit, f.value⟩
def Flt.n (f : Flt) : FltN := ⟨f.kind, f.rank, f.bank, f.row, f.col, f.chip.toNat, f.bit.toNat, f.value.toNat⟩
theorem FltN.okR {m : Int} (hm : m = 1 ∨ m = 2) {f : FltN} {g : Gm} (h : fright_v0 m f.flt g = true) : f.ok (chN m) := by
 obtain ⟨h1, h2, h3, h4, h5, h6⟩ := fright_t hm h
 refine ⟨Int.ofNat_lt.1 h4.2, ?_, ?_, fun hk => ?_⟩
 ·have : ((f.bit : Nat) : Int) < 576 := h3.2
  omega
 ·have : ((f.value : Nat) : Int) < 256 := h5.2
  omega
 ·have : ((f.value : Nat) : Int) < 2 := h6 hk
  omega
theorem dGeom (s : DramS)  : Sp P 76 [.pt 0 0] (ros (bDram s 0)) (.ag [vi s.g.ranks, vi s.g.spares, vi s.g.banks, vi s.g.rows, vi s.g.cols]) (ros (bDram s 0)) :=
 Sp.of (fn := Tryz.f76) rfl rfl 3 [.id 0, .id 1, .id 2, .id 3] .nil (by kernel_rfl) (by kernel_rfl)
theorem dMode (s : DramS)  : Sp P 68 [.pt 0 0] (ros (bDram s 0)) (vi s.mode) (ros (bDram s 0)) :=
 Sp.of (fn := Tryz.f68) rfl rfl 3 [.id 0, .id 1, .id 2, .id 3] .nil (by kernel_rfl) (by kernel_rfl)
def dLook_v0 (s : DramS) (i : Int) : Nat → Nat := bif decide (s.g.atE i = 0) then (overlay_v0 s.mode s.la (s.g.at i) (s.c i)) else (fun _ => 0)
def dLook_v1 (s : DramS) (i : Int) : Int := bif decide (s.g.atE i = 0) then 0 else (s.g.atE i)
theorem dLook (s : DramS) (i : Int) (ok : DramOk s) : Sp P 215 [.pt 0 0, vi i] (ros (bDram s 0)) (.tu [.ar .u8 72 (nf (dLook_v0 s i)), vi (dLook_v1 s i)]) (ros (bDram s 0)) := by
 generalize hd0 : dLook_v0 s i = zzhd0
 unfold dLook_v0 at hd0
 generalize hd1 : dLook_v1 s i = zzhd1
 unfold dLook_v1 at hd1
 rcases bft (decide (s.g.atE i = 0)) with q1 | q1
 ·skip
  try rw [cpos q1] at hd0
  try rw [cpos q1] at hd1
  have q1' := of_decide_eq_true q1
  subst hd0 hd1
  exact Sp.of (fn := Tryz.f215) rfl rfl 6 [.id 0, .id 1, .id 2, .id 3] (.c [] (gat_sp s.g i) (.g q1 (.c [.id 2] (overlay s.mode s.la (s.g.at i) (s.c i) ok.md (Nat.le_trans ok.ll (by decide)) (ok.c _) ok.la) .nil))) (by kernel_rfl) (by kernel_rfl)
 ·skip
  try rw [cneg q1] at hd0
  try rw [cneg q1] at hd1
  have q1' := of_decide_eq_false q1
  subst hd0 hd1
  exact Sp.of (fn := Tryz.f215) rfl rfl 4 [.id 0, .id 1, .id 2, .id 3] (.c [] (gat_sp s.g i) (.g q1 .nil)) (by kernel_rfl) (by kernel_rfl)
theorem fclone_cons (x : FltN) (l : List FltN) (hl : (x :: l).length ≤ 65536) : Sp P 250 [.sl 0] [.ro (.row eF (x :: l))] (.sl 1) [.ro (.row eF (x :: l)), .row eF (x :: l)] :=
 Sp.of (fn := Tryz.f250) rfl rfl 4 [.id 0, .id 3] (.n (.bs 5 (e := eF) [] (.ap (e := eF) (l := []) (l' := x :: l) .row .row (by simp only [List.length_nil, List.length_cons] at *; omega) .nil))) (by kernel_rfl) (by kernel_rfl)
theorem fclone_some (a : Addr) (c : Nat)  : Sp P 250 [.v (.slice (some a) 0 c)] [.ro (.row eF [])] (.sl 1) [.ro (.row eF []), .row eF []] :=
 Sp.of (fn := Tryz.f250) rfl rfl 4 [.id 0, .id 3] (.n (.bs 5 (e := eF) [] (.ap (e := eF) (l := []) (l' := []) .row (.flat [] [] rfl) (by decide) .nil))) (by kernel_rfl) (by kernel_rfl)
theorem fclone_nil   : Sp P 250 [nilS] [.ro (.row eF [])] (.sl 1) [.ro (.row eF []), .row eF []] :=
 Sp.of (fn := Tryz.f250) rfl rfl 3 [.id 0, .nil] (.y .nil) (by kernel_rfl) (by kernel_rfl)
theorem fclone (l : List FltN) (hl : l.length ≤ 65536) : Sp P 250 [.sl 0] [.ro (.row eF l)] (.sl 1) [.ro (.row eF l), .row eF l] := by
 cases l with
 | cons x l => exact fclone_cons x l hl
 | nil =>
  have hA := fclone_nil
  refine ⟨⟨rfl, rfl⟩, hA.ln, hA.fr, hA.rs, hA.ro, fun ρ M w h => ?_⟩
  obtain ⟨h1, h2, h3, h4⟩ := h.row (g := 0) rfl rfl
  cases ha : (ρ 0).a with
  | none =>
   cases hea : (ρ 0).ea with
   | none =>
    have e : V.dens ρ [V.sl 0] = V.dens ρ [nilS] := by simp only [V.dens, V.den, Loc.slv_none ha, Loc.emp, hea]
    rw [e]; exact hA.out ρ M w h
   | some A =>
    have e : V.dens ρ [V.sl 0] = V.dens ρ [V.v (.slice (some A) 0 (ρ 0).ec)] := by simp only [V.dens, V.den, Loc.slv_none ha, Loc.emp, hea]
    rw [e]; exact (fclone_some _ _).out ρ M w h
  | some a =>
   have e : V.dens ρ [V.sl 0] = V.dens ρ [V.v (.slice (some ((ρ 0).adr 0)) 0 (ρ 0).cap)] := by simp only [V.dens, V.den, slv_some ha, h1, List.length_nil]
   rw [e]; exact (fclone_some _ _).out ρ M w h
theorem dadd_full (l : List FltN) (f : FltN) (h : decide (256 ≤ ((l.length : Nat) : Int)) = true) : Sp P 188 [.sl 0, .ag [vi f.kind, vi f.rank, vi f.bank, vi f.row, vi f.col, vn f.chip, vn f.bit, vn f.value]] [.ro (.row eF l)] (.tu [.sl 0, vn 14]) [.ro (.row eF l)] :=
 Sp.of (fn := Tryz.f188) rfl rfl 3 [.id 0] (.t h .nil) (by kernel_rfl) (by kernel_rfl)
theorem dadd_la (l : List FltN) (f : FltN) (g : Gm) (m : Int) (h : decide (256 ≤ ((l.length : Nat) : Int)) = false) : Sp P 188 [.sl 0, .ag [vi f.kind, vi f.rank, vi f.bank, vi f.row, vi f.col, vn f.chip, vn f.bit, vn f.value]] [.row eF l, .blk [vi g.ranks, vi g.spares, vi g.banks, vi g.rows, vi g.cols, vi m, .mp 2, .sl 0, .sl 3] 203, .ro (.gone), .ro (.gone)] (.tu [.sl 4, vn 0]) [.gone, .blk [vi g.ranks, vi g.spares, vi g.banks, vi g.rows, vi g.cols, vi m, .mp 2, .sl 0, .sl 3] 203, .ro (.gone), .ro (.gone), .row eF (l ++ [f])] :=
 Sp.of (fn := Tryz.f188) rfl rfl 5 [.id 0, .id 1, .id 2, .id 3, .id 7] (.t h (.ap (e := eF) (l := l) (l' := [f]) .row (.flat [vi f.kind, vi f.rank, vi f.bank, vi f.row, vi f.col, vn f.chip, vn f.bit, vn f.value] [f] rfl) (by have := of_decide_eq_false h; simp only [List.length_cons, List.length_nil]; omega) .nil)) (by kernel_rfl) (by kernel_rfl)
theorem dadd_co (l : List FltN) (f : FltN) (g : Gm) (m : Int) (h : decide (256 ≤ ((l.length : Nat) : Int)) = false) : Sp P 188 [.sl 0, .ag [vi f.kind, vi f.rank, vi f.bank, vi f.row, vi f.col, vn f.chip, vn f.bit, vn f.value]] [.row eF l, .blk [vi g.ranks, vi g.spares, vi g.banks, vi g.rows, vi g.cols, vi m, .mp 2, .sl 3, .sl 0] 203, .ro (.gone), .ro (.gone)] (.tu [.sl 4, vn 0]) [.gone, .blk [vi g.ranks, vi g.spares, vi g.banks, vi g.rows, vi g.cols, vi m, .mp 2, .sl 3, .sl 0] 203, .ro (.gone), .ro (.gone), .row eF (l ++ [f])] :=
 Sp.of (fn := Tryz.f188) rfl rfl 5 [.id 0, .id 1, .id 2, .id 3, .id 7] (.t h (.ap (e := eF) (l := l) (l' := [f]) .row (.flat [vi f.kind, vi f.rank, vi f.bank, vi f.row, vi f.col, vn f.chip, vn f.bit, vn f.value] [f] rfl) (by have := of_decide_eq_false h; simp only [List.length_cons, List.length_nil]; omega) .nil)) (by kernel_rfl) (by kernel_rfl)
def dInjectN_s (s : DramS) (f : FltN) : DramS := bif decide (f.kind = 1) then { s with c := upZ s.c (s.g.ix (⟨f.rank, f.bank, f.row, f.col⟩ : Pl)) (flpF (s.c (s.g.ix (⟨f.rank, f.bank, f.row, f.col⟩ : Pl))) f.bit) } else (bif (lasts_v0 (⟨f.kind, f.rank, f.bank, f.row, f.col, ((f.chip : Nat) : Int), ((f.bit : Nat) : Int), ((f.value : Nat) : Int)⟩ : Flt)) then (bif decide (256 ≤ ((s.la.length : Nat) : Int)) then s else { s with la := s.la ++ [f] }) else (bif decide (256 ≤ ((s.co.length : Nat) : Int)) then s else { s with co := s.co ++ [f] }))
def dInjectN_v0 (s : DramS) (f : FltN) : Int := bif decide (f.kind = 1) then (s.g.ixE (⟨f.rank, f.bank, f.row, f.col⟩ : Pl)) else (bif (lasts_v0 (⟨f.kind, f.rank, f.bank, f.row, f.col, ((f.chip : Nat) : Int), ((f.bit : Nat) : Int), ((f.value : Nat) : Int)⟩ : Flt)) then (bif decide (256 ≤ ((s.la.length : Nat) : Int)) then 14 else 0) else (bif decide (256 ≤ ((s.co.length : Nat) : Int)) then 14 else 0))
theorem dInjectN (s : DramS) (f : FltN) (ok : DramOk s) (hf : fright_v0 s.mode f.flt s.g = true) : Sp P 139 [.pt 0 0, .ag [vi f.kind, vi f.rank, vi f.bank, vi f.row, vi f.col, vn f.chip, vn f.bit, vn f.value]] (bDram s 0) (vi (dInjectN_v0 s f)) (bDram (dInjectN_s s f) 0) := by
 generalize hd0 : dInjectN_s s f = zzhd0
 unfold dInjectN_s at hd0
 generalize hd1 : dInjectN_v0 s f = zzhd1
 unfold dInjectN_v0 at hd1
 rcases bft (decide (f.kind = 1)) with q1 | q1
 ·skip
  try rw [cpos q1] at hd0
  try rw [cpos q1] at hd1
  have q1' := of_decide_eq_true q1
  subst hd0 hd1
  exact Sp.of (fn := Tryz.f139) rfl rfl 7 [.id 0, .id 1, .id 2, .id 3] (.c [] (fright s.mode (⟨f.kind, f.rank, f.bank, f.row, f.col, ((f.chip : Nat) : Int), ((f.bit : Nat) : Int), ((f.value : Nat) : Int)⟩ : Flt) s.g ok.md) (.t (congrArg (!·) (show (fright_v0 s.mode (⟨f.kind, f.rank, f.bank, f.row, f.col, ((f.chip : Nat) : Int), ((f.bit : Nat) : Int), ((f.value : Nat) : Int)⟩ : Flt) s.g) = true from hf)) (.t q1 (.c [] (gindex_sp s.g (⟨f.rank, f.bank, f.row, f.col⟩ : Pl)) (.c [] (flip_sp (s.c (s.g.ix (⟨f.rank, f.bank, f.row, f.col⟩ : Pl))) f.bit (ok.c _) ((FltN.okR ok.md hf).2.1)) (.mu (mpB_up s.c (s.g.ix (⟨f.rank, f.bank, f.row, f.col⟩ : Pl)) (flpF (s.c (s.g.ix (⟨f.rank, f.bank, f.row, f.col⟩ : Pl))) f.bit)) .nil)))))) (by kernel_rfl) (by kernel_rfl)
 ·skip
  try rw [cneg q1] at hd0
  try rw [cneg q1] at hd1
  have q1' := of_decide_eq_false q1
  rcases bft (lasts_v0 (⟨f.kind, f.rank, f.bank, f.row, f.col, ((f.chip : Nat) : Int), ((f.bit : Nat) : Int), ((f.value : Nat) : Int)⟩ : Flt)) with q2 | q2
  ·skip
   try rw [cpos q2] at hd0
   try rw [cpos q2] at hd1
   rcases bft (decide (256 ≤ ((s.la.length : Nat) : Int))) with q3 | q3
   ·skip
    try rw [cpos q3] at hd0
    try rw [cpos q3] at hd1
    have q3' := of_decide_eq_true q3
    subst hd0 hd1
    exact Sp.of (fn := Tryz.f139) rfl rfl 6 [.id 0, .id 1, .id 2, .id 3] (.c [] (fright s.mode (⟨f.kind, f.rank, f.bank, f.row, f.col, ((f.chip : Nat) : Int), ((f.bit : Nat) : Int), ((f.value : Nat) : Int)⟩ : Flt) s.g ok.md) (.t (congrArg (!·) (show (fright_v0 s.mode (⟨f.kind, f.rank, f.bank, f.row, f.col, ((f.chip : Nat) : Int), ((f.bit : Nat) : Int), ((f.value : Nat) : Int)⟩ : Flt) s.g) = true from hf)) (.t q1 (.c [] (lasts (⟨f.kind, f.rank, f.bank, f.row, f.col, ((f.chip : Nat) : Int), ((f.bit : Nat) : Int), ((f.value : Nat) : Int)⟩ : Flt)) (.t q2 (.c [.id 2] (dadd_full s.la f (by first | assumption | omega)) .nil)))))) (by kernel_rfl) (by kernel_rfl)
   ·skip
    try rw [cneg q3] at hd0
    try rw [cneg q3] at hd1
    have q3' := of_decide_eq_false q3
    subst hd0 hd1
    exact Sp.of (fn := Tryz.f139) rfl rfl 6 [.id 0, .id 1, .id 7, .id 3] (.c [] (fright s.mode (⟨f.kind, f.rank, f.bank, f.row, f.col, ((f.chip : Nat) : Int), ((f.bit : Nat) : Int), ((f.value : Nat) : Int)⟩ : Flt) s.g ok.md) (.t (congrArg (!·) (show (fright_v0 s.mode (⟨f.kind, f.rank, f.bank, f.row, f.col, ((f.chip : Nat) : Int), ((f.bit : Nat) : Int), ((f.value : Nat) : Int)⟩ : Flt) s.g) = true from hf)) (.t q1 (.c [] (lasts (⟨f.kind, f.rank, f.bank, f.row, f.col, ((f.chip : Nat) : Int), ((f.bit : Nat) : Int), ((f.value : Nat) : Int)⟩ : Flt)) (.t q2 (.c [.id 2, .id 0, .id 1, .id 3] (dadd_la s.la f s.g s.mode (by first | assumption | omega)) .nil)))))) (by kernel_rfl) (by kernel_rfl)
  ·skip
   try rw [cneg q2] at hd0
   try rw [cneg q2] at hd1
   rcases bft (decide (256 ≤ ((s.co.length : Nat) : Int))) with q3 | q3
   ·skip
    try rw [cpos q3] at hd0
    try rw [cpos q3] at hd1
    have q3' := of_decide_eq_true q3
    subst hd0 hd1
    exact Sp.of (fn := Tryz.f139) rfl rfl 6 [.id 0, .id 1, .id 2, .id 3] (.c [] (fright s.mode (⟨f.kind, f.rank, f.bank, f.row, f.col, ((f.chip : Nat) : Int), ((f.bit : Nat) : Int), ((f.value : Nat) : Int)⟩ : Flt) s.g ok.md) (.t (congrArg (!·) (show (fright_v0 s.mode (⟨f.kind, f.rank, f.bank, f.row, f.col, ((f.chip : Nat) : Int), ((f.bit : Nat) : Int), ((f.value : Nat) : Int)⟩ : Flt) s.g) = true from hf)) (.t q1 (.c [] (lasts (⟨f.kind, f.rank, f.bank, f.row, f.col, ((f.chip : Nat) : Int), ((f.bit : Nat) : Int), ((f.value : Nat) : Int)⟩ : Flt)) (.t q2 (.c [.id 3] (dadd_full s.co f (by first | assumption | omega)) .nil)))))) (by kernel_rfl) (by kernel_rfl)
   ·skip
    try rw [cneg q3] at hd0
    try rw [cneg q3] at hd1
    have q3' := of_decide_eq_false q3
    subst hd0 hd1
    exact Sp.of (fn := Tryz.f139) rfl rfl 6 [.id 0, .id 1, .id 2, .id 7] (.c [] (fright s.mode (⟨f.kind, f.rank, f.bank, f.row, f.col, ((f.chip : Nat) : Int), ((f.bit : Nat) : Int), ((f.value : Nat) : Int)⟩ : Flt) s.g ok.md) (.t (congrArg (!·) (show (fright_v0 s.mode (⟨f.kind, f.rank, f.bank, f.row, f.col, ((f.chip : Nat) : Int), ((f.bit : Nat) : Int), ((f.value : Nat) : Int)⟩ : Flt) s.g) = true from hf)) (.t q1 (.c [] (lasts (⟨f.kind, f.rank, f.bank, f.row, f.col, ((f.chip : Nat) : Int), ((f.bit : Nat) : Int), ((f.value : Nat) : Int)⟩ : Flt)) (.t q2 (.c [.id 3, .id 0, .id 1, .id 2] (dadd_co s.co f s.g s.mode (by first | assumption | omega)) .nil)))))) (by kernel_rfl) (by kernel_rfl)
end Go.Proofs.YtghfannbcopjmaaGreat
