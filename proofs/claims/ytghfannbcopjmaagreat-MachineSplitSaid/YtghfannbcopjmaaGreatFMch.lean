import Derived.Test.YtghfannbcopjmaaGreatFCtl
import Derived.Test.YtghfannbcopjmaaGreatFScr
namespace Go.Proofs.YtghfannbcopjmaaGreat
open Go Go.RowKit
set_option linter.unusedVariables false
set_option linter.unusedSimpArgs false
set_option maxRecDepth 100000
def stpRight (x : Stp) : Bool := bif decide (x.kind = 8) then (bif decide (x.f.kind = 1) then sright8_1_v0 x.line x.data x.mask x.f.rank x.f.bank x.f.row x.f.col x.f.chip x.f.bit x.f.value else (bif decide (x.f.kind = 2) then sright8_2_v0 x.line x.data x.mask x.f.rank x.f.bank x.f.row x.f.col x.f.chip x.f.bit x.f.value else (bif decide (x.f.kind = 3) then sright8_3_v0 x.line x.data x.mask x.f.rank x.f.bank x.f.row x.f.col x.f.chip x.f.bit x.f.value else (bif decide (x.f.kind = 4) then sright8_4_v0 x.line x.data x.mask x.f.rank x.f.bank x.f.row x.f.col x.f.chip x.f.bit x.f.value else (bif decide (x.f.kind = 5) then sright8_5_v0 x.line x.data x.mask x.f.rank x.f.bank x.f.row x.f.col x.f.chip x.f.bit x.f.value else (bif decide (x.f.kind = 6) then sright8_6_v0 x.line x.data x.mask x.f.rank x.f.bank x.f.row x.f.col x.f.chip x.f.bit x.f.value else (bif decide (x.f.kind = 7) then sright8_7_v0 x.line x.data x.mask x.f.rank x.f.bank x.f.row x.f.col x.f.chip x.f.bit x.f.value else (sright8_o_v0 x.line x.data x.mask x.f.kind x.f.rank x.f.bank x.f.row x.f.col x.f.chip x.f.bit x.f.value)))))))) else sright_v0 x.kind x.line x.data x.mask x.f.kind x.f.rank x.f.bank x.f.row x.f.col x.f.chip x.f.bit x.f.value
theorem sRight (x : Stp) : Sp P 14 [.ag [vi x.kind, vi x.line, .ar .u8 64 (nf x.data), vu x.mask, vi x.f.kind, vi x.f.rank, vi x.f.bank, vi x.f.row, vi x.f.col, vi x.f.chip, vi x.f.bit, vi x.f.value]] [] (vt (stpRight x)) [] := by
 unfold stpRight
 obtain ⟨k, ln, d, m, ⟨f0, f1, f2, f3, f4, f5, f6, f7⟩⟩ := x
 dsimp only
 rcases bft (decide (k = 8)) with h | h
 ·rw [cpos h]; have e := of_decide_eq_true h; subst e
  rcases bft (decide (f0 = 1)) with n1 | n1
  ·rw [cpos n1]; have e := of_decide_eq_true n1; subst e; exact sright8_1 ln d m f1 f2 f3 f4 f5 f6 f7
  ·rw [cneg n1]
   rcases bft (decide (f0 = 2)) with n2 | n2
   ·rw [cpos n2]; have e := of_decide_eq_true n2; subst e; exact sright8_2 ln d m f1 f2 f3 f4 f5 f6 f7
   ·rw [cneg n2]
    rcases bft (decide (f0 = 3)) with n3 | n3
    ·rw [cpos n3]; have e := of_decide_eq_true n3; subst e; exact sright8_3 ln d m f1 f2 f3 f4 f5 f6 f7
    ·rw [cneg n3]
     rcases bft (decide (f0 = 4)) with n4 | n4
     ·rw [cpos n4]; have e := of_decide_eq_true n4; subst e; exact sright8_4 ln d m f1 f2 f3 f4 f5 f6 f7
     ·rw [cneg n4]
      rcases bft (decide (f0 = 5)) with n5 | n5
      ·rw [cpos n5]; have e := of_decide_eq_true n5; subst e; exact sright8_5 ln d m f1 f2 f3 f4 f5 f6 f7
      ·rw [cneg n5]
       rcases bft (decide (f0 = 6)) with n6 | n6
       ·rw [cpos n6]; have e := of_decide_eq_true n6; subst e; exact sright8_6 ln d m f1 f2 f3 f4 f5 f6 f7
       ·rw [cneg n6]
        rcases bft (decide (f0 = 7)) with n7 | n7
        ·rw [cpos n7]; have e := of_decide_eq_true n7; subst e; exact sright8_7 ln d m f1 f2 f3 f4 f5 f6 f7
        ·rw [cneg n7]
         exact sright8_o ln d m f0 f1 f2 f3 f4 f5 f6 f7 n1 n2 n3 n4 n5 n6 n7
 ·rw [cneg h]; exact sright k ln d m f0 f1 f2 f3 f4 f5 f6 f7 h
structure StpOk (x : Stp) : Prop where
 d : ∀ j, x.data j < 256
 m : x.mask < 18446744073709551616
structure MchOk (n : Nat) (s : MchS) : Prop where
 c : CtlOk n s.c
 id : ∀ k j, s.ideal k j < 256
 il : s.inj.length ≤ n
 sl : s.srv.length ≤ n
 ly : lyRight_v0 s.c.le.c.ly = true
theorem MchOk.mono {n m : Nat} {s : MchS} (h : MchOk n s) (hm : n ≤ m) : MchOk m s := ⟨h.c.mono hm, h.id, Nat.le_trans h.il hm, Nat.le_trans h.sl hm, h.ly⟩
def mInject_s (s : MchS) (f : Flt) : MchS := bif decide ((dInject_v0 s.c.d.d f) = 0) then { s with c := { s.c with d := (vInject_s s.c.d f) }, inj := s.inj ++ [(⟨f, s.scrubs, ((s.c.d.l.length : Nat) : Int)⟩ : Inj)] } else { s with c := { s.c with d := (vInject_s s.c.d f) } }
theorem mInject (s : MchS) (f : Flt) (ok : MchOk 96000000 s) : Sp P 55 [.pt 0 0, .ag [vi f.kind, vi f.rank, vi f.bank, vi f.row, vi f.col, vi f.chip, vi f.bit, vi f.value]] ([.blk [.pt 16 0, .pt 1 0, .mp 30, .sl 31, .sl 32, vi s.scrubs, vi s.steps] 108] ++ bCtl s.c 1 ++ ros (bCode 25) ++ [.mp (.ar .u8 64 (nf (fun _ => 0))) (mpC s.ideal), .row eInj s.inj, .row eSrv s.srv]) (.ag [vi (dInject_v0 s.c.d.d f), vn 0, .ar .u8 64 (fun _ => 0)]) ([.blk [.pt 16 0, .pt 1 0, .mp 30, .sl 31, .sl 32, vi (mInject_s s f).scrubs, vi (mInject_s s f).steps] 108] ++ bCtl (mInject_s s f).c 1 ++ ros (bCode 25) ++ [.mp (.ar .u8 64 (nf (fun _ => 0))) (mpC (mInject_s s f).ideal), .row eInj (mInject_s s f).inj, .row eSrv (mInject_s s f).srv]) := by
 generalize hd0 : mInject_s s f = zzhd0
 unfold mInject_s at hd0
 rcases bft (decide ((dInject_v0 s.c.d.d f) = 0)) with q1 | q1
 ·skip
  try rw [cpos q1] at hd0
  have q1' := of_decide_eq_true q1
  subst hd0
  exact Sp.of (fn := Tryz.f55) rfl rfl 11 [.id 0, .id 1, .id 2, .id 3, .id 4, .id 5, .id 6, .id 7, .id 8, .id 9, .id 10, .id 11, .id 12, .id 13, .id 14, .id 15, .id 16, .id 17, .id 18, .id 19, .id 20, .id 21, .id 22, .id 23, .id 24, .id 25, .id 26, .id 27, .id 28, .id 29, .id 30, .id 41, .id 32] (.c [.id 16, .id 17, .id 18, .id 19, .id 20, .id 21, .id 22, .id 23] (vCount s.c.d) (.c [.id 16, .id 17, .id 18, .id 19, .id 20, .id 21, .id 22, .id 23] (vInject s.c.d f ok.c.d) (.t q1 (.ap (e := eInj) (l := s.inj) (l' := [(⟨f, s.scrubs, ((s.c.d.l.length : Nat) : Int)⟩ : Inj)]) .row (.flat [vi f.kind, vi f.rank, vi f.bank, vi f.row, vi f.col, vi f.chip, vi f.bit, vi f.value, vi s.scrubs, vn s.c.d.l.length] [(⟨f, s.scrubs, ((s.c.d.l.length : Nat) : Int)⟩ : Inj)] rfl) (by have := ok.il; have := ok.sl; simp only [List.length_cons, List.length_nil]; omega) .nil)))) (by kernel_rfl) (by kernel_rfl)
 ·skip
  try rw [cneg q1] at hd0
  have q1' := of_decide_eq_false q1
  subst hd0
  exact Sp.of (fn := Tryz.f55) rfl rfl 8 [.id 0, .id 1, .id 2, .id 3, .id 4, .id 5, .id 6, .id 7, .id 8, .id 9, .id 10, .id 11, .id 12, .id 13, .id 14, .id 15, .id 16, .id 17, .id 18, .id 19, .id 20, .id 21, .id 22, .id 23, .id 24, .id 25, .id 26, .id 27, .id 28, .id 29, .id 30, .id 31, .id 32] (.c [.id 16, .id 17, .id 18, .id 19, .id 20, .id 21, .id 22, .id 23] (vCount s.c.d) (.c [.id 16, .id 17, .id 18, .id 19, .id 20, .id 21, .id 22, .id 23] (vInject s.c.d f ok.c.d) (.t q1 .nil))) (by kernel_rfl) (by kernel_rfl)
def mRequest_s (s : MchS) (x : Stp) : MchS := bif decide (x.kind = 1) then (bif decide ((((cread_v1 s.c x.line s.c.le.c.back) : Nat) : Int) = 30) then { s with c := (cread_s s.c x.line s.c.le.c.back) } else { s with c := (cread_s s.c x.line s.c.le.c.back), srv := s.srv ++ [(⟨x, (⟨(((cread_v1 s.c x.line s.c.le.c.back) : Nat) : Int), 0, cread_v0 s.c x.line s.c.le.c.back⟩ : Ans), s.ideal x.line, ((s.c.d.l.length : Nat) : Int), (((cread_s s.c x.line s.c.le.c.back).d.l.length : Nat) : Int)⟩ : Srv)] }) else (bif decide (x.kind = 2) then (bif decide ((((cMasked_v0 s.c x.line (arL x.data 64 0) 18446744073709551615) : Nat) : Int) = 30) then { s with c := (cWrite_s s.c x.line (arL x.data 64 0)) } else (⟨(cWrite_s s.c x.line (arL x.data 64 0)), upZ s.ideal x.line (mgF (s.ideal x.line) x.data 18446744073709551615), s.inj, (s.srv ++ [(⟨x, (⟨(((cMasked_v0 s.c x.line (arL x.data 64 0) 18446744073709551615) : Nat) : Int), 0, fun _ => 0⟩ : Ans), s.ideal x.line, ((s.c.d.l.length : Nat) : Int), (((cWrite_s s.c x.line (arL x.data 64 0)).d.l.length : Nat) : Int)⟩ : Srv)]), s.scrubs, s.steps⟩ : MchS)) else (bif decide ((((cMasked_v0 s.c x.line (arL x.data 64 0) x.mask) : Nat) : Int) = 30) then { s with c := (cMasked_s s.c x.line (arL x.data 64 0) x.mask) } else (⟨(cMasked_s s.c x.line (arL x.data 64 0) x.mask), upZ s.ideal x.line (mgF (s.ideal x.line) x.data x.mask), s.inj, (s.srv ++ [(⟨x, (⟨(((cMasked_v0 s.c x.line (arL x.data 64 0) x.mask) : Nat) : Int), 0, fun _ => 0⟩ : Ans), s.ideal x.line, ((s.c.d.l.length : Nat) : Int), (((cMasked_s s.c x.line (arL x.data 64 0) x.mask).d.l.length : Nat) : Int)⟩ : Srv)]), s.scrubs, s.steps⟩ : MchS)))
def mRequest_v0 (s : MchS) (x : Stp) : Nat := bif decide (x.kind = 1) then (cread_v1 s.c x.line s.c.le.c.back) else (bif decide (x.kind = 2) then (cMasked_v0 s.c x.line (arL x.data 64 0) 18446744073709551615) else (cMasked_v0 s.c x.line (arL x.data 64 0) x.mask))
def mRequest_v1 (s : MchS) (x : Stp) : Nat → Nat := bif decide (x.kind = 1) then (cread_v0 s.c x.line s.c.le.c.back) else (fun _ => 0)
theorem mRequest (s : MchS) (x : Stp) (ok : MchOk 96000000 s) (so : StpOk x) : Sp P 56 [.pt 0 0, .ag [vi x.kind, vi x.line, .ar .u8 64 (nf x.data), vu x.mask, vi x.f.kind, vi x.f.rank, vi x.f.bank, vi x.f.row, vi x.f.col, vi x.f.chip, vi x.f.bit, vi x.f.value]] ([.blk [.pt 16 0, .pt 1 0, .mp 30, .sl 31, .sl 32, vi s.scrubs, vi s.steps] 108] ++ bCtl s.c 1 ++ ros (bCode 25) ++ [.mp (.ar .u8 64 (nf (fun _ => 0))) (mpC s.ideal), .row eInj s.inj, .row eSrv s.srv]) (.ag [vn (mRequest_v0 s x), vn 0, .ar .u8 64 (nf (mRequest_v1 s x))]) ([.blk [.pt 16 0, .pt 1 0, .mp 30, .sl 31, .sl 32, vi (mRequest_s s x).scrubs, vi (mRequest_s s x).steps] 108] ++ bCtl (mRequest_s s x).c 1 ++ ros (bCode 25) ++ [.mp (.ar .u8 64 (nf (fun _ => 0))) (mpC (mRequest_s s x).ideal), .row eInj (mRequest_s s x).inj, .row eSrv (mRequest_s s x).srv]) := by
 generalize hd0 : mRequest_s s x = zzhd0
 unfold mRequest_s at hd0
 generalize hd1 : mRequest_v0 s x = zzhd1
 unfold mRequest_v0 at hd1
 generalize hd2 : mRequest_v1 s x = zzhd2
 unfold mRequest_v1 at hd2
 rcases bft (decide (x.kind = 1)) with q1 | q1
 ·skip
  try rw [cpos q1] at hd0
  try rw [cpos q1] at hd1
  try rw [cpos q1] at hd2
  have q1' := of_decide_eq_true q1
  rcases bft (decide ((((cread_v1 s.c x.line s.c.le.c.back) : Nat) : Int) = 30)) with q2 | q2
  ·skip
   try rw [cpos q2] at hd0
   try rw [cpos q2] at hd1
   try rw [cpos q2] at hd2
   have q2' := of_decide_eq_true q2
   subst hd0 hd1 hd2
   exact Sp.of (fn := Tryz.f56) rfl rfl 10 [.id 0, .id 1, .id 2, .id 3, .id 4, .id 5, .id 6, .id 7, .id 8, .id 9, .id 10, .id 11, .id 12, .id 13, .id 14, .id 15, .id 16, .id 17, .id 18, .id 19, .id 20, .id 21, .id 22, .id 23, .id 24, .id 25, .id 26, .id 27, .id 28, .id 29, .id 30, .id 31, .id 32] (.c [.id 16, .id 17, .id 18, .id 19, .id 20, .id 21, .id 22, .id 23] (vCount s.c.d) (.t q1 (.c [.id 1, .id 2, .id 3, .id 4, .id 5, .id 6, .id 7, .id 8, .id 9, .id 10, .id 11, .id 12, .id 13, .id 14, .id 15, .id 16, .id 17, .id 18, .id 19, .id 20, .id 21, .id 22, .id 23, .id 24, .id 25, .id 26, .id 27, .id 28, .id 29] (cRead s.c x.line (ok.c.mono (by decide))) (.t q2 .nil)))) (by kernel_rfl) (by kernel_rfl)
  ·skip
   try rw [cneg q2] at hd0
   try rw [cneg q2] at hd1
   try rw [cneg q2] at hd2
   have q2' := of_decide_eq_false q2
   subst hd0 hd1 hd2
   exact Sp.of (fn := Tryz.f56) rfl rfl 13 [.id 0, .id 1, .id 2, .id 3, .id 4, .id 5, .id 6, .id 7, .id 8, .id 9, .id 10, .id 11, .id 12, .id 13, .id 14, .id 15, .id 16, .id 17, .id 18, .id 19, .id 20, .id 21, .id 22, .id 23, .id 24, .id 25, .id 26, .id 27, .id 28, .id 29, .id 30, .id 31, .id 43] (.c [.id 16, .id 17, .id 18, .id 19, .id 20, .id 21, .id 22, .id 23] (vCount s.c.d) (.t q1 (.c [.id 1, .id 2, .id 3, .id 4, .id 5, .id 6, .id 7, .id 8, .id 9, .id 10, .id 11, .id 12, .id 13, .id 14, .id 15, .id 16, .id 17, .id 18, .id 19, .id 20, .id 21, .id 22, .id 23, .id 24, .id 25, .id 26, .id 27, .id 28, .id 29] (cRead s.c x.line (ok.c.mono (by decide))) (.t q2 (.g q1 (.c [.id 16, .id 17, .id 18, .id 19, .id 20, .id 21, .id 22, .id 23] (vCount (cread_s s.c x.line s.c.le.c.back).d) (.ap (e := eSrv) (l := s.srv) (l' := [(⟨x, (⟨(((cread_v1 s.c x.line s.c.le.c.back) : Nat) : Int), 0, cread_v0 s.c x.line s.c.le.c.back⟩ : Ans), s.ideal x.line, ((s.c.d.l.length : Nat) : Int), (((cread_s s.c x.line s.c.le.c.back).d.l.length : Nat) : Int)⟩ : Srv)]) .row (.flat [vi x.kind, vi x.line, .ar .u8 64 (nf x.data), vu x.mask, vi x.f.kind, vi x.f.rank, vi x.f.bank, vi x.f.row, vi x.f.col, vi x.f.chip, vi x.f.bit, vi x.f.value, vn (cread_v1 s.c x.line s.c.le.c.back), vn 0, .ar .u8 64 (nf (cread_v0 s.c x.line s.c.le.c.back)), .ar .u8 64 (nf (s.ideal x.line)), vn s.c.d.l.length, vn (cread_s s.c x.line s.c.le.c.back).d.l.length] [(⟨x, (⟨(((cread_v1 s.c x.line s.c.le.c.back) : Nat) : Int), 0, cread_v0 s.c x.line s.c.le.c.back⟩ : Ans), s.ideal x.line, ((s.c.d.l.length : Nat) : Int), (((cread_s s.c x.line s.c.le.c.back).d.l.length : Nat) : Int)⟩ : Srv)] rfl) (by have := ok.il; have := ok.sl; simp only [List.length_cons, List.length_nil]; omega) .nil))))))) (by kernel_rfl) (by kernel_rfl)
 ·skip
  try rw [cneg q1] at hd0
  try rw [cneg q1] at hd1
  try rw [cneg q1] at hd2
  have q1' := of_decide_eq_false q1
  rcases bft (decide (x.kind = 2)) with q2 | q2
  ·skip
   try rw [cpos q2] at hd0
   try rw [cpos q2] at hd1
   try rw [cpos q2] at hd2
   have q2' := of_decide_eq_true q2
   rcases bft (decide ((((cMasked_v0 s.c x.line (arL x.data 64 0) 18446744073709551615) : Nat) : Int) = 30)) with q3 | q3
   ·skip
    try rw [cpos q3] at hd0
    try rw [cpos q3] at hd1
    try rw [cpos q3] at hd2
    have q3' := of_decide_eq_true q3
    subst hd0 hd1 hd2
    exact Sp.of (fn := Tryz.f56) rfl rfl 9 [.id 0, .id 1, .id 2, .id 3, .id 4, .id 5, .id 6, .id 7, .id 8, .id 9, .id 10, .id 11, .id 12, .id 13, .id 14, .id 15, .id 16, .id 17, .id 18, .id 19, .id 20, .id 21, .id 22, .id 23, .id 24, .id 25, .id 26, .id 27, .id 28, .id 29, .id 30, .id 31, .id 32] (.c [.id 16, .id 17, .id 18, .id 19, .id 20, .id 21, .id 22, .id 23] (vCount s.c.d) (.t q1 (.t q2 (.c [.id 1, .id 2, .id 3, .id 4, .id 5, .id 6, .id 7, .id 8, .id 9, .id 10, .id 11, .id 12, .id 13, .id 14, .id 15, .id 16, .id 17, .id 18, .id 19, .id 20, .id 21, .id 22, .id 23, .id 24, .id 25, .id 26, .id 27, .id 28, .id 29, .sg 34 2 1 64] (cWrite s.c x.line (arL x.data 64 0) (ok.c.mono (by decide)) (arL_len _ _ _) (arL_B8 so.d _ _)) (.t q3 .nil))))) (by kernel_rfl) (by kernel_rfl)
   ·skip
    try rw [cneg q3] at hd0
    try rw [cneg q3] at hd1
    try rw [cneg q3] at hd2
    have q3' := of_decide_eq_false q3
    subst hd0 hd1 hd2
    exact Sp.of (fn := Tryz.f56) rfl rfl 14 [.id 0, .id 1, .id 2, .id 3, .id 4, .id 5, .id 6, .id 7, .id 8, .id 9, .id 10, .id 11, .id 12, .id 13, .id 14, .id 15, .id 16, .id 17, .id 18, .id 19, .id 20, .id 21, .id 22, .id 23, .id 24, .id 25, .id 26, .id 27, .id 28, .id 29, .id 30, .id 31, .id 44] (.c [.id 16, .id 17, .id 18, .id 19, .id 20, .id 21, .id 22, .id 23] (vCount s.c.d) (.t q1 (.t q2 (.c [.id 1, .id 2, .id 3, .id 4, .id 5, .id 6, .id 7, .id 8, .id 9, .id 10, .id 11, .id 12, .id 13, .id 14, .id 15, .id 16, .id 17, .id 18, .id 19, .id 20, .id 21, .id 22, .id 23, .id 24, .id 25, .id 26, .id 27, .id 28, .id 29, .sg 34 2 1 64] (cWrite s.c x.line (arL x.data 64 0) (ok.c.mono (by decide)) (arL_len _ _ _) (arL_B8 so.d _ _)) (.t q3 (.g q1 (.c [] (merge_sp (s.ideal x.line) x.data 18446744073709551615 (by decide)) (.mu (mpC_up s.ideal x.line (mgF (s.ideal x.line) x.data 18446744073709551615)) (.c [.id 16, .id 17, .id 18, .id 19, .id 20, .id 21, .id 22, .id 23] (vCount (cWrite_s s.c x.line (arL x.data 64 0)).d) (.ap (e := eSrv) (l := s.srv) (l' := [(⟨x, (⟨(((cMasked_v0 s.c x.line (arL x.data 64 0) 18446744073709551615) : Nat) : Int), 0, fun _ => 0⟩ : Ans), s.ideal x.line, ((s.c.d.l.length : Nat) : Int), (((cWrite_s s.c x.line (arL x.data 64 0)).d.l.length : Nat) : Int)⟩ : Srv)]) .row (.flat [vi x.kind, vi x.line, .ar .u8 64 (nf x.data), vu x.mask, vi x.f.kind, vi x.f.rank, vi x.f.bank, vi x.f.row, vi x.f.col, vi x.f.chip, vi x.f.bit, vi x.f.value, vn (cMasked_v0 s.c x.line (arL x.data 64 0) 18446744073709551615), vn 0, .ar .u8 64 (fun _ => 0), .ar .u8 64 (nf (s.ideal x.line)), vn s.c.d.l.length, vn (cWrite_s s.c x.line (arL x.data 64 0)).d.l.length] [(⟨x, (⟨(((cMasked_v0 s.c x.line (arL x.data 64 0) 18446744073709551615) : Nat) : Int), 0, fun _ => 0⟩ : Ans), s.ideal x.line, ((s.c.d.l.length : Nat) : Int), (((cWrite_s s.c x.line (arL x.data 64 0)).d.l.length : Nat) : Int)⟩ : Srv)] rfl) (by have := ok.il; have := ok.sl; simp only [List.length_cons, List.length_nil]; omega) .nil)))))))))) (by kernel_rfl) (by kernel_rfl)
  ·skip
   try rw [cneg q2] at hd0
   try rw [cneg q2] at hd1
   try rw [cneg q2] at hd2
   have q2' := of_decide_eq_false q2
   rcases bft (decide ((((cMasked_v0 s.c x.line (arL x.data 64 0) x.mask) : Nat) : Int) = 30)) with q3 | q3
   ·skip
    try rw [cpos q3] at hd0
    try rw [cpos q3] at hd1
    try rw [cpos q3] at hd2
    have q3' := of_decide_eq_true q3
    subst hd0 hd1 hd2
    exact Sp.of (fn := Tryz.f56) rfl rfl 9 [.id 0, .id 1, .id 2, .id 3, .id 4, .id 5, .id 6, .id 7, .id 8, .id 9, .id 10, .id 11, .id 12, .id 13, .id 14, .id 15, .id 16, .id 17, .id 18, .id 19, .id 20, .id 21, .id 22, .id 23, .id 24, .id 25, .id 26, .id 27, .id 28, .id 29, .id 30, .id 31, .id 32] (.c [.id 16, .id 17, .id 18, .id 19, .id 20, .id 21, .id 22, .id 23] (vCount s.c.d) (.t q1 (.t q2 (.c [.id 1, .id 2, .id 3, .id 4, .id 5, .id 6, .id 7, .id 8, .id 9, .id 10, .id 11, .id 12, .id 13, .id 14, .id 15, .id 16, .id 17, .id 18, .id 19, .id 20, .id 21, .id 22, .id 23, .id 24, .id 25, .id 26, .id 27, .id 28, .id 29, .sg 34 2 1 64] (cMasked s.c x.line (arL x.data 64 0) x.mask (ok.c.mono (by decide)) (arL_len _ _ _) (arL_B8 so.d _ _) so.m) (.t q3 .nil))))) (by kernel_rfl) (by kernel_rfl)
   ·skip
    try rw [cneg q3] at hd0
    try rw [cneg q3] at hd1
    try rw [cneg q3] at hd2
    have q3' := of_decide_eq_false q3
    subst hd0 hd1 hd2
    exact Sp.of (fn := Tryz.f56) rfl rfl 14 [.id 0, .id 1, .id 2, .id 3, .id 4, .id 5, .id 6, .id 7, .id 8, .id 9, .id 10, .id 11, .id 12, .id 13, .id 14, .id 15, .id 16, .id 17, .id 18, .id 19, .id 20, .id 21, .id 22, .id 23, .id 24, .id 25, .id 26, .id 27, .id 28, .id 29, .id 30, .id 31, .id 44] (.c [.id 16, .id 17, .id 18, .id 19, .id 20, .id 21, .id 22, .id 23] (vCount s.c.d) (.t q1 (.t q2 (.c [.id 1, .id 2, .id 3, .id 4, .id 5, .id 6, .id 7, .id 8, .id 9, .id 10, .id 11, .id 12, .id 13, .id 14, .id 15, .id 16, .id 17, .id 18, .id 19, .id 20, .id 21, .id 22, .id 23, .id 24, .id 25, .id 26, .id 27, .id 28, .id 29, .sg 34 2 1 64] (cMasked s.c x.line (arL x.data 64 0) x.mask (ok.c.mono (by decide)) (arL_len _ _ _) (arL_B8 so.d _ _) so.m) (.t q3 (.g q1 (.c [] (merge_sp (s.ideal x.line) x.data x.mask so.m) (.mu (mpC_up s.ideal x.line (mgF (s.ideal x.line) x.data x.mask)) (.c [.id 16, .id 17, .id 18, .id 19, .id 20, .id 21, .id 22, .id 23] (vCount (cMasked_s s.c x.line (arL x.data 64 0) x.mask).d) (.ap (e := eSrv) (l := s.srv) (l' := [(⟨x, (⟨(((cMasked_v0 s.c x.line (arL x.data 64 0) x.mask) : Nat) : Int), 0, fun _ => 0⟩ : Ans), s.ideal x.line, ((s.c.d.l.length : Nat) : Int), (((cMasked_s s.c x.line (arL x.data 64 0) x.mask).d.l.length : Nat) : Int)⟩ : Srv)]) .row (.flat [vi x.kind, vi x.line, .ar .u8 64 (nf x.data), vu x.mask, vi x.f.kind, vi x.f.rank, vi x.f.bank, vi x.f.row, vi x.f.col, vi x.f.chip, vi x.f.bit, vi x.f.value, vn (cMasked_v0 s.c x.line (arL x.data 64 0) x.mask), vn 0, .ar .u8 64 (fun _ => 0), .ar .u8 64 (nf (s.ideal x.line)), vn s.c.d.l.length, vn (cMasked_s s.c x.line (arL x.data 64 0) x.mask).d.l.length] [(⟨x, (⟨(((cMasked_v0 s.c x.line (arL x.data 64 0) x.mask) : Nat) : Int), 0, fun _ => 0⟩ : Ans), s.ideal x.line, ((s.c.d.l.length : Nat) : Int), (((cMasked_s s.c x.line (arL x.data 64 0) x.mask).d.l.length : Nat) : Int)⟩ : Srv)] rfl) (by have := ok.il; have := ok.sl; simp only [List.length_cons, List.length_nil]; omega) .nil)))))))))) (by kernel_rfl) (by kernel_rfl)
def mDo_s (s : MchS) (x : Stp) : MchS := bif (stpRight x) then (bif decide (x.kind = 4) then (⟨(cScrub_s s.c), s.ideal, s.inj, s.srv, IntKind.i64.wrap (s.scrubs + 1), IntKind.i64.wrap (s.steps + 1)⟩ : MchS) else (bif decide (x.kind = 5) then { s with c := (cCopy_s s.c), steps := IntKind.i64.wrap (s.steps + 1) } else (bif decide (x.kind = 6) then { s with c := (cTick_s s.c), steps := IntKind.i64.wrap (s.steps + 1) } else (bif decide (x.kind = 7) then { s with c := (cClear_s s.c), steps := IntKind.i64.wrap (s.steps + 1) } else (bif decide (x.kind = 8) then (mInject_s { s with steps := IntKind.i64.wrap (s.steps + 1) } x.f) else (mRequest_s { s with steps := IntKind.i64.wrap (s.steps + 1) } x)))))) else s
def mDo_v0 (s : MchS) (x : Stp) : Int := bif (stpRight x) then (bif decide (x.kind = 4) then (((cScrub_v0 s.c) : Nat) : Int) else (bif decide (x.kind = 5) then (cCopy_v0 s.c) else (bif decide (x.kind = 6) then (((cTick_v0 s.c) : Nat) : Int) else (bif decide (x.kind = 7) then 0 else (bif decide (x.kind = 8) then (dInject_v0 s.c.d.d x.f) else (((mRequest_v0 { s with steps := IntKind.i64.wrap (s.steps + 1) } x) : Nat) : Int)))))) else 60
def mDo_v1 (s : MchS) (x : Stp) : Int := bif (stpRight x) then (bif decide (x.kind = 4) then s.c.cur else (bif decide (x.kind = 5) then 0 else (bif decide (x.kind = 6) then 0 else (bif decide (x.kind = 7) then ((s.c.le.log.l.length : Nat) : Int) else 0)))) else 0
def mDo_v2 (s : MchS) (x : Stp) : Nat → Nat := bif (stpRight x) then (bif decide (x.kind = 4) then (fun _ => 0) else (bif decide (x.kind = 5) then (fun _ => 0) else (bif decide (x.kind = 6) then (fun _ => 0) else (bif decide (x.kind = 7) then (fun _ => 0) else (bif decide (x.kind = 8) then (fun _ => 0) else (mRequest_v1 { s with steps := IntKind.i64.wrap (s.steps + 1) } x)))))) else (fun _ => 0)
theorem mDo (s : MchS) (x : Stp) (ok : MchOk 96000000 s) (so : StpOk x) : Sp P 13 [.pt 0 0, .ag [vi x.kind, vi x.line, .ar .u8 64 (nf x.data), vu x.mask, vi x.f.kind, vi x.f.rank, vi x.f.bank, vi x.f.row, vi x.f.col, vi x.f.chip, vi x.f.bit, vi x.f.value]] ([.blk [.pt 16 0, .pt 1 0, .mp 30, .sl 31, .sl 32, vi s.scrubs, vi s.steps] 108] ++ bCtl s.c 1 ++ ros (bCode 25) ++ [.mp (.ar .u8 64 (nf (fun _ => 0))) (mpC s.ideal), .row eInj s.inj, .row eSrv s.srv]) (.ag [vi (mDo_v0 s x), vi (mDo_v1 s x), .ar .u8 64 (nf (mDo_v2 s x))]) ([.blk [.pt 16 0, .pt 1 0, .mp 30, .sl 31, .sl 32, vi (mDo_s s x).scrubs, vi (mDo_s s x).steps] 108] ++ bCtl (mDo_s s x).c 1 ++ ros (bCode 25) ++ [.mp (.ar .u8 64 (nf (fun _ => 0))) (mpC (mDo_s s x).ideal), .row eInj (mDo_s s x).inj, .row eSrv (mDo_s s x).srv]) := by
 generalize hd0 : mDo_s s x = zzhd0
 unfold mDo_s at hd0
 generalize hd1 : mDo_v0 s x = zzhd1
 unfold mDo_v0 at hd1
 generalize hd2 : mDo_v1 s x = zzhd2
 unfold mDo_v1 at hd2
 generalize hd3 : mDo_v2 s x = zzhd3
 unfold mDo_v2 at hd3
 rcases bft (stpRight x) with q1 | q1
 ·skip
  try rw [cpos q1] at hd0
  try rw [cpos q1] at hd1
  try rw [cpos q1] at hd2
  try rw [cpos q1] at hd3
  rcases bft (decide (x.kind = 4)) with q2 | q2
  ·skip
   try rw [cpos q2] at hd0
   try rw [cpos q2] at hd1
   try rw [cpos q2] at hd2
   try rw [cpos q2] at hd3
   have q2' := of_decide_eq_true q2
   subst hd0 hd1 hd2 hd3
   exact Sp.of (fn := Tryz.f13) rfl rfl 4 [.id 0, .id 1, .id 2, .id 3, .id 4, .id 5, .id 6, .id 7, .id 8, .id 9, .id 10, .id 11, .id 12, .id 13, .id 14, .id 15, .id 16, .id 17, .id 18, .id 19, .id 20, .id 21, .id 22, .id 23, .id 24, .id 25, .id 26, .id 27, .id 28, .id 29, .id 30, .id 31, .id 32] (.c [] (sRight x) (.g q1 (.t q2 (.c [.id 1, .id 2, .id 3, .id 4, .id 5, .id 6, .id 7, .id 8, .id 9, .id 10, .id 11, .id 12, .id 13, .id 14, .id 15, .id 16, .id 17, .id 18, .id 19, .id 20, .id 21, .id 22, .id 23, .id 24, .id 25, .id 26, .id 27, .id 28, .id 29] (cScrub s.c (ok.c.mono (by decide)) (lines_ne ok.ly)) .nil)))) (by kernel_rfl) (by kernel_rfl)
  ·skip
   try rw [cneg q2] at hd0
   try rw [cneg q2] at hd1
   try rw [cneg q2] at hd2
   try rw [cneg q2] at hd3
   have q2' := of_decide_eq_false q2
   rcases bft (decide (x.kind = 5)) with q3 | q3
   ·skip
    try rw [cpos q3] at hd0
    try rw [cpos q3] at hd1
    try rw [cpos q3] at hd2
    try rw [cpos q3] at hd3
    have q3' := of_decide_eq_true q3
    subst hd0 hd1 hd2 hd3
    exact Sp.of (fn := Tryz.f13) rfl rfl 4 [.id 0, .id 1, .id 2, .id 3, .id 4, .id 5, .id 6, .id 7, .id 8, .id 9, .id 10, .id 11, .id 12, .id 13, .id 14, .id 15, .id 16, .id 17, .id 18, .id 19, .id 20, .id 21, .id 22, .id 23, .id 24, .id 25, .id 26, .id 27, .id 28, .id 29, .id 30, .id 31, .id 32] (.c [] (sRight x) (.g q1 (.t q2 (.t q3 (.c [.id 1, .id 2, .id 3, .id 4, .id 5, .id 6, .id 7, .id 8, .id 9, .id 10, .id 11, .id 12, .id 13, .id 14, .id 15, .id 16, .id 17, .id 18, .id 19, .id 20, .id 21, .id 22, .id 23, .id 24, .id 25, .id 26, .id 27, .id 28, .id 29] (cCopy s.c (ok.c.mono (by decide))) .nil))))) (by kernel_rfl) (by kernel_rfl)
   ·skip
    try rw [cneg q3] at hd0
    try rw [cneg q3] at hd1
    try rw [cneg q3] at hd2
    try rw [cneg q3] at hd3
    have q3' := of_decide_eq_false q3
    rcases bft (decide (x.kind = 6)) with q4 | q4
    ·skip
     try rw [cpos q4] at hd0
     try rw [cpos q4] at hd1
     try rw [cpos q4] at hd2
     try rw [cpos q4] at hd3
     have q4' := of_decide_eq_true q4
     subst hd0 hd1 hd2 hd3
     exact Sp.of (fn := Tryz.f13) rfl rfl 4 [.id 0, .id 1, .id 2, .id 3, .id 4, .id 5, .id 6, .id 7, .id 8, .id 9, .id 10, .id 11, .id 12, .id 13, .id 14, .id 15, .id 16, .id 17, .id 18, .id 19, .id 20, .id 21, .id 22, .id 23, .id 24, .id 25, .id 26, .id 27, .id 28, .id 29, .id 30, .id 31, .id 32] (.c [] (sRight x) (.g q1 (.t q2 (.t q3 (.t q4 (.c [.id 1, .id 2, .id 3, .id 4, .id 5, .id 6, .id 7, .id 8, .id 9, .id 10, .id 11, .id 12, .id 13, .id 14, .id 15, .id 16, .id 17, .id 18, .id 19, .id 20, .id 21, .id 22, .id 23, .id 24, .id 25, .id 26, .id 27, .id 28, .id 29] (cTick s.c (ok.c.mono (by decide))) .nil)))))) (by kernel_rfl) (by kernel_rfl)
    ·skip
     try rw [cneg q4] at hd0
     try rw [cneg q4] at hd1
     try rw [cneg q4] at hd2
     try rw [cneg q4] at hd3
     have q4' := of_decide_eq_false q4
     rcases bft (decide (x.kind = 7)) with q5 | q5
     ·skip
      try rw [cpos q5] at hd0
      try rw [cpos q5] at hd1
      try rw [cpos q5] at hd2
      try rw [cpos q5] at hd3
      have q5' := of_decide_eq_true q5
      subst hd0 hd1 hd2 hd3
      exact Sp.of (fn := Tryz.f13) rfl rfl 4 [.id 0, .id 1, .id 2, .id 3, .id 4, .id 5, .id 6, .id 7, .id 8, .id 9, .id 10, .id 11, .id 12, .id 13, .id 14, .id 15, .id 16, .id 17, .id 18, .id 19, .id 20, .id 21, .id 22, .id 23, .id 24, .id 25, .id 26, .id 27, .id 28, .id 29, .id 30, .id 31, .id 32] (.c [] (sRight x) (.g q1 (.t q2 (.t q3 (.t q4 (.t q5 (.c [.id 1, .id 2, .id 3, .id 4, .id 5, .id 6, .id 7, .id 8, .id 9, .id 10, .id 11, .id 12, .id 13, .id 14, .id 15, .id 16, .id 17, .id 18, .id 19, .id 20, .id 21, .id 22, .id 23, .id 24, .id 25, .id 26, .id 27, .id 28, .id 29] (cClear s.c (ok.c.mono (by decide))) .nil))))))) (by kernel_rfl) (by kernel_rfl)
     ·skip
      try rw [cneg q5] at hd0
      try rw [cneg q5] at hd1
      try rw [cneg q5] at hd2
      try rw [cneg q5] at hd3
      have q5' := of_decide_eq_false q5
      rcases bft (decide (x.kind = 8)) with q6 | q6
      ·skip
       try rw [cpos q6] at hd0
       try rw [cpos q6] at hd1
       try rw [cpos q6] at hd2
       try rw [cpos q6] at hd3
       have q6' := of_decide_eq_true q6
       subst hd0 hd1 hd2 hd3
       exact Sp.of (fn := Tryz.f13) rfl rfl 4 [.id 0, .id 1, .id 2, .id 3, .id 4, .id 5, .id 6, .id 7, .id 8, .id 9, .id 10, .id 11, .id 12, .id 13, .id 14, .id 15, .id 16, .id 17, .id 18, .id 19, .id 20, .id 21, .id 22, .id 23, .id 24, .id 25, .id 26, .id 27, .id 28, .id 29, .id 30, .id 31, .id 32] (.c [] (sRight x) (.g q1 (.t q2 (.t q3 (.t q4 (.t q5 (.t q6 (.c [.id 0, .id 1, .id 2, .id 3, .id 4, .id 5, .id 6, .id 7, .id 8, .id 9, .id 10, .id 11, .id 12, .id 13, .id 14, .id 15, .id 16, .id 17, .id 18, .id 19, .id 20, .id 21, .id 22, .id 23, .id 24, .id 25, .id 26, .id 27, .id 28, .id 29, .id 30, .id 31, .id 32] (mInject { s with steps := IntKind.i64.wrap (s.steps + 1) } x.f (⟨ok.c, ok.id, ok.il, ok.sl, ok.ly⟩)) .nil)))))))) (by kernel_rfl) (by kernel_rfl)
      ·skip
       try rw [cneg q6] at hd0
       try rw [cneg q6] at hd1
       try rw [cneg q6] at hd2
       try rw [cneg q6] at hd3
       have q6' := of_decide_eq_false q6
       subst hd0 hd1 hd2 hd3
       exact Sp.of (fn := Tryz.f13) rfl rfl 4 [.id 0, .id 1, .id 2, .id 3, .id 4, .id 5, .id 6, .id 7, .id 8, .id 9, .id 10, .id 11, .id 12, .id 13, .id 14, .id 15, .id 16, .id 17, .id 18, .id 19, .id 20, .id 21, .id 22, .id 23, .id 24, .id 25, .id 26, .id 27, .id 28, .id 29, .id 30, .id 31, .id 32] (.c [] (sRight x) (.g q1 (.t q2 (.t q3 (.t q4 (.t q5 (.t q6 (.c [.id 0, .id 1, .id 2, .id 3, .id 4, .id 5, .id 6, .id 7, .id 8, .id 9, .id 10, .id 11, .id 12, .id 13, .id 14, .id 15, .id 16, .id 17, .id 18, .id 19, .id 20, .id 21, .id 22, .id 23, .id 24, .id 25, .id 26, .id 27, .id 28, .id 29, .id 30, .id 31, .id 32] (mRequest { s with steps := IntKind.i64.wrap (s.steps + 1) } x (⟨ok.c, ok.id, ok.il, ok.sl, ok.ly⟩) so) .nil)))))))) (by kernel_rfl) (by kernel_rfl)
 ·skip
  try rw [cneg q1] at hd0
  try rw [cneg q1] at hd1
  try rw [cneg q1] at hd2
  try rw [cneg q1] at hd3
  subst hd0 hd1 hd2 hd3
  exact Sp.of (fn := Tryz.f13) rfl rfl 4 [.id 0, .id 1, .id 2, .id 3, .id 4, .id 5, .id 6, .id 7, .id 8, .id 9, .id 10, .id 11, .id 12, .id 13, .id 14, .id 15, .id 16, .id 17, .id 18, .id 19, .id 20, .id 21, .id 22, .id 23, .id 24, .id 25, .id 26, .id 27, .id 28, .id 29, .id 30, .id 31, .id 32] (.c [] (sRight x) (.g q1 .nil)) (by kernel_rfl) (by kernel_rfl)
end Go.Proofs.YtghfannbcopjmaaGreat
