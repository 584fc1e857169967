import Derived.Test.YtghfannbcopjmaaGreatFInt
import Derived.Test.YtghfannbcopjmaaGreatFDram
namespace Go.Proofs.YtghfannbcopjmaaGreat
open Go Go.RowKit
set_option linter.unusedVariables false
set_option linter.unusedSimpArgs false
set_option maxRecDepth 100000
abbrev bCode (b : Nat) : List B := [.blk [.pt (b + 1) 0, .pt (b + 2) 0] 261, hC, .blk [.pt (b + 3) 0, .sl (b + 4)] 332, gF, .row eB gen]
def enc_v0 (m : Int) (l : Nat → Nat) (n : Int) (b : Bool) : Nat → Nat := bif decide (m = 1) then (encB l n b 8) else (encC l n b 2)
theorem enc (m : Int) (l : Nat → Nat) (n : Int) (b : Bool) (hm : m = 1 ∨ m = 2) (hl : ∀ j, l j < 256) : Sp P 135 [.pt 0 0, vi m, .ar .u8 64 (nf l), vi n, vt b] (ros (bCode 0)) (.ar .u8 72 (nf (enc_v0 m l n b))) (ros (bCode 0)) := by
 rcases hm with rfl | rfl
 ·simp only [enc_v0, show decide ((1 : Int) = 1) = true from rfl, cond_true]; exact Eq.mp (by kernel_rfl) (encode_1 l n b hl)
 ·simp only [enc_v0, show decide ((2 : Int) = 1) = false from rfl, cond_false]; exact Eq.mp (by kernel_rfl) (encode_2 l n b hl)
def dec_v0 (m : Int) (r : Nat → Nat) (n : Int) : Nat → Nat := bif decide (m = 1) then (dlB r n) else (dlC r n)
def dec_v1 (m : Int) (r : Nat → Nat) (n : Int) : Nat := bif decide (m = 1) then (jk (kB r n) (kB r n).length) else (jk (kC r n) (kC r n).length)
def dec_v2 (m : Int) (r : Nat → Nat) (n : Int) : Nat := bif decide (m = 1) then (jfix (kB r n)) else (jfix (kC r n))
theorem dec (m : Int) (r : Nat → Nat) (n : Int) (hm : m = 1 ∨ m = 2) (hr : ∀ j, r j < 256) : Sp P 134 [.pt 0 0, vi m, .ar .u8 72 (nf r), vi n] (ros (bCode 0)) (.tu [.ar .u8 64 (nf (dec_v0 m r n)), .ag [vn (dec_v1 m r n), vn (dec_v2 m r n)]]) (ros (bCode 0)) := by
 rcases hm with rfl | rfl
 ·simp only [dec_v0, dec_v1, dec_v2, show decide ((1 : Int) = 1) = true from rfl, cond_true]; exact Eq.mp (by kernel_rfl) (cdec_1 r n hr)
 ·simp only [dec_v0, dec_v1, dec_v2, show decide ((2 : Int) = 1) = false from rfl, cond_false]; exact Eq.mp (by kernel_rfl) (cdec_2 r n hr)
theorem enc_lt {m : Int} {l : Nat → Nat} {n : Int} {b : Bool} (hl : ∀ j, l j < 256) (j : Nat) : enc_v0 m l n b j < 256 := by
 unfold enc_v0
 cases decide (m = 1)
 ·exact encC_lt hl n b 2 j
 ·exact encB_lt l n b 8 j
theorem dec_lt {m : Int} {r : Nat → Nat} {n : Int} (hr : ∀ j, r j < 256) (j : Nat) : dec_v0 m r n j < 256 := by
 have h0 : ∀ j, (fun _ => 0 : Nat → Nat) j < 256 := fun _ => (by decide : (0 : Nat) < 256)
 have hx : ∀ o j, chX (wordR r o 36) n j < 256 := fun o j => rsfix_lt (wordR_B8 hr o 36) (viF_lt n false) j
 unfold dec_v0 dlC dlB dcB dcC
 cases decide (m = 1)
 ·simp only [cond_false]
  cases decide (2 ≤ ((jk (kC r n) (kC r n).length : Nat) : Int))
  ·exact putN_lt (putN_lt h0 (hx _) _ _) (hx _) _ _ j
  ·exact h0 j
 ·simp only [cond_true]
  cases decide (2 ≤ ((jk (kB r n) (kB r n).length : Nat) : Int))
  ·exact fwF_lt (fun k => bitX (wordR r (9 * k) 9) n) j
  ·exact h0 j
def lnOf (l : List Nat) : Nat → Nat := fun j => l.getD j 0
theorem lnOf_lt {l : List Nat} (h : B8 l) (j : Nat) : lnOf l j < 256 := h j
theorem lineOf (l : List Nat) (hl : l.length = 64) : Sp P 140 [.sl 0] [.ro (.row eB l)] (.tu [.ar .u8 64 (nf (lnOf l)), vn 0]) [.ro (.row eB l)] :=
 Sp.of (fn := Tryz.f140) rfl rfl 3 [.id 0] (.t (congrArg (!·) (show (decide (((l.length : Nat) : Int) = 64)) = true from decide_eq_true (by omega))) (.sl (i := 0) (n := 64) (m := l.length) (by omega) (.ld (ldN hl) (by rw [← ldN hl, List.drop_zero, List.length_take, eB.csLen, hl]; rfl) rfl .nil))) (by kernel_rfl) (by kernel_rfl)
def number3_v0 (x : Int) (y : Int) (z : Int) (a : Int) (b : Int) (c : Int) : Int := IntKind.i64.wrap ((IntKind.i64.wrap ((IntKind.i64.wrap ((IntKind.i64.wrap ((IntKind.i64.wrap ((IntKind.i64.wrap (0 * ([a, b, c].getD 2 eI0))) + ([x, y, z].getD 2 eI0))) * ([a, b, c].getD 1 eI0))) + ([x, y, z].getD 1 eI0))) * ([a, b, c].getD 0 eI0))) + ([x, y, z].getD 0 eI0))
theorem number3 (x : Int) (y : Int) (z : Int) (a : Int) (b : Int) (c : Int)  : Sp P 163 [.sl 0, .sl 1] [.ro (.row eI [x, y, z]), .ro (.row eI [a, b, c])] (vi (number3_v0 x y z a b c)) [.ro (.row eI [x, y, z]), .ro (.row eI [a, b, c])] :=
 Sp.of (fn := Tryz.f163) rfl rfl 3 [.id 0, .id 1] (.lu 3 (.y (.ix (i := 2) (m := 3) (show 2 < 3 by decide) (.el (e := eI) (gDx (l := [a, b, c]) (i := 2) eI0 (show 2 < 3 by decide)) (.ix (i := 2) (m := 3) (show 2 < 3 by decide) (.el (e := eI) (gDx (l := [x, y, z]) (i := 2) eI0 (show 2 < 3 by decide)) (.y (.ix (i := 1) (m := 3) (show 1 < 3 by decide) (.el (e := eI) (gDx (l := [a, b, c]) (i := 1) eI0 (show 1 < 3 by decide)) (.ix (i := 1) (m := 3) (show 1 < 3 by decide) (.el (e := eI) (gDx (l := [x, y, z]) (i := 1) eI0 (show 1 < 3 by decide)) (.y (.ix (i := 0) (m := 3) (show 0 < 3 by decide) (.el (e := eI) (gDx (l := [a, b, c]) (i := 0) eI0 (show 0 < 3 by decide)) (.ix (i := 0) (m := 3) (show 0 < 3 by decide) (.el (e := eI) (gDx (l := [x, y, z]) (i := 0) eI0 (show 0 < 3 by decide)) (.n .nil))))))))))))))))) (by kernel_rfl) (by kernel_rfl)
def iBack_v0 (g : Gm) (w : Int) (n : Int) : Int := bif (interRight_v0 g w) then (bif decide (n < 0) then 0 else (bif decide (131072 ≤ n) then 0 else (bif decide (g.atE (IntKind.i64.wrap (n * 2 ^ 6)) = 0) then (bif decide (g.ranks ≤ (g.at (IntKind.i64.wrap (n * 2 ^ 6))).rank) then 0 else (bif decide (w = 3) then (bif decide (w = 0) then (number3_v0 (g.at (IntKind.i64.wrap (n * 2 ^ 6))).row (bits .xor .i64 (g.at (IntKind.i64.wrap (n * 2 ^ 6))).bank (bits .and .i64 (g.at (IntKind.i64.wrap (n * 2 ^ 6))).row (IntKind.i64.wrap (g.banks - 1)))) (g.at (IntKind.i64.wrap (n * 2 ^ 6))).rank g.rows g.banks g.ranks) else (bif decide (w = 1) then (number3_v0 (bits .xor .i64 (g.at (IntKind.i64.wrap (n * 2 ^ 6))).bank (bits .and .i64 (g.at (IntKind.i64.wrap (n * 2 ^ 6))).row (IntKind.i64.wrap (g.banks - 1)))) (g.at (IntKind.i64.wrap (n * 2 ^ 6))).row (g.at (IntKind.i64.wrap (n * 2 ^ 6))).rank g.banks g.rows g.ranks) else (number3_v0 (g.at (IntKind.i64.wrap (n * 2 ^ 6))).rank (bits .xor .i64 (g.at (IntKind.i64.wrap (n * 2 ^ 6))).bank (bits .and .i64 (g.at (IntKind.i64.wrap (n * 2 ^ 6))).row (IntKind.i64.wrap (g.banks - 1)))) (g.at (IntKind.i64.wrap (n * 2 ^ 6))).row g.ranks g.banks g.rows))) else (bif decide (w = 0) then (number3_v0 (g.at (IntKind.i64.wrap (n * 2 ^ 6))).row (g.at (IntKind.i64.wrap (n * 2 ^ 6))).bank (g.at (IntKind.i64.wrap (n * 2 ^ 6))).rank g.rows g.banks g.ranks) else (bif decide (w = 1) then (number3_v0 (g.at (IntKind.i64.wrap (n * 2 ^ 6))).bank (g.at (IntKind.i64.wrap (n * 2 ^ 6))).row (g.at (IntKind.i64.wrap (n * 2 ^ 6))).rank g.banks g.rows g.ranks) else (number3_v0 (g.at (IntKind.i64.wrap (n * 2 ^ 6))).rank (g.at (IntKind.i64.wrap (n * 2 ^ 6))).bank (g.at (IntKind.i64.wrap (n * 2 ^ 6))).row g.ranks g.banks g.rows))))) else 0))) else 0
def iBack_v1 (g : Gm) (w : Int) (n : Int) : Nat := bif (interRight_v0 g w) then (bif decide (n < 0) then 12 else (bif decide (131072 ≤ n) then 12 else (bif decide (g.atE (IntKind.i64.wrap (n * 2 ^ 6)) = 0) then (bif decide (g.ranks ≤ (g.at (IntKind.i64.wrap (n * 2 ^ 6))).rank) then 12 else 0) else 12))) else 12
theorem iBack (g : Gm) (w : Int) (n : Int)  : Sp P 130 [.ag [vi g.ranks, vi g.spares, vi g.banks, vi g.rows, vi g.cols], vi w, vi n] [] (.tu [vi (iBack_v0 g w n), vn (iBack_v1 g w n)]) [] := by
 generalize hd0 : iBack_v0 g w n = zzhd0
 unfold iBack_v0 at hd0
 generalize hd1 : iBack_v1 g w n = zzhd1
 unfold iBack_v1 at hd1
 rcases bft (interRight_v0 g w) with q1 | q1
 ·skip
  try rw [cpos q1] at hd0
  try rw [cpos q1] at hd1
  have q1' := interRight_t q1
  rcases bft (decide (n < 0)) with q2 | q2
  ·skip
   try rw [cpos q2] at hd0
   try rw [cpos q2] at hd1
   have q2' := of_decide_eq_true q2
   subst hd0 hd1
   exact Sp.of (fn := Tryz.f130) rfl rfl 3 [] (.c [] (interRight g w) (.g q1 (.g q1 (.g q1 (.t q2 (.t q2 (.t q2 (.y .nil)))))))) (by kernel_rfl) (by kernel_rfl)
  ·skip
   try rw [cneg q2] at hd0
   try rw [cneg q2] at hd1
   have q2' := of_decide_eq_false q2
   rcases bft (decide (131072 ≤ n)) with q3 | q3
   ·skip
    try rw [cpos q3] at hd0
    try rw [cpos q3] at hd1
    have q3' := of_decide_eq_true q3
    subst hd0 hd1
    exact Sp.of (fn := Tryz.f130) rfl rfl 3 [] (.c [] (interRight g w) (.g q1 (.g q1 (.g q1 (.t q2 (.t q2 (.t q2 (.t q3 .nil)))))))) (by kernel_rfl) (by kernel_rfl)
   ·skip
    try rw [cneg q3] at hd0
    try rw [cneg q3] at hd1
    have q3' := of_decide_eq_false q3
    rcases bft (decide (g.atE (IntKind.i64.wrap (n * 2 ^ 6)) = 0)) with q4 | q4
    ·skip
     try rw [cpos q4] at hd0
     try rw [cpos q4] at hd1
     have q4' := of_decide_eq_true q4
     rcases bft (decide (g.ranks ≤ (g.at (IntKind.i64.wrap (n * 2 ^ 6))).rank)) with q5 | q5
     ·skip
      try rw [cpos q5] at hd0
      try rw [cpos q5] at hd1
      have q5' := of_decide_eq_true q5
      subst hd0 hd1
      exact Sp.of (fn := Tryz.f130) rfl rfl 4 [] (.c [] (interRight g w) (.g q1 (.g q1 (.g q1 (.t q2 (.t q2 (.t q2 (.t q3 (.c [] (gat_sp g (IntKind.i64.wrap (n * 2 ^ 6))) (.g q4 (.g q4 (.g q4 (.g q4 (.g q4 (.g q4 (.t q5 .nil)))))))))))))))) (by kernel_rfl) (by kernel_rfl)
     ·skip
      try rw [cneg q5] at hd0
      try rw [cneg q5] at hd1
      have q5' := of_decide_eq_false q5
      rcases bft (decide (w = 3)) with q6 | q6
      ·skip
       try rw [cpos q6] at hd0
       try rw [cpos q6] at hd1
       have q6' := of_decide_eq_true q6
       rcases bft (decide (w = 0)) with q7 | q7
       ·skip
        try rw [cpos q7] at hd0
        try rw [cpos q7] at hd1
        have q7' := of_decide_eq_true q7
        subst hd0 hd1
        exact Sp.of (fn := Tryz.f130) rfl rfl 6 [] (.c [] (interRight g w) (.g q1 (.g q1 (.g q1 (.t q2 (.t q2 (.t q2 (.t q3 (.c [] (gat_sp g (IntKind.i64.wrap (n * 2 ^ 6))) (.g q4 (.g q4 (.g q4 (.g q4 (.g q4 (.g q4 (.t q5 (.t q6 (.t q7 (.c [.sg 3 0 1 3, .sg 4 0 1 3] (number3 (g.at (IntKind.i64.wrap (n * 2 ^ 6))).row (bits .xor .i64 (g.at (IntKind.i64.wrap (n * 2 ^ 6))).bank (bits .and .i64 (g.at (IntKind.i64.wrap (n * 2 ^ 6))).row (IntKind.i64.wrap (g.banks - 1)))) (g.at (IntKind.i64.wrap (n * 2 ^ 6))).rank g.rows g.banks g.ranks) .nil))))))))))))))))))) (by kernel_rfl) (by kernel_rfl)
       ·skip
        try rw [cneg q7] at hd0
        try rw [cneg q7] at hd1
        have q7' := of_decide_eq_false q7
        rcases bft (decide (w = 1)) with q8 | q8
        ·skip
         try rw [cpos q8] at hd0
         try rw [cpos q8] at hd1
         have q8' := of_decide_eq_true q8
         subst hd0 hd1
         exact Sp.of (fn := Tryz.f130) rfl rfl 6 [] (.c [] (interRight g w) (.g q1 (.g q1 (.g q1 (.t q2 (.t q2 (.t q2 (.t q3 (.c [] (gat_sp g (IntKind.i64.wrap (n * 2 ^ 6))) (.g q4 (.g q4 (.g q4 (.g q4 (.g q4 (.g q4 (.t q5 (.t q6 (.t q7 (.t q8 (.c [.sg 3 0 1 3, .sg 4 0 1 3] (number3 (bits .xor .i64 (g.at (IntKind.i64.wrap (n * 2 ^ 6))).bank (bits .and .i64 (g.at (IntKind.i64.wrap (n * 2 ^ 6))).row (IntKind.i64.wrap (g.banks - 1)))) (g.at (IntKind.i64.wrap (n * 2 ^ 6))).row (g.at (IntKind.i64.wrap (n * 2 ^ 6))).rank g.banks g.rows g.ranks) .nil)))))))))))))))))))) (by kernel_rfl) (by kernel_rfl)
        ·skip
         try rw [cneg q8] at hd0
         try rw [cneg q8] at hd1
         have q8' := of_decide_eq_false q8
         subst hd0 hd1
         exact Sp.of (fn := Tryz.f130) rfl rfl 6 [] (.c [] (interRight g w) (.g q1 (.g q1 (.g q1 (.t q2 (.t q2 (.t q2 (.t q3 (.c [] (gat_sp g (IntKind.i64.wrap (n * 2 ^ 6))) (.g q4 (.g q4 (.g q4 (.g q4 (.g q4 (.g q4 (.t q5 (.t q6 (.t q7 (.t q8 (.c [.sg 3 0 1 3, .sg 4 0 1 3] (number3 (g.at (IntKind.i64.wrap (n * 2 ^ 6))).rank (bits .xor .i64 (g.at (IntKind.i64.wrap (n * 2 ^ 6))).bank (bits .and .i64 (g.at (IntKind.i64.wrap (n * 2 ^ 6))).row (IntKind.i64.wrap (g.banks - 1)))) (g.at (IntKind.i64.wrap (n * 2 ^ 6))).row g.ranks g.banks g.rows) .nil)))))))))))))))))))) (by kernel_rfl) (by kernel_rfl)
      ·skip
       try rw [cneg q6] at hd0
       try rw [cneg q6] at hd1
       have q6' := of_decide_eq_false q6
       rcases bft (decide (w = 0)) with q7 | q7
       ·skip
        try rw [cpos q7] at hd0
        try rw [cpos q7] at hd1
        have q7' := of_decide_eq_true q7
        subst hd0 hd1
        exact Sp.of (fn := Tryz.f130) rfl rfl 6 [] (.c [] (interRight g w) (.g q1 (.g q1 (.g q1 (.t q2 (.t q2 (.t q2 (.t q3 (.c [] (gat_sp g (IntKind.i64.wrap (n * 2 ^ 6))) (.g q4 (.g q4 (.g q4 (.g q4 (.g q4 (.g q4 (.t q5 (.t q6 (.t q7 (.c [.sg 3 0 1 3, .sg 4 0 1 3] (number3 (g.at (IntKind.i64.wrap (n * 2 ^ 6))).row (g.at (IntKind.i64.wrap (n * 2 ^ 6))).bank (g.at (IntKind.i64.wrap (n * 2 ^ 6))).rank g.rows g.banks g.ranks) .nil))))))))))))))))))) (by kernel_rfl) (by kernel_rfl)
       ·skip
        try rw [cneg q7] at hd0
        try rw [cneg q7] at hd1
        have q7' := of_decide_eq_false q7
        rcases bft (decide (w = 1)) with q8 | q8
        ·skip
         try rw [cpos q8] at hd0
         try rw [cpos q8] at hd1
         have q8' := of_decide_eq_true q8
         subst hd0 hd1
         exact Sp.of (fn := Tryz.f130) rfl rfl 6 [] (.c [] (interRight g w) (.g q1 (.g q1 (.g q1 (.t q2 (.t q2 (.t q2 (.t q3 (.c [] (gat_sp g (IntKind.i64.wrap (n * 2 ^ 6))) (.g q4 (.g q4 (.g q4 (.g q4 (.g q4 (.g q4 (.t q5 (.t q6 (.t q7 (.t q8 (.c [.sg 3 0 1 3, .sg 4 0 1 3] (number3 (g.at (IntKind.i64.wrap (n * 2 ^ 6))).bank (g.at (IntKind.i64.wrap (n * 2 ^ 6))).row (g.at (IntKind.i64.wrap (n * 2 ^ 6))).rank g.banks g.rows g.ranks) .nil)))))))))))))))))))) (by kernel_rfl) (by kernel_rfl)
        ·skip
         try rw [cneg q8] at hd0
         try rw [cneg q8] at hd1
         have q8' := of_decide_eq_false q8
         subst hd0 hd1
         exact Sp.of (fn := Tryz.f130) rfl rfl 6 [] (.c [] (interRight g w) (.g q1 (.g q1 (.g q1 (.t q2 (.t q2 (.t q2 (.t q3 (.c [] (gat_sp g (IntKind.i64.wrap (n * 2 ^ 6))) (.g q4 (.g q4 (.g q4 (.g q4 (.g q4 (.g q4 (.t q5 (.t q6 (.t q7 (.t q8 (.c [.sg 3 0 1 3, .sg 4 0 1 3] (number3 (g.at (IntKind.i64.wrap (n * 2 ^ 6))).rank (g.at (IntKind.i64.wrap (n * 2 ^ 6))).bank (g.at (IntKind.i64.wrap (n * 2 ^ 6))).row g.ranks g.banks g.rows) .nil)))))))))))))))))))) (by kernel_rfl) (by kernel_rfl)
    ·skip
     try rw [cneg q4] at hd0
     try rw [cneg q4] at hd1
     have q4' := of_decide_eq_false q4
     subst hd0 hd1
     exact Sp.of (fn := Tryz.f130) rfl rfl 4 [] (.c [] (interRight g w) (.g q1 (.g q1 (.g q1 (.t q2 (.t q2 (.t q2 (.t q3 (.c [] (gat_sp g (IntKind.i64.wrap (n * 2 ^ 6))) (.g q4 (.g q4 (.g q4 (.g q4 (.g q4 (.g q4 (.y .nil)))))))))))))))) (by kernel_rfl) (by kernel_rfl)
 ·skip
  try rw [cneg q1] at hd0
  try rw [cneg q1] at hd1
  subst hd0 hd1
  exact Sp.of (fn := Tryz.f130) rfl rfl 3 [] (.c [] (interRight g w) (.g q1 (.g q1 (.g q1 (.y (.y (.y (.y .nil)))))))) (by kernel_rfl) (by kernel_rfl)
end Go.Proofs.YtghfannbcopjmaaGreat
