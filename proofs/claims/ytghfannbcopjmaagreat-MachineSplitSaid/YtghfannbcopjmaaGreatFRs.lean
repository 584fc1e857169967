import Derived.Test.YtghfannbcopjmaaGreatFPoly
namespace Go.Proofs.YtghfannbcopjmaaGreat
open Go Go.RowKit
set_option linter.unusedVariables false
set_option linter.unusedSimpArgs false
set_option maxRecDepth 100000
def gen : List Nat := [64, 120, 54, 15, 1]
theorem gen_eq : rtP [1, 2, 4, 8] 4 = gen := by decide +kernel
theorem dl_gen : dl gen = 5 := by decide
theorem gen_B8 : B8 gen := .mem (by decide)
theorem powers_sp (a : Nat) (n : Nat)  : Sp P 200 [.pt 0 0, vb a, vn n] [.ro (gF)] (.fn (.func 241) [] [.pt 3 0, .pt 1 0, .pt 2 0]) [.ro (gF), .blk [.pt 0 0] 258, .blk [vb a] 5, .blk [vn n] 3] :=
 Sp.of (fn := Tryz.f200) rfl rfl 5 [.id 0, .id 2, .id 3, .id 4] .nil (by kernel_rfl) (by kernel_rfl)
theorem rsnew_raw   : Sp P 155 [.pt 0 0] [.ro (gF)] (.pt 1 0) [.ro (gF), .blk [.pt 0 0, .sl 2] 332, .row eB (rtP [1, 2, 4, 8] 4)] :=
 Sp.of (fn := Tryz.f155) rfl rfl 18 [.id 0, .id 17, .id 16] (.c [.id 0] (exp_sp 1) (.c [.id 0] (powers_sp (ex (cu 1)) 4) (.lu 4 (.y (.bs 14 (e := eB) [1] (.ap (e := eB) (l := []) (l' := [1]) (.flat [] [] rfl) .row (by decide) (.n (.c [.id 0] (mul_sp 1 (ex (cu 1)) (by decide) (ex_lt _)) (.y (.bs 14 (e := eB) [2] (.ap (e := eB) (l := [1]) (l' := [2]) .row .row (by decide) (.n (.c [.id 0] (mul_sp (mulF 1 (ex (cu 1))) (ex (cu 1)) (mulF_lt _ _) (ex_lt _)) (.y (.bs 14 (e := eB) [4] (.ap (e := eB) (l := [1, 2]) (l' := [4]) .row .row (by decide) (.n (.c [.id 0] (mul_sp (mulF (mulF 1 (ex (cu 1))) (ex (cu 1))) (ex (cu 1)) (mulF_lt _ _) (ex_lt _)) (.y (.bs 14 (e := eB) [8] (.ap (e := eB) (l := [1, 2, 4]) (l' := [8]) .row .row (by decide) (.n (.c [.id 0] (mul_sp (mulF (mulF (mulF 1 (ex (cu 1))) (ex (cu 1))) (ex (cu 1))) (ex (cu 1)) (mulF_lt _ _) (ex_lt _)) (.n (.c [.id 0, .id 15] (roots_sp) .nil))))))))))))))))))))))))) (by kernel_rfl) (by kernel_rfl)
theorem rsnew_sp : Sp P 155 [.pt 0 0] [.ro (gF)] (.pt 1 0) [.ro (gF), .blk [.pt 0 0, .sl 2] 332, .row eB gen] := by
 have h := rsnew_raw
 rw [gen_eq] at h
 exact h
def wordD (f v : Nat → Nat) : List Nat := (List.replicate 4 0 ++ arL f 32 0) ++ arL v 3 0
theorem wordD_len (f v : Nat → Nat) : (wordD f v).length = 39 := by simp only [wordD, List.length_append, List.length_replicate, arL_len]
theorem wordD_B8 {f v : Nat → Nat} (hf : ∀ j, f j < 256) (hv : ∀ j, v j < 256) : B8 (wordD f v) := ((B8.rep 4).app (arL_B8 hf _ _)).app (arL_B8 hv _ _)
theorem gDset (l : List Nat) (i j a : Nat) : (l.set i a).getD j 0 = if i = j ∧ i < l.length then a else l.getD j 0 := by
 rw [List.getD_eq_getElem?_getD, List.getD_eq_getElem?_getD, List.getElem?_set]
 by_cases h : i = j
 ·subst h
  by_cases h2 : i < l.length
  ·simp [h2]
  ·simp only [if_true, if_neg h2, true_and]
   rw [List.getElem?_eq_none (by omega)]
 ·rw [if_neg h, if_neg (fun h2 => h h2.1)]
theorem mul1 (x : Nat) (h : x < 256) : mulF (mulF x 1) 1 = x := of256 (q := fun x => mulF (mulF x 1) 1 = x) (by decide +kernel) h
theorem topI_gen : topI gen = 1 := by decide +kernel
theorem xr_self (x : Nat) : xr x x = 0 := Nat.xor_self x
theorem mdi_far {b o : List Nat} {A e j : Nat} : ∀ k, e + k ≤ j → (mdi b o A e k).getD j 0 = o.getD j 0
 | 0, _ => rfl
 | k + 1, h => by rw [mdi, gDset, if_neg (by omega), mdi_far k (by omega)]
theorem mdo_zero {a : List Nat} (ba : B8 a) : ∀ i j, i + 4 ≤ a.length → a.length - i ≤ j → j < a.length → (mdo a gen 1 i).getD j 0 = 0
 | 0, j, _, h1, h2 => by omega
 | i + 1, j, h0, h1, h2 => by
  rw [mdo, dl_gen]
  have hl := mdo_len a gen 1 i
  rcases Nat.lt_or_ge j (a.length - i) with h3 | h3
  ·have e : j = a.length - 1 - i - (5 - 1) + 4 := by omega
   show (mdi gen (mdo a gen 1 i) _ (a.length - 1 - i - (5 - 1)) (4 + 1)).getD j 0 = 0
   rw [mdi, gDset, if_pos ⟨by omega, by rw [mdi_len, hl]; omega⟩, mdi_far 4 (by omega), show gen.getD 4 0 = 1 from rfl, show a.length - 1 - i - (5 - 1) + 4 = a.length - 1 - i by omega, mul1 _ (mdo_B8 ba i _), xr_self]
  ·rw [mdi_far _ (by omega)]
   exact mdo_zero ba i j (by omega) h3 h2
theorem mod_gen {a : List Nat} (ba : B8 a) (h : 4 ≤ a.length) : (modP a gen).length ≤ 4 := by
 unfold modP
 rw [tr_len, topI_gen, dl_gen]
 rcases Nat.lt_or_ge 4 (dl (mdo a gen 1 (a.length + 1 - 5))) with h1 | h1
 ·have h2 := dl_last (l := mdo a gen 1 (a.length + 1 - 5)) (by omega)
  have h3 := dl_le (mdo a gen 1 (a.length + 1 - 5))
  rw [mdo_len] at h3
  exact absurd (mdo_zero ba _ _ (by omega) (by omega) (by omega)) h2
 ·exact h1
def ckF (f v : Nat → Nat) (j : Nat) : Nat := (modP (wordD f v) gen).getD j 0
theorem ckF_lt {f v : Nat → Nat} (hf : ∀ j, f j < 256) (hv : ∀ j, v j < 256) (j : Nat) : ckF f v j < 256 := modP_B8 (wordD_B8 hf hv) j
theorem cp_flat {l : List Nat} (h : l.length ≤ 4) : V.flat ρN [.ar .u8 4 (nf fun j => l.getD j 0)] = (V.flat ρN [.ar .u8 4 (fun _ => 0)]).take 0 ++ eB.cs l ++ (V.flat ρN [.ar .u8 4 (fun _ => 0)]).drop (0 + l.length * eB.sz) := by
 match l, h with
 | [], _ => rfl
 | [a], _ => rfl
 | [a, b], _ => rfl
 | [a, b, c], _ => rfl
 | [a, b, c, d], _ => rfl
 | a :: b :: c :: d :: e :: l, h => exact absurd h (by simp only [List.length_cons]; omega)
theorem checks_sp (f : Nat → Nat) (v : Nat → Nat) (hf : ∀ j, f j < 256) (hv : ∀ j, v j < 256) : Sp P 178 [.pt 0 0, .ar .u8 32 (nf f), .ar .u8 3 (nf v)] [.ro (.blk [.pt 1 0, .sl 2] 332), .ro (gF), .ro (.row eB gen)] (.ar .u8 4 (nf (ckF f v))) [.ro (.blk [.pt 1 0, .sl 2] 332), .ro (gF), .ro (.row eB gen)] :=
 Sp.of (fn := Tryz.f178) rfl rfl 10 [.id 0, .id 1, .id 2] (.mk (e := eB) (a := 0) (n := 4) (by decide) (.ap (e := eB) (l := List.replicate 4 0) (l' := arL f 32 0) .row (.flat _ _ (ar_flat f 32)) (by simp only [List.length_append, List.length_replicate, arL_len, List.length_nil]; omega) (.ap (e := eB) (l := List.replicate 4 0 ++ arL f 32 0) (l' := arL v 3 0) .row (.flat _ _ (ar_flat v 3)) (by simp only [List.length_append, List.length_replicate, arL_len, List.length_nil]; omega) (.c [.id 1, .id 10, .id 2] (pmod_sp (wordD f v) gen (by rw [wordD_len]; decide) (by decide) (wordD_B8 hf hv) gen_B8 (by rw [dl_gen]; decide)) (.y (.cp (xs := modP (wordD f v) gen) .row (mod_gen (wordD_B8 hf hv) (by rw [wordD_len]; decide)) (cp_flat (mod_gen (wordD_B8 hf hv) (by rw [wordD_len]; decide))) .nil)))))) (by kernel_rfl) (by kernel_rfl)
def wordS (w v : Nat → Nat) : List Nat := ([] ++ arL w 36 0) ++ arL v 3 0
theorem wordS_len (w v : Nat → Nat) : (wordS w v).length = 39 := by simp only [wordS, List.length_append, List.length_nil, arL_len]
theorem wordS_B8 {w v : Nat → Nat} (hw : ∀ j, w j < 256) (hv : ∀ j, v j < 256) : B8 (wordS w v) := ((B8.mem (fun x hx => by cases hx)).app (arL_B8 hw _ _)).app (arL_B8 hv _ _)
def syF (w v : Nat → Nat) (j : Nat) : Nat := evlP (wordS w v) (ex (cu ((j : Nat) : Int))) (wordS w v).length
theorem syF_lt {w v : Nat → Nat} (hw : ∀ j, w j < 256) (hv : ∀ j, v j < 256) (j : Nat) : syF w v j < 256 := evlP_lt (wordS_B8 hw hv) _ _
def syA (w v : Nat → Nat) : Nat → Nat → Int
 | 0 => fun _ => 0
 | i + 1 => upI (syA w v i) i ((syF w v i : Nat) : Int)
theorem syA_eq (w v : Nat → Nat) : ∀ j, j < 4 → syA w v 4 j = nf (syF w v) j
 | 0, _ => rfl
 | 1, _ => rfl
 | 2, _ => rfl
 | 3, _ => rfl
 | j + 4, h => absurd h (by omega)
theorem syndromes_raw (w : Nat → Nat) (v : Nat → Nat) (hw : ∀ j, w j < 256) (hv : ∀ j, v j < 256) : Sp P 282 [.pt 0 0, .ar .u8 36 (nf w), .ar .u8 3 (nf v)] [.ro (.blk [.pt 1 0, .sl 2] 332), .ro (gF), .ro (.row eB gen)] (.ar .u8 4 (syA w v 4)) [.ro (.blk [.pt 1 0, .sl 2] 332), .ro (gF), .ro (.row eB gen)] :=
 Sp.of (fn := Tryz.f282) rfl rfl 12 [.id 0, .id 1, .id 2] (.bs 10 (e := eB) [] (.ap (e := eB) (l := []) (l' := arL w 36 0) .row (.flat _ _ (ar_flat w 36)) (by simp only [List.length_append, List.length_replicate, arL_len, List.length_nil]; omega) (.ap (e := eB) (l := [] ++ arL w 36 0) (l' := arL v 3 0) .row (.flat _ _ (ar_flat v 3)) (by simp only [List.length_append, List.length_replicate, arL_len, List.length_nil]; omega) (.lp 4 11 [] [] (fun i => [(15, vn i)]) (fun i => [(7, .blk [.ar .u8 4 (syA w v i)] 290)]) (fun i hi => (.t (show (decide (((i : Nat) : Int) < 4)) = true from decide_eq_true (by omega)) (.c [.id 1] (exp_sp ((i : Nat) : Int)) (.c [.id 1, .id 10] (peval_sp (wordS w v) (ex (cu ((i : Nat) : Int))) (by rw [wordS_len]; decide) (wordS_B8 hw hv) (ex_lt _)) (.ix (i := i) (m := 4) hi (.lt (i := i) (n := 4) hi (.e 32 (aAdd (a := ((i : Nat) : Int)) (b := 1) (c := ((i + 1 : Nat) : Int)) (by omega)) .nil))))))) (.n .nil))))) (by kernel_rfl) (by kernel_rfl)
theorem syndromes_sp (w v : Nat → Nat) (hw : ∀ j, w j < 256) (hv : ∀ j, v j < 256) : Sp P 282 [.pt 0 0, .ar .u8 36 (nf w), .ar .u8 3 (nf v)] [.ro (.blk [.pt 1 0, .sl 2] 332), .ro (gF), .ro (.row eB gen)] (.ar .u8 4 (nf (syF w v))) [.ro (.blk [.pt 1 0, .sl 2] 332), .ro (gF), .ro (.row eB gen)] :=
 (syndromes_raw w v hw hv).resE (ar_den (syA_eq w v)) rfl rfl rfl
theorem lost_sp   : Sp P 301 [] [] (.ag [vn 3, vi (-1), vb 0]) [] :=
 Sp.of (fn := Tryz.f301) rfl rfl 3 [] .nil (by kernel_rfl) (by kernel_rfl)
def loneR (s : Nat → Nat) (r : Nat) : Bool := decide (s 0 ≠ 0) && decide (r ≠ 0) && decide (s 1 = mulF (s 0) r) && decide (s 2 = mulF (s 1) r) && decide (s 3 = mulF (s 2) r) && decide (logF r < 39)
def lkind (s : Nat → Nat) : Nat := if eqA (nf s) (fun _ => 0) 4 0 = true then 0 else if loneR s (divF (s 1) (s 0)) = true then (if logF (divF (s 1) (s 0)) < 36 then 1 else 2) else 3
def lplace (s : Nat → Nat) : Int := if eqA (nf s) (fun _ => 0) 4 0 = true then -1 else if loneR s (divF (s 1) (s 0)) = true then ((logF (divF (s 1) (s 0)) : Nat) : Int) else -1
def lval (s : Nat → Nat) : Nat := if eqA (nf s) (fun _ => 0) 4 0 = true then 0 else if loneR s (divF (s 1) (s 0)) = true then s 0 else 0
theorem lplace_ok {s : Nat → Nat} (h : lkind s = 1) : 0 ≤ lplace s ∧ lplace s < 36 := by
 unfold lkind at h
 split at h
 ·cases h
 ·rename_i h1
  split at h
  ·rename_i h2
   split at h
   ·rename_i h3
    unfold lplace
    rw [if_neg h1, if_pos h2]
    omega
   ·cases h
  ·cases h
theorem lval_lt {s : Nat → Nat} (h : ∀ j, s j < 256) : lval s < 256 := by
 unfold lval; split; decide; split; exact h 0; decide
theorem locate_sp_0 (s : Nat → Nat) (bs : ∀ j, s j < 256) (q1 : (eqA (nf s) (fun _ => 0) 4 0) = true) : Sp P 281 [.pt 0 0, .ar .u8 4 (nf s)] [.ro (.blk [.pt 1 0, .sl 2] 332), .ro (gF), .ro (.row eB gen)] (.ag [vn 0, vi (-1), vb 0]) [.ro (.blk [.pt 1 0, .sl 2] 332), .ro (gF), .ro (.row eB gen)] :=
 Sp.of (fn := Tryz.f281) rfl rfl 4 [.id 0, .id 1, .id 2] (.t q1 .nil) (by kernel_rfl) (by kernel_rfl)
theorem locate_sp_1 (s : Nat → Nat) (bs : ∀ j, s j < 256) (q1 : (eqA (nf s) (fun _ => 0) 4 0) = false) (q2 : (decide (noI (s 0) = 0)) = true) (q3 : (decide (((divF (s 1) (s 0) : Nat) : Int) = 0)) = true) : Sp P 281 [.pt 0 0, .ar .u8 4 (nf s)] [.ro (.blk [.pt 1 0, .sl 2] 332), .ro (gF), .ro (.row eB gen)] (.ag [vn 3, vi (-1), vb 0]) [.ro (.blk [.pt 1 0, .sl 2] 332), .ro (gF), .ro (.row eB gen)] :=
 Sp.of (fn := Tryz.f281) rfl rfl 5 [.id 0, .id 1, .id 2] (.t q1 (.c [.id 1] (div_sp (s 1) (s 0) (bs _) (bs _)) (.g q2 (.g q2 (.g q2 (.t q3 (.c [] (lost_sp) .nil))))))) (by kernel_rfl) (by kernel_rfl)
theorem locate_sp_2 (s : Nat → Nat) (bs : ∀ j, s j < 256) (q1 : (eqA (nf s) (fun _ => 0) 4 0) = false) (q2 : (decide (noI (s 0) = 0)) = true) (q3 : (decide (((divF (s 1) (s 0) : Nat) : Int) = 0)) = false) (q4 : (decide (((s 1 : Nat) : Int) = ((mulF (s 0) (divF (s 1) (s 0)) : Nat) : Int))) = true) (q5 : (decide (((s 2 : Nat) : Int) = ((mulF (s 1) (divF (s 1) (s 0)) : Nat) : Int))) = true) (q6 : (decide (((s 3 : Nat) : Int) = ((mulF (s 2) (divF (s 1) (s 0)) : Nat) : Int))) = true) (q7 : (decide (noI (divF (s 1) (s 0)) = 0)) = true) (q8 : (decide (39 ≤ ((logF (divF (s 1) (s 0)) : Nat) : Int))) = true) : Sp P 281 [.pt 0 0, .ar .u8 4 (nf s)] [.ro (.blk [.pt 1 0, .sl 2] 332), .ro (gF), .ro (.row eB gen)] (.ag [vn 3, vi (-1), vb 0]) [.ro (.blk [.pt 1 0, .sl 2] 332), .ro (gF), .ro (.row eB gen)] :=
 Sp.of (fn := Tryz.f281) rfl rfl 8 [.id 0, .id 1, .id 2] (.t q1 (.c [.id 1] (div_sp (s 1) (s 0) (bs _) (bs _)) (.g q2 (.g q2 (.g q2 (.t q3 (.lu 3 (.y (.ix (i := 1) (m := 4) (by decide) (.lt (i := 1) (n := 4) (by decide) (.ix (i := 0) (m := 4) (by decide) (.lt (i := 0) (n := 4) (by decide) (.c [.id 1] (mul_sp (s 0) (divF (s 1) (s 0)) (bs _) (divF_lt _ _)) (.g q4 (.y (.ix (i := 2) (m := 4) (by decide) (.lt (i := 2) (n := 4) (by decide) (.ix (i := 1) (m := 4) (by decide) (.lt (i := 1) (n := 4) (by decide) (.c [.id 1] (mul_sp (s 1) (divF (s 1) (s 0)) (bs _) (divF_lt _ _)) (.g q5 (.y (.ix (i := 3) (m := 4) (by decide) (.lt (i := 3) (n := 4) (by decide) (.ix (i := 2) (m := 4) (by decide) (.lt (i := 2) (n := 4) (by decide) (.c [.id 1] (mul_sp (s 2) (divF (s 1) (s 0)) (bs _) (divF_lt _ _)) (.g q6 (.n (.c [.id 1] (log_sp (divF (s 1) (s 0)) (divF_lt _ _)) (.g q7 (.g q7 (.g q7 (.t q8 (.c [] (lost_sp) .nil))))))))))))))))))))))))))))))))))) (by kernel_rfl) (by kernel_rfl)
theorem locate_sp_3 (s : Nat → Nat) (bs : ∀ j, s j < 256) (q1 : (eqA (nf s) (fun _ => 0) 4 0) = false) (q2 : (decide (noI (s 0) = 0)) = true) (q3 : (decide (((divF (s 1) (s 0) : Nat) : Int) = 0)) = false) (q4 : (decide (((s 1 : Nat) : Int) = ((mulF (s 0) (divF (s 1) (s 0)) : Nat) : Int))) = true) (q5 : (decide (((s 2 : Nat) : Int) = ((mulF (s 1) (divF (s 1) (s 0)) : Nat) : Int))) = true) (q6 : (decide (((s 3 : Nat) : Int) = ((mulF (s 2) (divF (s 1) (s 0)) : Nat) : Int))) = true) (q7 : (decide (noI (divF (s 1) (s 0)) = 0)) = true) (q8 : (decide (39 ≤ ((logF (divF (s 1) (s 0)) : Nat) : Int))) = false) (q9 : (decide (36 ≤ ((logF (divF (s 1) (s 0)) : Nat) : Int))) = true) : Sp P 281 [.pt 0 0, .ar .u8 4 (nf s)] [.ro (.blk [.pt 1 0, .sl 2] 332), .ro (gF), .ro (.row eB gen)] (.ag [vn 2, vn (logF (divF (s 1) (s 0))), vb (s 0)]) [.ro (.blk [.pt 1 0, .sl 2] 332), .ro (gF), .ro (.row eB gen)] :=
 Sp.of (fn := Tryz.f281) rfl rfl 8 [.id 0, .id 1, .id 2] (.t q1 (.c [.id 1] (div_sp (s 1) (s 0) (bs _) (bs _)) (.g q2 (.g q2 (.g q2 (.t q3 (.lu 3 (.y (.ix (i := 1) (m := 4) (by decide) (.lt (i := 1) (n := 4) (by decide) (.ix (i := 0) (m := 4) (by decide) (.lt (i := 0) (n := 4) (by decide) (.c [.id 1] (mul_sp (s 0) (divF (s 1) (s 0)) (bs _) (divF_lt _ _)) (.g q4 (.y (.ix (i := 2) (m := 4) (by decide) (.lt (i := 2) (n := 4) (by decide) (.ix (i := 1) (m := 4) (by decide) (.lt (i := 1) (n := 4) (by decide) (.c [.id 1] (mul_sp (s 1) (divF (s 1) (s 0)) (bs _) (divF_lt _ _)) (.g q5 (.y (.ix (i := 3) (m := 4) (by decide) (.lt (i := 3) (n := 4) (by decide) (.ix (i := 2) (m := 4) (by decide) (.lt (i := 2) (n := 4) (by decide) (.c [.id 1] (mul_sp (s 2) (divF (s 1) (s 0)) (bs _) (divF_lt _ _)) (.g q6 (.n (.c [.id 1] (log_sp (divF (s 1) (s 0)) (divF_lt _ _)) (.g q7 (.g q7 (.g q7 (.t q8 (.t q9 .nil))))))))))))))))))))))))))))))))))) (by kernel_rfl) (by kernel_rfl)
theorem locate_sp_4 (s : Nat → Nat) (bs : ∀ j, s j < 256) (q1 : (eqA (nf s) (fun _ => 0) 4 0) = false) (q2 : (decide (noI (s 0) = 0)) = true) (q3 : (decide (((divF (s 1) (s 0) : Nat) : Int) = 0)) = false) (q4 : (decide (((s 1 : Nat) : Int) = ((mulF (s 0) (divF (s 1) (s 0)) : Nat) : Int))) = true) (q5 : (decide (((s 2 : Nat) : Int) = ((mulF (s 1) (divF (s 1) (s 0)) : Nat) : Int))) = true) (q6 : (decide (((s 3 : Nat) : Int) = ((mulF (s 2) (divF (s 1) (s 0)) : Nat) : Int))) = true) (q7 : (decide (noI (divF (s 1) (s 0)) = 0)) = true) (q8 : (decide (39 ≤ ((logF (divF (s 1) (s 0)) : Nat) : Int))) = false) (q9 : (decide (36 ≤ ((logF (divF (s 1) (s 0)) : Nat) : Int))) = false) : Sp P 281 [.pt 0 0, .ar .u8 4 (nf s)] [.ro (.blk [.pt 1 0, .sl 2] 332), .ro (gF), .ro (.row eB gen)] (.ag [vn 1, vn (logF (divF (s 1) (s 0))), vb (s 0)]) [.ro (.blk [.pt 1 0, .sl 2] 332), .ro (gF), .ro (.row eB gen)] :=
 Sp.of (fn := Tryz.f281) rfl rfl 8 [.id 0, .id 1, .id 2] (.t q1 (.c [.id 1] (div_sp (s 1) (s 0) (bs _) (bs _)) (.g q2 (.g q2 (.g q2 (.t q3 (.lu 3 (.y (.ix (i := 1) (m := 4) (by decide) (.lt (i := 1) (n := 4) (by decide) (.ix (i := 0) (m := 4) (by decide) (.lt (i := 0) (n := 4) (by decide) (.c [.id 1] (mul_sp (s 0) (divF (s 1) (s 0)) (bs _) (divF_lt _ _)) (.g q4 (.y (.ix (i := 2) (m := 4) (by decide) (.lt (i := 2) (n := 4) (by decide) (.ix (i := 1) (m := 4) (by decide) (.lt (i := 1) (n := 4) (by decide) (.c [.id 1] (mul_sp (s 1) (divF (s 1) (s 0)) (bs _) (divF_lt _ _)) (.g q5 (.y (.ix (i := 3) (m := 4) (by decide) (.lt (i := 3) (n := 4) (by decide) (.ix (i := 2) (m := 4) (by decide) (.lt (i := 2) (n := 4) (by decide) (.c [.id 1] (mul_sp (s 2) (divF (s 1) (s 0)) (bs _) (divF_lt _ _)) (.g q6 (.n (.c [.id 1] (log_sp (divF (s 1) (s 0)) (divF_lt _ _)) (.g q7 (.g q7 (.g q7 (.t q8 (.t q9 .nil))))))))))))))))))))))))))))))))))) (by kernel_rfl) (by kernel_rfl)
theorem locate_sp_5 (s : Nat → Nat) (bs : ∀ j, s j < 256) (q1 : (eqA (nf s) (fun _ => 0) 4 0) = false) (q2 : (decide (noI (s 0) = 0)) = true) (q3 : (decide (((divF (s 1) (s 0) : Nat) : Int) = 0)) = false) (q4 : (decide (((s 1 : Nat) : Int) = ((mulF (s 0) (divF (s 1) (s 0)) : Nat) : Int))) = true) (q5 : (decide (((s 2 : Nat) : Int) = ((mulF (s 1) (divF (s 1) (s 0)) : Nat) : Int))) = true) (q6 : (decide (((s 3 : Nat) : Int) = ((mulF (s 2) (divF (s 1) (s 0)) : Nat) : Int))) = true) (q7 : (decide (noI (divF (s 1) (s 0)) = 0)) = false) : Sp P 281 [.pt 0 0, .ar .u8 4 (nf s)] [.ro (.blk [.pt 1 0, .sl 2] 332), .ro (gF), .ro (.row eB gen)] (.ag [vn 3, vi (-1), vb 0]) [.ro (.blk [.pt 1 0, .sl 2] 332), .ro (gF), .ro (.row eB gen)] :=
 Sp.of (fn := Tryz.f281) rfl rfl 8 [.id 0, .id 1, .id 2] (.t q1 (.c [.id 1] (div_sp (s 1) (s 0) (bs _) (bs _)) (.g q2 (.g q2 (.g q2 (.t q3 (.lu 3 (.y (.ix (i := 1) (m := 4) (by decide) (.lt (i := 1) (n := 4) (by decide) (.ix (i := 0) (m := 4) (by decide) (.lt (i := 0) (n := 4) (by decide) (.c [.id 1] (mul_sp (s 0) (divF (s 1) (s 0)) (bs _) (divF_lt _ _)) (.g q4 (.y (.ix (i := 2) (m := 4) (by decide) (.lt (i := 2) (n := 4) (by decide) (.ix (i := 1) (m := 4) (by decide) (.lt (i := 1) (n := 4) (by decide) (.c [.id 1] (mul_sp (s 1) (divF (s 1) (s 0)) (bs _) (divF_lt _ _)) (.g q5 (.y (.ix (i := 3) (m := 4) (by decide) (.lt (i := 3) (n := 4) (by decide) (.ix (i := 2) (m := 4) (by decide) (.lt (i := 2) (n := 4) (by decide) (.c [.id 1] (mul_sp (s 2) (divF (s 1) (s 0)) (bs _) (divF_lt _ _)) (.g q6 (.n (.c [.id 1] (log_sp (divF (s 1) (s 0)) (divF_lt _ _)) (.g q7 (.g q7 (.g q7 (.y (.c [] (lost_sp) .nil))))))))))))))))))))))))))))))))))) (by kernel_rfl) (by kernel_rfl)
theorem locate_sp_6 (s : Nat → Nat) (bs : ∀ j, s j < 256) (q1 : (eqA (nf s) (fun _ => 0) 4 0) = false) (q2 : (decide (noI (s 0) = 0)) = true) (q3 : (decide (((divF (s 1) (s 0) : Nat) : Int) = 0)) = false) (q4 : (decide (((s 1 : Nat) : Int) = ((mulF (s 0) (divF (s 1) (s 0)) : Nat) : Int))) = true) (q5 : (decide (((s 2 : Nat) : Int) = ((mulF (s 1) (divF (s 1) (s 0)) : Nat) : Int))) = true) (q6 : (decide (((s 3 : Nat) : Int) = ((mulF (s 2) (divF (s 1) (s 0)) : Nat) : Int))) = false) : Sp P 281 [.pt 0 0, .ar .u8 4 (nf s)] [.ro (.blk [.pt 1 0, .sl 2] 332), .ro (gF), .ro (.row eB gen)] (.ag [vn 3, vi (-1), vb 0]) [.ro (.blk [.pt 1 0, .sl 2] 332), .ro (gF), .ro (.row eB gen)] :=
 Sp.of (fn := Tryz.f281) rfl rfl 8 [.id 0, .id 1, .id 2] (.t q1 (.c [.id 1] (div_sp (s 1) (s 0) (bs _) (bs _)) (.g q2 (.g q2 (.g q2 (.t q3 (.lu 2 (.y (.ix (i := 1) (m := 4) (by decide) (.lt (i := 1) (n := 4) (by decide) (.ix (i := 0) (m := 4) (by decide) (.lt (i := 0) (n := 4) (by decide) (.c [.id 1] (mul_sp (s 0) (divF (s 1) (s 0)) (bs _) (divF_lt _ _)) (.g q4 (.y (.ix (i := 2) (m := 4) (by decide) (.lt (i := 2) (n := 4) (by decide) (.ix (i := 1) (m := 4) (by decide) (.lt (i := 1) (n := 4) (by decide) (.c [.id 1] (mul_sp (s 1) (divF (s 1) (s 0)) (bs _) (divF_lt _ _)) (.g q5 (.y (.ix (i := 3) (m := 4) (by decide) (.lt (i := 3) (n := 4) (by decide) (.ix (i := 2) (m := 4) (by decide) (.lt (i := 2) (n := 4) (by decide) (.c [.id 1] (mul_sp (s 2) (divF (s 1) (s 0)) (bs _) (divF_lt _ _)) (.g q6 (.c [] (lost_sp) .nil))))))))))))))))))))))))))))) (by kernel_rfl) (by kernel_rfl)
theorem locate_sp_7 (s : Nat → Nat) (bs : ∀ j, s j < 256) (q1 : (eqA (nf s) (fun _ => 0) 4 0) = false) (q2 : (decide (noI (s 0) = 0)) = true) (q3 : (decide (((divF (s 1) (s 0) : Nat) : Int) = 0)) = false) (q4 : (decide (((s 1 : Nat) : Int) = ((mulF (s 0) (divF (s 1) (s 0)) : Nat) : Int))) = true) (q5 : (decide (((s 2 : Nat) : Int) = ((mulF (s 1) (divF (s 1) (s 0)) : Nat) : Int))) = false) : Sp P 281 [.pt 0 0, .ar .u8 4 (nf s)] [.ro (.blk [.pt 1 0, .sl 2] 332), .ro (gF), .ro (.row eB gen)] (.ag [vn 3, vi (-1), vb 0]) [.ro (.blk [.pt 1 0, .sl 2] 332), .ro (gF), .ro (.row eB gen)] :=
 Sp.of (fn := Tryz.f281) rfl rfl 7 [.id 0, .id 1, .id 2] (.t q1 (.c [.id 1] (div_sp (s 1) (s 0) (bs _) (bs _)) (.g q2 (.g q2 (.g q2 (.t q3 (.lu 1 (.y (.ix (i := 1) (m := 4) (by decide) (.lt (i := 1) (n := 4) (by decide) (.ix (i := 0) (m := 4) (by decide) (.lt (i := 0) (n := 4) (by decide) (.c [.id 1] (mul_sp (s 0) (divF (s 1) (s 0)) (bs _) (divF_lt _ _)) (.g q4 (.y (.ix (i := 2) (m := 4) (by decide) (.lt (i := 2) (n := 4) (by decide) (.ix (i := 1) (m := 4) (by decide) (.lt (i := 1) (n := 4) (by decide) (.c [.id 1] (mul_sp (s 1) (divF (s 1) (s 0)) (bs _) (divF_lt _ _)) (.g q5 (.c [] (lost_sp) .nil)))))))))))))))))))))) (by kernel_rfl) (by kernel_rfl)
theorem locate_sp_8 (s : Nat → Nat) (bs : ∀ j, s j < 256) (q1 : (eqA (nf s) (fun _ => 0) 4 0) = false) (q2 : (decide (noI (s 0) = 0)) = true) (q3 : (decide (((divF (s 1) (s 0) : Nat) : Int) = 0)) = false) (q4 : (decide (((s 1 : Nat) : Int) = ((mulF (s 0) (divF (s 1) (s 0)) : Nat) : Int))) = false) : Sp P 281 [.pt 0 0, .ar .u8 4 (nf s)] [.ro (.blk [.pt 1 0, .sl 2] 332), .ro (gF), .ro (.row eB gen)] (.ag [vn 3, vi (-1), vb 0]) [.ro (.blk [.pt 1 0, .sl 2] 332), .ro (gF), .ro (.row eB gen)] :=
 Sp.of (fn := Tryz.f281) rfl rfl 6 [.id 0, .id 1, .id 2] (.t q1 (.c [.id 1] (div_sp (s 1) (s 0) (bs _) (bs _)) (.g q2 (.g q2 (.g q2 (.t q3 (.lu 0 (.y (.ix (i := 1) (m := 4) (by decide) (.lt (i := 1) (n := 4) (by decide) (.ix (i := 0) (m := 4) (by decide) (.lt (i := 0) (n := 4) (by decide) (.c [.id 1] (mul_sp (s 0) (divF (s 1) (s 0)) (bs _) (divF_lt _ _)) (.g q4 (.c [] (lost_sp) .nil))))))))))))))) (by kernel_rfl) (by kernel_rfl)
theorem locate_sp_9 (s : Nat → Nat) (bs : ∀ j, s j < 256) (q1 : (eqA (nf s) (fun _ => 0) 4 0) = false) (q2 : (decide (noI (s 0) = 0)) = false) : Sp P 281 [.pt 0 0, .ar .u8 4 (nf s)] [.ro (.blk [.pt 1 0, .sl 2] 332), .ro (gF), .ro (.row eB gen)] (.ag [vn 3, vi (-1), vb 0]) [.ro (.blk [.pt 1 0, .sl 2] 332), .ro (gF), .ro (.row eB gen)] :=
 Sp.of (fn := Tryz.f281) rfl rfl 5 [.id 0, .id 1, .id 2] (.t q1 (.c [.id 1] (div_sp (s 1) (s 0) (bs _) (bs _)) (.g q2 (.g q2 (.g q2 (.y (.c [] (lost_sp) .nil))))))) (by kernel_rfl) (by kernel_rfl)
theorem locate_sp (s : Nat → Nat) (bs : ∀ j, s j < 256) : Sp P 281 [.pt 0 0, .ar .u8 4 (nf s)] [.ro (.blk [.pt 1 0, .sl 2] 332), .ro (gF), .ro (.row eB gen)] (.ag [vn (lkind s), vi (lplace s), vb (lval s)]) [.ro (.blk [.pt 1 0, .sl 2] 332), .ro (gF), .ro (.row eB gen)] := by
 cases q1 : (eqA (nf s) (fun _ => 0) 4 0) with
 | true =>
  have e : (lkind s) = 0 := by (first | unfold lkind | unfold lplace | unfold lval); generalize divF (s 1) (s 0) = r at *; simp_all [loneR, noI, nf, Int.ofNat_inj, show ∀ a : Nat, ((a : Int) < 39) = (a < 39) from fun a => by simp; omega, show ∀ a : Nat, ((39 : Int) ≤ a) = (39 ≤ a) from fun a => by simp; omega, show ∀ a : Nat, ((36 : Int) ≤ a) = (36 ≤ a) from fun a => by simp; omega, show ∀ a : Nat, ((a : Int) < 36) = (a < 36) from fun a => by simp; omega]; try omega
  rw [e]; clear e
  have e : (lplace s) = (-1) := by (first | unfold lkind | unfold lplace | unfold lval); generalize divF (s 1) (s 0) = r at *; simp_all [loneR, noI, nf, Int.ofNat_inj, show ∀ a : Nat, ((a : Int) < 39) = (a < 39) from fun a => by simp; omega, show ∀ a : Nat, ((39 : Int) ≤ a) = (39 ≤ a) from fun a => by simp; omega, show ∀ a : Nat, ((36 : Int) ≤ a) = (36 ≤ a) from fun a => by simp; omega, show ∀ a : Nat, ((a : Int) < 36) = (a < 36) from fun a => by simp; omega]; try omega
  rw [e]; clear e
  have e : (lval s) = 0 := by (first | unfold lkind | unfold lplace | unfold lval); generalize divF (s 1) (s 0) = r at *; simp_all [loneR, noI, nf, Int.ofNat_inj, show ∀ a : Nat, ((a : Int) < 39) = (a < 39) from fun a => by simp; omega, show ∀ a : Nat, ((39 : Int) ≤ a) = (39 ≤ a) from fun a => by simp; omega, show ∀ a : Nat, ((36 : Int) ≤ a) = (36 ≤ a) from fun a => by simp; omega, show ∀ a : Nat, ((a : Int) < 36) = (a < 36) from fun a => by simp; omega]; try omega
  rw [e]; clear e
  exact locate_sp_0 s bs q1
 | false =>
  cases q2 : decide (noI (s 0) = 0) with
  | true =>
   cases q3 : decide (((divF (s 1) (s 0) : Nat) : Int) = 0) with
   | true =>
    have e : (lkind s) = 3 := by (first | unfold lkind | unfold lplace | unfold lval); generalize divF (s 1) (s 0) = r at *; simp_all [loneR, noI, nf, Int.ofNat_inj, show ∀ a : Nat, ((a : Int) < 39) = (a < 39) from fun a => by simp; omega, show ∀ a : Nat, ((39 : Int) ≤ a) = (39 ≤ a) from fun a => by simp; omega, show ∀ a : Nat, ((36 : Int) ≤ a) = (36 ≤ a) from fun a => by simp; omega, show ∀ a : Nat, ((a : Int) < 36) = (a < 36) from fun a => by simp; omega]; try omega
    rw [e]; clear e
    have e : (lplace s) = (-1) := by (first | unfold lkind | unfold lplace | unfold lval); generalize divF (s 1) (s 0) = r at *; simp_all [loneR, noI, nf, Int.ofNat_inj, show ∀ a : Nat, ((a : Int) < 39) = (a < 39) from fun a => by simp; omega, show ∀ a : Nat, ((39 : Int) ≤ a) = (39 ≤ a) from fun a => by simp; omega, show ∀ a : Nat, ((36 : Int) ≤ a) = (36 ≤ a) from fun a => by simp; omega, show ∀ a : Nat, ((a : Int) < 36) = (a < 36) from fun a => by simp; omega]; try omega
    rw [e]; clear e
    have e : (lval s) = 0 := by (first | unfold lkind | unfold lplace | unfold lval); generalize divF (s 1) (s 0) = r at *; simp_all [loneR, noI, nf, Int.ofNat_inj, show ∀ a : Nat, ((a : Int) < 39) = (a < 39) from fun a => by simp; omega, show ∀ a : Nat, ((39 : Int) ≤ a) = (39 ≤ a) from fun a => by simp; omega, show ∀ a : Nat, ((36 : Int) ≤ a) = (36 ≤ a) from fun a => by simp; omega, show ∀ a : Nat, ((a : Int) < 36) = (a < 36) from fun a => by simp; omega]; try omega
    rw [e]; clear e
    exact locate_sp_1 s bs q1 q2 q3
   | false =>
    cases q4 : decide (((s 1 : Nat) : Int) = ((mulF (s 0) (divF (s 1) (s 0)) : Nat) : Int)) with
    | true =>
     cases q5 : decide (((s 2 : Nat) : Int) = ((mulF (s 1) (divF (s 1) (s 0)) : Nat) : Int)) with
     | true =>
      cases q6 : decide (((s 3 : Nat) : Int) = ((mulF (s 2) (divF (s 1) (s 0)) : Nat) : Int)) with
      | true =>
       cases q7 : decide (noI (divF (s 1) (s 0)) = 0) with
       | true =>
        cases q8 : decide (39 ≤ ((logF (divF (s 1) (s 0)) : Nat) : Int)) with
        | true =>
         have e : (lkind s) = 3 := by (first | unfold lkind | unfold lplace | unfold lval); generalize divF (s 1) (s 0) = r at *; simp_all [loneR, noI, nf, Int.ofNat_inj, show ∀ a : Nat, ((a : Int) < 39) = (a < 39) from fun a => by simp; omega, show ∀ a : Nat, ((39 : Int) ≤ a) = (39 ≤ a) from fun a => by simp; omega, show ∀ a : Nat, ((36 : Int) ≤ a) = (36 ≤ a) from fun a => by simp; omega, show ∀ a : Nat, ((a : Int) < 36) = (a < 36) from fun a => by simp; omega]; try omega
         rw [e]; clear e
         have e : (lplace s) = (-1) := by (first | unfold lkind | unfold lplace | unfold lval); generalize divF (s 1) (s 0) = r at *; simp_all [loneR, noI, nf, Int.ofNat_inj, show ∀ a : Nat, ((a : Int) < 39) = (a < 39) from fun a => by simp; omega, show ∀ a : Nat, ((39 : Int) ≤ a) = (39 ≤ a) from fun a => by simp; omega, show ∀ a : Nat, ((36 : Int) ≤ a) = (36 ≤ a) from fun a => by simp; omega, show ∀ a : Nat, ((a : Int) < 36) = (a < 36) from fun a => by simp; omega]; try omega
         rw [e]; clear e
         have e : (lval s) = 0 := by (first | unfold lkind | unfold lplace | unfold lval); generalize divF (s 1) (s 0) = r at *; simp_all [loneR, noI, nf, Int.ofNat_inj, show ∀ a : Nat, ((a : Int) < 39) = (a < 39) from fun a => by simp; omega, show ∀ a : Nat, ((39 : Int) ≤ a) = (39 ≤ a) from fun a => by simp; omega, show ∀ a : Nat, ((36 : Int) ≤ a) = (36 ≤ a) from fun a => by simp; omega, show ∀ a : Nat, ((a : Int) < 36) = (a < 36) from fun a => by simp; omega]; try omega
         rw [e]; clear e
         exact locate_sp_2 s bs q1 q2 q3 q4 q5 q6 q7 q8
        | false =>
         cases q9 : decide (36 ≤ ((logF (divF (s 1) (s 0)) : Nat) : Int)) with
         | true =>
          have e : (lkind s) = 2 := by (first | unfold lkind | unfold lplace | unfold lval); generalize divF (s 1) (s 0) = r at *; simp_all [loneR, noI, nf, Int.ofNat_inj, show ∀ a : Nat, ((a : Int) < 39) = (a < 39) from fun a => by simp; omega, show ∀ a : Nat, ((39 : Int) ≤ a) = (39 ≤ a) from fun a => by simp; omega, show ∀ a : Nat, ((36 : Int) ≤ a) = (36 ≤ a) from fun a => by simp; omega, show ∀ a : Nat, ((a : Int) < 36) = (a < 36) from fun a => by simp; omega]; try omega
          rw [e]; clear e
          have e : (lplace s) = ((logF (divF (s 1) (s 0)) : Nat) : Int) := by (first | unfold lkind | unfold lplace | unfold lval); generalize divF (s 1) (s 0) = r at *; simp_all [loneR, noI, nf, Int.ofNat_inj, show ∀ a : Nat, ((a : Int) < 39) = (a < 39) from fun a => by simp; omega, show ∀ a : Nat, ((39 : Int) ≤ a) = (39 ≤ a) from fun a => by simp; omega, show ∀ a : Nat, ((36 : Int) ≤ a) = (36 ≤ a) from fun a => by simp; omega, show ∀ a : Nat, ((a : Int) < 36) = (a < 36) from fun a => by simp; omega]; try omega
          rw [e]; clear e
          have e : (lval s) = (s 0) := by (first | unfold lkind | unfold lplace | unfold lval); generalize divF (s 1) (s 0) = r at *; simp_all [loneR, noI, nf, Int.ofNat_inj, show ∀ a : Nat, ((a : Int) < 39) = (a < 39) from fun a => by simp; omega, show ∀ a : Nat, ((39 : Int) ≤ a) = (39 ≤ a) from fun a => by simp; omega, show ∀ a : Nat, ((36 : Int) ≤ a) = (36 ≤ a) from fun a => by simp; omega, show ∀ a : Nat, ((a : Int) < 36) = (a < 36) from fun a => by simp; omega]; try omega
          rw [e]; clear e
          exact locate_sp_3 s bs q1 q2 q3 q4 q5 q6 q7 q8 q9
         | false =>
          have e : (lkind s) = 1 := by (first | unfold lkind | unfold lplace | unfold lval); generalize divF (s 1) (s 0) = r at *; simp_all [loneR, noI, nf, Int.ofNat_inj, show ∀ a : Nat, ((a : Int) < 39) = (a < 39) from fun a => by simp; omega, show ∀ a : Nat, ((39 : Int) ≤ a) = (39 ≤ a) from fun a => by simp; omega, show ∀ a : Nat, ((36 : Int) ≤ a) = (36 ≤ a) from fun a => by simp; omega, show ∀ a : Nat, ((a : Int) < 36) = (a < 36) from fun a => by simp; omega]; try omega
          rw [e]; clear e
          have e : (lplace s) = ((logF (divF (s 1) (s 0)) : Nat) : Int) := by (first | unfold lkind | unfold lplace | unfold lval); generalize divF (s 1) (s 0) = r at *; simp_all [loneR, noI, nf, Int.ofNat_inj, show ∀ a : Nat, ((a : Int) < 39) = (a < 39) from fun a => by simp; omega, show ∀ a : Nat, ((39 : Int) ≤ a) = (39 ≤ a) from fun a => by simp; omega, show ∀ a : Nat, ((36 : Int) ≤ a) = (36 ≤ a) from fun a => by simp; omega, show ∀ a : Nat, ((a : Int) < 36) = (a < 36) from fun a => by simp; omega]; try omega
          rw [e]; clear e
          have e : (lval s) = (s 0) := by (first | unfold lkind | unfold lplace | unfold lval); generalize divF (s 1) (s 0) = r at *; simp_all [loneR, noI, nf, Int.ofNat_inj, show ∀ a : Nat, ((a : Int) < 39) = (a < 39) from fun a => by simp; omega, show ∀ a : Nat, ((39 : Int) ≤ a) = (39 ≤ a) from fun a => by simp; omega, show ∀ a : Nat, ((36 : Int) ≤ a) = (36 ≤ a) from fun a => by simp; omega, show ∀ a : Nat, ((a : Int) < 36) = (a < 36) from fun a => by simp; omega]; try omega
          rw [e]; clear e
          exact locate_sp_4 s bs q1 q2 q3 q4 q5 q6 q7 q8 q9
       | false =>
        have e : (lkind s) = 3 := by (first | unfold lkind | unfold lplace | unfold lval); generalize divF (s 1) (s 0) = r at *; simp_all [loneR, noI, nf, Int.ofNat_inj, show ∀ a : Nat, ((a : Int) < 39) = (a < 39) from fun a => by simp; omega, show ∀ a : Nat, ((39 : Int) ≤ a) = (39 ≤ a) from fun a => by simp; omega, show ∀ a : Nat, ((36 : Int) ≤ a) = (36 ≤ a) from fun a => by simp; omega, show ∀ a : Nat, ((a : Int) < 36) = (a < 36) from fun a => by simp; omega]; try omega
        rw [e]; clear e
        have e : (lplace s) = (-1) := by (first | unfold lkind | unfold lplace | unfold lval); generalize divF (s 1) (s 0) = r at *; simp_all [loneR, noI, nf, Int.ofNat_inj, show ∀ a : Nat, ((a : Int) < 39) = (a < 39) from fun a => by simp; omega, show ∀ a : Nat, ((39 : Int) ≤ a) = (39 ≤ a) from fun a => by simp; omega, show ∀ a : Nat, ((36 : Int) ≤ a) = (36 ≤ a) from fun a => by simp; omega, show ∀ a : Nat, ((a : Int) < 36) = (a < 36) from fun a => by simp; omega]; try omega
        rw [e]; clear e
        have e : (lval s) = 0 := by (first | unfold lkind | unfold lplace | unfold lval); generalize divF (s 1) (s 0) = r at *; simp_all [loneR, noI, nf, Int.ofNat_inj, show ∀ a : Nat, ((a : Int) < 39) = (a < 39) from fun a => by simp; omega, show ∀ a : Nat, ((39 : Int) ≤ a) = (39 ≤ a) from fun a => by simp; omega, show ∀ a : Nat, ((36 : Int) ≤ a) = (36 ≤ a) from fun a => by simp; omega, show ∀ a : Nat, ((a : Int) < 36) = (a < 36) from fun a => by simp; omega]; try omega
        rw [e]; clear e
        exact locate_sp_5 s bs q1 q2 q3 q4 q5 q6 q7
      | false =>
       have e : (lkind s) = 3 := by (first | unfold lkind | unfold lplace | unfold lval); generalize divF (s 1) (s 0) = r at *; simp_all [loneR, noI, nf, Int.ofNat_inj, show ∀ a : Nat, ((a : Int) < 39) = (a < 39) from fun a => by simp; omega, show ∀ a : Nat, ((39 : Int) ≤ a) = (39 ≤ a) from fun a => by simp; omega, show ∀ a : Nat, ((36 : Int) ≤ a) = (36 ≤ a) from fun a => by simp; omega, show ∀ a : Nat, ((a : Int) < 36) = (a < 36) from fun a => by simp; omega]; try omega
       rw [e]; clear e
       have e : (lplace s) = (-1) := by (first | unfold lkind | unfold lplace | unfold lval); generalize divF (s 1) (s 0) = r at *; simp_all [loneR, noI, nf, Int.ofNat_inj, show ∀ a : Nat, ((a : Int) < 39) = (a < 39) from fun a => by simp; omega, show ∀ a : Nat, ((39 : Int) ≤ a) = (39 ≤ a) from fun a => by simp; omega, show ∀ a : Nat, ((36 : Int) ≤ a) = (36 ≤ a) from fun a => by simp; omega, show ∀ a : Nat, ((a : Int) < 36) = (a < 36) from fun a => by simp; omega]; try omega
       rw [e]; clear e
       have e : (lval s) = 0 := by (first | unfold lkind | unfold lplace | unfold lval); generalize divF (s 1) (s 0) = r at *; simp_all [loneR, noI, nf, Int.ofNat_inj, show ∀ a : Nat, ((a : Int) < 39) = (a < 39) from fun a => by simp; omega, show ∀ a : Nat, ((39 : Int) ≤ a) = (39 ≤ a) from fun a => by simp; omega, show ∀ a : Nat, ((36 : Int) ≤ a) = (36 ≤ a) from fun a => by simp; omega, show ∀ a : Nat, ((a : Int) < 36) = (a < 36) from fun a => by simp; omega]; try omega
       rw [e]; clear e
       exact locate_sp_6 s bs q1 q2 q3 q4 q5 q6
     | false =>
      have e : (lkind s) = 3 := by (first | unfold lkind | unfold lplace | unfold lval); generalize divF (s 1) (s 0) = r at *; simp_all [loneR, noI, nf, Int.ofNat_inj, show ∀ a : Nat, ((a : Int) < 39) = (a < 39) from fun a => by simp; omega, show ∀ a : Nat, ((39 : Int) ≤ a) = (39 ≤ a) from fun a => by simp; omega, show ∀ a : Nat, ((36 : Int) ≤ a) = (36 ≤ a) from fun a => by simp; omega, show ∀ a : Nat, ((a : Int) < 36) = (a < 36) from fun a => by simp; omega]; try omega
      rw [e]; clear e
      have e : (lplace s) = (-1) := by (first | unfold lkind | unfold lplace | unfold lval); generalize divF (s 1) (s 0) = r at *; simp_all [loneR, noI, nf, Int.ofNat_inj, show ∀ a : Nat, ((a : Int) < 39) = (a < 39) from fun a => by simp; omega, show ∀ a : Nat, ((39 : Int) ≤ a) = (39 ≤ a) from fun a => by simp; omega, show ∀ a : Nat, ((36 : Int) ≤ a) = (36 ≤ a) from fun a => by simp; omega, show ∀ a : Nat, ((a : Int) < 36) = (a < 36) from fun a => by simp; omega]; try omega
      rw [e]; clear e
      have e : (lval s) = 0 := by (first | unfold lkind | unfold lplace | unfold lval); generalize divF (s 1) (s 0) = r at *; simp_all [loneR, noI, nf, Int.ofNat_inj, show ∀ a : Nat, ((a : Int) < 39) = (a < 39) from fun a => by simp; omega, show ∀ a : Nat, ((39 : Int) ≤ a) = (39 ≤ a) from fun a => by simp; omega, show ∀ a : Nat, ((36 : Int) ≤ a) = (36 ≤ a) from fun a => by simp; omega, show ∀ a : Nat, ((a : Int) < 36) = (a < 36) from fun a => by simp; omega]; try omega
      rw [e]; clear e
      exact locate_sp_7 s bs q1 q2 q3 q4 q5
    | false =>
     have e : (lkind s) = 3 := by (first | unfold lkind | unfold lplace | unfold lval); generalize divF (s 1) (s 0) = r at *; simp_all [loneR, noI, nf, Int.ofNat_inj, show ∀ a : Nat, ((a : Int) < 39) = (a < 39) from fun a => by simp; omega, show ∀ a : Nat, ((39 : Int) ≤ a) = (39 ≤ a) from fun a => by simp; omega, show ∀ a : Nat, ((36 : Int) ≤ a) = (36 ≤ a) from fun a => by simp; omega, show ∀ a : Nat, ((a : Int) < 36) = (a < 36) from fun a => by simp; omega]; try omega
     rw [e]; clear e
     have e : (lplace s) = (-1) := by (first | unfold lkind | unfold lplace | unfold lval); generalize divF (s 1) (s 0) = r at *; simp_all [loneR, noI, nf, Int.ofNat_inj, show ∀ a : Nat, ((a : Int) < 39) = (a < 39) from fun a => by simp; omega, show ∀ a : Nat, ((39 : Int) ≤ a) = (39 ≤ a) from fun a => by simp; omega, show ∀ a : Nat, ((36 : Int) ≤ a) = (36 ≤ a) from fun a => by simp; omega, show ∀ a : Nat, ((a : Int) < 36) = (a < 36) from fun a => by simp; omega]; try omega
     rw [e]; clear e
     have e : (lval s) = 0 := by (first | unfold lkind | unfold lplace | unfold lval); generalize divF (s 1) (s 0) = r at *; simp_all [loneR, noI, nf, Int.ofNat_inj, show ∀ a : Nat, ((a : Int) < 39) = (a < 39) from fun a => by simp; omega, show ∀ a : Nat, ((39 : Int) ≤ a) = (39 ≤ a) from fun a => by simp; omega, show ∀ a : Nat, ((36 : Int) ≤ a) = (36 ≤ a) from fun a => by simp; omega, show ∀ a : Nat, ((a : Int) < 36) = (a < 36) from fun a => by simp; omega]; try omega
     rw [e]; clear e
     exact locate_sp_8 s bs q1 q2 q3 q4
  | false =>
   have e : (lkind s) = 3 := by (first | unfold lkind | unfold lplace | unfold lval); generalize divF (s 1) (s 0) = r at *; simp_all [loneR, noI, nf, Int.ofNat_inj, show ∀ a : Nat, ((a : Int) < 39) = (a < 39) from fun a => by simp; omega, show ∀ a : Nat, ((39 : Int) ≤ a) = (39 ≤ a) from fun a => by simp; omega, show ∀ a : Nat, ((36 : Int) ≤ a) = (36 ≤ a) from fun a => by simp; omega, show ∀ a : Nat, ((a : Int) < 36) = (a < 36) from fun a => by simp; omega]; try omega
   rw [e]; clear e
   have e : (lplace s) = (-1) := by (first | unfold lkind | unfold lplace | unfold lval); generalize divF (s 1) (s 0) = r at *; simp_all [loneR, noI, nf, Int.ofNat_inj, show ∀ a : Nat, ((a : Int) < 39) = (a < 39) from fun a => by simp; omega, show ∀ a : Nat, ((39 : Int) ≤ a) = (39 ≤ a) from fun a => by simp; omega, show ∀ a : Nat, ((36 : Int) ≤ a) = (36 ≤ a) from fun a => by simp; omega, show ∀ a : Nat, ((a : Int) < 36) = (a < 36) from fun a => by simp; omega]; try omega
   rw [e]; clear e
   have e : (lval s) = 0 := by (first | unfold lkind | unfold lplace | unfold lval); generalize divF (s 1) (s 0) = r at *; simp_all [loneR, noI, nf, Int.ofNat_inj, show ∀ a : Nat, ((a : Int) < 39) = (a < 39) from fun a => by simp; omega, show ∀ a : Nat, ((39 : Int) ≤ a) = (39 ≤ a) from fun a => by simp; omega, show ∀ a : Nat, ((36 : Int) ≤ a) = (36 ≤ a) from fun a => by simp; omega, show ∀ a : Nat, ((a : Int) < 36) = (a < 36) from fun a => by simp; omega]; try omega
   rw [e]; clear e
   exact locate_sp_9 s bs q1 q2
def rsfix (w v : Nat → Nat) (j : Nat) : Nat := if lkind (syF w v) = 1 ∧ 4 + j = (lplace (syF w v)).toNat then xr (w (4 + j)) (lval (syF w v)) else w (4 + j)
theorem rsfix_lt {w v : Nat → Nat} (hw : ∀ j, w j < 256) (hv : ∀ j, v j < 256) (j : Nat) : rsfix w v j < 256 := by
 unfold rsfix; split
 ·exact xr_lt (hw _) (lval_lt (syF_lt hw hv))
 ·exact hw _
theorem tu_den {a a' c : V} (h : V.den ρN a = V.den ρN a') : V.den ρN (.tu [a, c]) = V.den ρN (.tu [a', c]) := by simp only [V.den, V.dens, h]
theorem rsdecode_0 (w : Nat → Nat) (v : Nat → Nat) (hw : ∀ j, w j < 256) (hv : ∀ j, v j < 256) (q : decide (((lkind (syF w v) : Nat) : Int) = 1) = false) : Sp P 255 [.pt 0 0, .ar .u8 36 (nf w), .ar .u8 3 (nf v)] [.ro (.blk [.pt 1 0, .sl 2] 332), .ro (gF), .ro (.row eB gen)] (.tu [.ar .u8 32 (nf (fun j => w (4 + j))), .ag [vn (lkind (syF w v)), vi (lplace (syF w v)), vb (lval (syF w v))]]) [.ro (.blk [.pt 1 0, .sl 2] 332), .ro (gF), .ro (.row eB gen)] :=
 Sp.of (fn := Tryz.f255) rfl rfl 9 [.id 0, .id 1, .id 2] (.c [.id 0, .id 1, .id 2] (syndromes_sp w v (by first | assumption | omega) (by first | assumption | omega)) (.c [.id 0, .id 1, .id 2] (locate_sp (syF w v) (syF_lt hw hv)) (.t q (.sl (i := 4) (n := 32) (m := 36) (by decide) .nil)))) (by kernel_rfl) (by kernel_rfl)
theorem rsdecode_1 (w : Nat → Nat) (v : Nat → Nat) (hw : ∀ j, w j < 256) (hv : ∀ j, v j < 256) (q : decide (((lkind (syF w v) : Nat) : Int) = 1) = true) : Sp P 255 [.pt 0 0, .ar .u8 36 (nf w), .ar .u8 3 (nf v)] [.ro (.blk [.pt 1 0, .sl 2] 332), .ro (gF), .ro (.row eB gen)] (.tu [.ar .u8 32 (fun i => upI (nf w) (lplace (syF w v)).toNat ((xr (w (lplace (syF w v)).toNat) (lval (syF w v)) : Nat) : Int) (4 + i)), .ag [vn (lkind (syF w v)), vi (lplace (syF w v)), vb (lval (syF w v))]]) [.ro (.blk [.pt 1 0, .sl 2] 332), .ro (gF), .ro (.row eB gen)] :=
 Sp.of (fn := Tryz.f255) rfl rfl 10 [.id 0, .id 1, .id 2] (.c [.id 0, .id 1, .id 2] (syndromes_sp w v (by first | assumption | omega) (by first | assumption | omega)) (.c [.id 0, .id 1, .id 2] (locate_sp (syF w v) (syF_lt hw hv)) (.t q (.ix (n := lplace (syF w v)) (i := (lplace (syF w v)).toNat) (m := 36) (e := (by have := lplace_ok (s := (syF w v)) (by have := of_decide_eq_true q; omega); omega)) (by have := lplace_ok (s := (syF w v)) (by have := of_decide_eq_true q; omega); omega) (.lt (i := (lplace (syF w v)).toNat) (n := 36) (by have := lplace_ok (s := (syF w v)) (by have := of_decide_eq_true q; omega); omega) (.e 24 (bXor (w (lplace (syF w v)).toNat) (lval (syF w v)) (hw _) (lval_lt (syF_lt hw hv))) (.ix (n := lplace (syF w v)) (i := (lplace (syF w v)).toNat) (m := 36) (e := (by have := lplace_ok (s := (syF w v)) (by have := of_decide_eq_true q; omega); omega)) (by have := lplace_ok (s := (syF w v)) (by have := of_decide_eq_true q; omega); omega) (.lt (i := (lplace (syF w v)).toNat) (n := 36) (by have := lplace_ok (s := (syF w v)) (by have := of_decide_eq_true q; omega); omega) (.sl (i := 4) (n := 32) (m := 36) (by decide) .nil))))))))) (by kernel_rfl) (by kernel_rfl)
theorem rsdecode_sp (w v : Nat → Nat) (hw : ∀ j, w j < 256) (hv : ∀ j, v j < 256) : Sp P 255 [.pt 0 0, .ar .u8 36 (nf w), .ar .u8 3 (nf v)] [.ro (.blk [.pt 1 0, .sl 2] 332), .ro (gF), .ro (.row eB gen)] (.tu [.ar .u8 32 (nf (rsfix w v)), .ag [vn (lkind (syF w v)), vi (lplace (syF w v)), vb (lval (syF w v))]]) [.ro (.blk [.pt 1 0, .sl 2] 332), .ro (gF), .ro (.row eB gen)] := by
 cases q : decide (((lkind (syF w v) : Nat) : Int) = 1) with
 | true =>
  refine (rsdecode_1 w v hw hv q).resE (tu_den (ar_den fun j hj => ?_)) rfl rfl rfl
  have hk : lkind (syF w v) = 1 := by have := of_decide_eq_true q; omega
  unfold upI nf rsfix
  by_cases h : 4 + j = (lplace (syF w v)).toNat
  ·rw [if_pos h, if_pos ⟨hk, h⟩, ← h]
  ·rw [if_neg h, if_neg (fun h2 => h h2.2)]
 | false =>
  refine (rsdecode_0 w v hw hv q).resE (tu_den (ar_den fun j hj => ?_)) rfl rfl rfl
  have hk : ¬ lkind (syF w v) = 1 := by have := of_decide_eq_false q; omega
  unfold nf rsfix
  rw [if_neg (fun h2 => hk h2.1)]
end Go.Proofs.YtghfannbcopjmaaGreat
