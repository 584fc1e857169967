import Derived.Test.YtghfannbcopjmaaGreatFHs
namespace Go.Proofs.YtghfannbcopjmaaGreat
open Go Go.RowKit
set_option linter.unusedVariables false
set_option linter.unusedSimpArgs false
set_option maxRecDepth 100000
def colF (j : Nat) : Nat := (5911073172012725484092618657723262832664954745514448157994389638002641846240736953853080237825029422181614702873248557227874112659003188383670735037217950857422651111138566933255 >>> (8 * j)) % 256
def atF (j : Nat) : Int := (((15629326251159733078838069739411644082774834654327814373300440451280187183611477476812505312469943809358571297003010355045765626695266115688146549001139440135084082291760802442227039547069613044856610091637057525603929157985075951283946815393159994284017784694257391980209344356560435103431014075795826555508795219264216367861277861906521085451337183225246504263778248913657119722256471905034847775643956497499126610668291865597843631763185373963899346431767092297714797936379423336389172923572956602176912673356923049501097609433820134785280 >>> (8 * j)) % 256 : Nat) : Int) - 1
theorem colF_lt (j : Nat) : colF j < 256 := Nat.mod_lt _ (by decide)
theorem col_eq : ∀ j : _root_.Fin 74, h5c 94 j.1 = nf colF j.1 := by decide +kernel
theorem at_eq : ∀ j : _root_.Fin 256, h5a 94 j.1 = atF j.1 := by decide +kernel
abbrev hC : B := .blk [.ar .u8 74 (nf colF), .ar .i64 256 atF] 321
theorem hnew_sp : Sp P 154 [] [] (.pt 0 0) [hC] :=
 Sp.cells hnew_raw 0 (l' := [.ar .u8 74 (nf colF), .ar .i64 256 (atF)]) rfl (by
  simp only [V.flat, V.den]
  rw [arV_ext 74 0 (k := .u8) (f := h5c 94) (h := nf colF) (fun j _ h => col_eq ⟨j, by omega⟩), arV_ext 256 0 (k := .i64) (f := h5a 94) (h := atF) (fun j _ h => at_eq ⟨j, by omega⟩)]) rfl rfl rfl
def hv (d : Nat) : Nat → Nat
 | 0 => d
 | i + 1 => hv d i / 2
theorem hv_eq (d : Nat) : ∀ i, hv d i = d / 2 ^ i
 | 0 => by rw [hv, Nat.pow_zero, Nat.div_one]
 | i + 1 => by rw [hv, hv_eq d i, Nat.pow_succ, ← Nat.div_div_eq_div_mul]
theorem hv_lt {d m : Nat} (h : d < m) (i : Nat) : hv d i < m := by rw [hv_eq]; exact half_lt h
theorem hv_ne {d i : Nat} (h : i < bl d) : hv d i ≠ 0 := by rw [hv_eq]; exact bl_ne h
theorem hv_end (d : Nat) : hv d (bl d) = 0 := by rw [hv_eq]; exact bl_end d
def chF (d : Nat) : Nat → Nat
 | 0 => 0
 | i + 1 => bif decide (((hv d i % 2 : Nat) : Int) = 1) then xr (chF d i) (colF i) else chF d i
theorem chF_lt (d : Nat) : ∀ i, chF d i < 256
 | 0 => (by decide : (0 : Nat) < 256)
 | i + 1 => by
  rw [chF]
  cases decide (((hv d i % 2 : Nat) : Int) = 1)
  ·exact chF_lt d i
  ·exact xr_lt (chF_lt d i) (colF_lt i)
theorem low2 (a : Nat) (h : a < 2) : Value.int .i64 (bits .and .i64 ((a : Nat) : Int) 1) = .int .i64 ((a : Nat) : Int) := by
 have key : ∀ a : _root_.Fin 2, bits .and .i64 ((a.1 : Nat) : Int) 1 = ((a.1 : Nat) : Int) := by decide +kernel
 rw [key ⟨a, h⟩]
def chA (d a : Nat) : Nat := bif decide (((a : Nat) : Int) = 1) then xr (chF d (bl d)) (colF 72) else chF d (bl d)
theorem chA_lt (d a : Nat) : chA d a < 256 := by
 unfold chA
 cases decide (((a : Nat) : Int) = 1)
 ·exact chF_lt d _
 ·exact xr_lt (chF_lt d _) (colF_lt _)
def chk (d a q : Nat) : Nat := bif decide (((q : Nat) : Int) = 1) then xr (chA d a) (colF 73) else chA d a
theorem chk_lt (d a q : Nat) : chk d a q < 256 := by
 unfold chk
 cases decide (((q : Nat) : Int) = 1)
 ·exact chA_lt d a
 ·exact xr_lt (chA_lt d a) (colF_lt _)
def syn (d a q c : Nat) : Nat := xr (chk d a q) c
theorem syn_lt {d a q c : Nat} (h : c < 256) : syn d a q c < 256 := xr_lt (chk_lt d a q) h
def vkind (s : Nat) : Int := if s = 0 then 0 else if atF s = -1 then 4 else if atF s = 72 then 3 else if atF s = 73 then 2 else 1
def vplace (s : Nat) : Int := if s = 0 then -1 else if atF s = -1 then -1 else if atF s = 72 then -1 else if atF s = 73 then -1 else atF s
theorem vplace_ok {s : Nat} (h : s < 256) : vkind s = 1 → 0 ≤ vplace s ∧ vplace s < 72 := by
 revert h
 exact fun h => of256 (q := fun s => vkind s = 1 → 0 ≤ vplace s ∧ vplace s < 72) (by decide +kernel) h
theorem toU64 {x : Int} (h0 : 0 ≤ x) (h : x < 64) : Value.int .u64 (IntKind.u64.wrap x) = .int .u64 ((x.toNat : Nat) : Int) := by
 obtain ⟨n, rfl⟩ := Int.eq_ofNat_of_zero_le h0
 rw [wU64 (by omega)]; rfl
theorem shl64 (n : Nat) (h : n < 64) : Value.int .u64 (IntKind.u64.wrap (1 * 2 ^ (min ((n : Nat) : Int).toNat 64))) = .int .u64 ((2 ^ n : Nat) : Int) := by
 have key : ∀ i : _root_.Fin 64, IntKind.u64.wrap (1 * 2 ^ (min ((i.1 : Nat) : Int).toNat 64)) = ((2 ^ i.1 : Nat) : Int) := by decide +kernel
 exact congrArg _ (key ⟨n, h⟩)
def hfix (d c a : Nat) : Nat := if vkind (syn d a 0 c) = 1 then if vplace (syn d a 0 c) < 64 then d ^^^ 2 ^ (vplace (syn d a 0 c)).toNat else d else d
theorem ones64_sp (x : Nat)  : Sp P 141 [vu x] [] (.fn (.func 189) [] [.pt 0 0]) [.blk [vu x] 38] :=
 Sp.of (fn := Tryz.f141) rfl rfl 3 [.id 1] .nil (by kernel_rfl) (by kernel_rfl)
theorem check_sp (d : Nat) (a : Nat) (q : Nat) (hd : d < 18446744073709551616) (ha : a < 2) (hq : q < 2) : Sp P 174 [.pt 0 0, vu d, vn a, vn q] [.ro (hC)] (vb (chk d a q)) [.ro (hC)] :=
 Sp.of (fn := Tryz.f174) rfl rfl 8 [.id 0] (.c [] (ones64_sp d) (.lp (bl d) 7 [] [] (fun i => [(3, vn i)]) (fun i => [(3, .blk [vb (chF d i)] 5), (4, .blk [vu (hv d i)] 38), (5, .lo .ready none)]) (fun i hi => (.t (congrArg (!·) (show (decide (((hv d i : Nat) : Int) = 0)) = false from decide_eq_false (by have := hv_ne hi; omega))) (.cs 2 (decide (((hv d i % 2 : Nat) : Int) = 1)) 7 [] [] (fun z => [(8, vu (hv d i)), (9, vu (hv d i % 2)), (10, vt (decide (((hv d i % 2 : Nat) : Int) = 1))), (11, vt (decide (((hv d i % 2 : Nat) : Int) = 1))), (16, vt false), (17, vu (hv d i)), (18, vu (hv d (i + 1)))]) (fun z => [(3, .blk [vb (bif z then (xr (chF d i) (colF i)) else (chF d i))] 5), (4, .blk [vu (hv d (i + 1))] 38), (5, .lo .ready none)]) (fun hq1 => (.e 9 (uLow64 (hv d i) (hv_lt hd i)) (.t hq1 (.t hq1 (.t hq1 (.ix (i := i) (m := 74) (by have := bl_le (n := 64) hd; omega) (.lt (i := i) (n := 74) (by have := bl_le (n := 64) hd; omega) (.e 21 (bXor (chF d i) (colF i) (chF_lt d i) (colF_lt i)) (.t hq1 (.t hq1 (.n (.e 18 (uHalf64 (hv d i)) .nil)))))))))))) (fun hq1 => (.e 9 (uLow64 (hv d i) (hv_lt hd i)) (.t hq1 (.t hq1 (.t hq1 (.t hq1 (.t hq1 (.n (.e 18 (uHalf64 (hv d i)) .nil))))))))) (.e 7 (aAdd (a := ((i : Nat) : Int)) (b := 1) (c := ((i + 1 : Nat) : Int)) (by have := bl_le (n := 64) hd; omega)) .nil)))) (.t (congrArg (!·) (show (decide (((hv d (bl d) : Nat) : Int) = 0)) = true from decide_eq_true (by rw [hv_end]; rfl))) (.e 23 (low2 a ha) (.cs 0 (decide (((a : Nat) : Int) = 1)) 7 [] [] (fun z => []) (fun z => [(3, .blk [vb (bif z then (xr (chF d (bl d)) (colF 72)) else (chF d (bl d)))] 5)]) (fun hq1 => (.t hq1 (.e 31 (bXor (chF d (bl d)) (colF 72) (chF_lt d _) (colF_lt _)) .nil))) (fun hq1 => (.t hq1 .nil)) (.e 33 (low2 q hq) (.cs 0 (decide (((q : Nat) : Int) = 1)) 7 [] [] (fun z => []) (fun z => [(3, .blk [vb (bif z then (xr (chA d a) (colF 73)) else (bif (decide (((a : Nat) : Int) = 1)) then (xr (chF d (bl d)) (colF 72)) else (chF d (bl d))))] 5)]) (fun hq1 => (.t hq1 (.e 41 (bXor (chA d a) (colF 73) (chA_lt d a) (colF_lt _)) .nil))) (fun hq1 => (.t hq1 .nil)) .nil))))))) (by kernel_rfl) (by kernel_rfl)
theorem syndrome_sp (d : Nat) (c : Nat) (a : Nat) (q : Nat) (hd : d < 18446744073709551616) (ha : a < 2) (hq : q < 2) (hc : c < 256) : Sp P 280 [.pt 0 0, vu d, vb c, vn a, vn q] [.ro (hC)] (vb (syn d a q c)) [.ro (hC)] :=
 Sp.of (fn := Tryz.f280) rfl rfl 3 [.id 0] (.c [.id 0] (check_sp d a q (by first | assumption | omega) (by first | assumption | omega) (by first | assumption | omega)) (.e 17 (bXor (chk d a q) c (chk_lt _ _ _) hc) .nil)) (by kernel_rfl) (by kernel_rfl)
theorem classify_sp_0 (s : Nat) (hs : s < 256) (q1 : (decide (((s : Nat) : Int) = 0)) = true) : Sp P 279 [.pt 0 0, vb s] [.ro (hC)] (.tu [vn 0, vi (-1)]) [.ro (hC)] :=
 Sp.of (fn := Tryz.f279) rfl rfl 3 [.id 0] (.t q1 .nil) (by kernel_rfl) (by kernel_rfl)
theorem classify_sp_1 (s : Nat) (hs : s < 256) (q1 : (decide (((s : Nat) : Int) = 0)) = false) (q2 : (decide (atF s = -1)) = true) : Sp P 279 [.pt 0 0, vb s] [.ro (hC)] (.tu [vn 4, vi (-1)]) [.ro (hC)] :=
 Sp.of (fn := Tryz.f279) rfl rfl 3 [.id 0] (.t q1 (.ix (i := s) (m := 256) hs (.lt (i := s) (n := 256) hs (.t q2 .nil)))) (by kernel_rfl) (by kernel_rfl)
theorem classify_sp_2 (s : Nat) (hs : s < 256) (q1 : (decide (((s : Nat) : Int) = 0)) = false) (q2 : (decide (atF s = -1)) = false) (q3 : (decide (atF s = 72)) = true) : Sp P 279 [.pt 0 0, vb s] [.ro (hC)] (.tu [vn 3, vi (-1)]) [.ro (hC)] :=
 Sp.of (fn := Tryz.f279) rfl rfl 3 [.id 0] (.t q1 (.ix (i := s) (m := 256) hs (.lt (i := s) (n := 256) hs (.t q2 (.t q3 .nil))))) (by kernel_rfl) (by kernel_rfl)
theorem classify_sp_3 (s : Nat) (hs : s < 256) (q1 : (decide (((s : Nat) : Int) = 0)) = false) (q2 : (decide (atF s = -1)) = false) (q3 : (decide (atF s = 72)) = false) (q4 : (decide (atF s = 73)) = true) : Sp P 279 [.pt 0 0, vb s] [.ro (hC)] (.tu [vn 2, vi (-1)]) [.ro (hC)] :=
 Sp.of (fn := Tryz.f279) rfl rfl 3 [.id 0] (.t q1 (.ix (i := s) (m := 256) hs (.lt (i := s) (n := 256) hs (.t q2 (.t q3 (.t q4 .nil)))))) (by kernel_rfl) (by kernel_rfl)
theorem classify_sp_4 (s : Nat) (hs : s < 256) (q1 : (decide (((s : Nat) : Int) = 0)) = false) (q2 : (decide (atF s = -1)) = false) (q3 : (decide (atF s = 72)) = false) (q4 : (decide (atF s = 73)) = false) : Sp P 279 [.pt 0 0, vb s] [.ro (hC)] (.tu [vn 1, vi (atF s)]) [.ro (hC)] :=
 Sp.of (fn := Tryz.f279) rfl rfl 3 [.id 0] (.t q1 (.ix (i := s) (m := 256) hs (.lt (i := s) (n := 256) hs (.t q2 (.t q3 (.t q4 .nil)))))) (by kernel_rfl) (by kernel_rfl)
theorem classify_sp (s : Nat) (hs : s < 256) : Sp P 279 [.pt 0 0, vb s] [.ro (hC)] (.tu [vi (vkind s), vi (vplace s)]) [.ro (hC)] := by
 cases q1 : decide (((s : Nat) : Int) = 0) with
 | true =>
  have e : (vkind s) = 0 := by simp_all [vkind, vplace]; try omega
  rw [e]; clear e
  have e : (vplace s) = (-1) := by simp_all [vkind, vplace]; try omega
  rw [e]; clear e
  exact classify_sp_0 s hs q1
 | false =>
  cases q2 : decide (atF s = -1) with
  | true =>
   have e : (vkind s) = 4 := by simp_all [vkind, vplace]; try omega
   rw [e]; clear e
   have e : (vplace s) = (-1) := by simp_all [vkind, vplace]; try omega
   rw [e]; clear e
   exact classify_sp_1 s hs q1 q2
  | false =>
   cases q3 : decide (atF s = 72) with
   | true =>
    have e : (vkind s) = 3 := by simp_all [vkind, vplace]; try omega
    rw [e]; clear e
    have e : (vplace s) = (-1) := by simp_all [vkind, vplace]; try omega
    rw [e]; clear e
    exact classify_sp_2 s hs q1 q2 q3
   | false =>
    cases q4 : decide (atF s = 73) with
    | true =>
     have e : (vkind s) = 2 := by simp_all [vkind, vplace]; try omega
     rw [e]; clear e
     have e : (vplace s) = (-1) := by simp_all [vkind, vplace]; try omega
     rw [e]; clear e
     exact classify_sp_3 s hs q1 q2 q3 q4
    | false =>
     have e : (vkind s) = 1 := by simp_all [vkind, vplace]; try omega
     rw [e]; clear e
     have e : (vplace s) = (atF s) := by simp_all [vkind, vplace]; try omega
     rw [e]; clear e
     exact classify_sp_4 s hs q1 q2 q3 q4
theorem hdecode_sp_0 (d : Nat) (c : Nat) (a : Nat) (hd : d < 18446744073709551616) (hc : c < 256) (ha : a < 2) (q1 : (decide (vkind (syn d a 0 c) = 1)) = true) (q2 : (decide (vplace (syn d a 0 c) < 64)) = true) : Sp P 253 [.pt 0 0, vu d, vb c, vn a] [.ro (hC)] (.tu [vu (d ^^^ 2 ^ (vplace (syn d a 0 c)).toNat), vi (vkind (syn d a 0 c)), vi (vplace (syn d a 0 c))]) [.ro (hC)] :=
 Sp.of (fn := Tryz.f253) rfl rfl 3 [.id 0] (.c [.id 0] (syndrome_sp d c a 0 (by first | assumption | omega) (by first | assumption | omega) (by decide) (by first | assumption | omega)) (.c [.id 0] (classify_sp (syn d a 0 c) (syn_lt hc)) (.t q1 (.t q1 (.t q1 (.t q2 (.e 29 (toU64 (vplace_ok (syn_lt hc) (of_decide_eq_true q1)).1 (of_decide_eq_true q2)) (.e 30 (shl64 (vplace (syn d a 0 c)).toNat (by have h2 := of_decide_eq_true q2; omega)) (.e 31 (bitsXor64 d (2 ^ (vplace (syn d a 0 c)).toNat) hd (Nat.pow_lt_pow_right (a := 2) (n := 64) (by decide) (by have h1 := vplace_ok (syn_lt hc) (of_decide_eq_true q1); have h2 := of_decide_eq_true q2; omega))) .nil))))))))) (by kernel_rfl) (by kernel_rfl)
theorem hdecode_sp_1 (d : Nat) (c : Nat) (a : Nat) (hd : d < 18446744073709551616) (hc : c < 256) (ha : a < 2) (q1 : (decide (vkind (syn d a 0 c) = 1)) = true) (q2 : (decide (vplace (syn d a 0 c) < 64)) = false) : Sp P 253 [.pt 0 0, vu d, vb c, vn a] [.ro (hC)] (.tu [vu d, vi (vkind (syn d a 0 c)), vi (vplace (syn d a 0 c))]) [.ro (hC)] :=
 Sp.of (fn := Tryz.f253) rfl rfl 3 [.id 0] (.c [.id 0] (syndrome_sp d c a 0 (by first | assumption | omega) (by first | assumption | omega) (by decide) (by first | assumption | omega)) (.c [.id 0] (classify_sp (syn d a 0 c) (syn_lt hc)) (.t q1 (.t q1 (.t q1 (.t q2 .nil)))))) (by kernel_rfl) (by kernel_rfl)
theorem hdecode_sp_2 (d : Nat) (c : Nat) (a : Nat) (hd : d < 18446744073709551616) (hc : c < 256) (ha : a < 2) (q1 : (decide (vkind (syn d a 0 c) = 1)) = false) : Sp P 253 [.pt 0 0, vu d, vb c, vn a] [.ro (hC)] (.tu [vu d, vi (vkind (syn d a 0 c)), vi (vplace (syn d a 0 c))]) [.ro (hC)] :=
 Sp.of (fn := Tryz.f253) rfl rfl 3 [.id 0] (.c [.id 0] (syndrome_sp d c a 0 (by first | assumption | omega) (by first | assumption | omega) (by decide) (by first | assumption | omega)) (.c [.id 0] (classify_sp (syn d a 0 c) (syn_lt hc)) (.t q1 (.t q1 (.t q1 (.n .nil)))))) (by kernel_rfl) (by kernel_rfl)
theorem hdecode_sp (d : Nat) (c : Nat) (a : Nat) (hd : d < 18446744073709551616) (hc : c < 256) (ha : a < 2) : Sp P 253 [.pt 0 0, vu d, vb c, vn a] [.ro (hC)] (.tu [vu (hfix d c a), vi (vkind (syn d a 0 c)), vi (vplace (syn d a 0 c))]) [.ro (hC)] := by
 cases q1 : decide (vkind (syn d a 0 c) = 1) with
 | true =>
  cases q2 : decide (vplace (syn d a 0 c) < 64) with
  | true =>
   have e : (hfix d c a) = (d ^^^ 2 ^ (vplace (syn d a 0 c)).toNat) := by simp_all [hfix]; try omega
   rw [e]; clear e
   exact hdecode_sp_0 d c a hd hc ha q1 q2
  | false =>
   have e : (hfix d c a) = d := by simp_all [hfix]; try omega
   rw [e]; clear e
   exact hdecode_sp_1 d c a hd hc ha q1 q2
 | false =>
  have e : (hfix d c a) = d := by simp_all [hfix]; try omega
  rw [e]; clear e
  exact hdecode_sp_2 d c a hd hc ha q1
end Go.Proofs.YtghfannbcopjmaaGreat
