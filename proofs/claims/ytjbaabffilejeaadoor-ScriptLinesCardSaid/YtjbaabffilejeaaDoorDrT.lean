/- Numbers and data in digits. -/
import Derived.Test.YtjbaabffilejeaaDoorDrS
import Derived.Test.YtjbaabffilejeaaDoorPxV
import Derived.Test.YtjbaabffilejeaaDoorPxZ
namespace Go.Proofs.YtjbaabffilejeaaDoor
open Go Go.RowKit
set_option linter.unusedVariables false
set_option linter.unusedSimpArgs false
open Go.Lib (decDigits itoa)
theorem small_of {u : Nat} (h : u < 100) {w : World} : Calls Tryd.prog 79 #[.int .i64 ((u : Nat) : Int)] w fun e w' => e = .returned (S (decDigits u)) ∧ Below w.heap.size w w' :=
  (Tryd.internal_strconv_small u h w).mono fun e w' ⟨h1, h2⟩ => ⟨h1, h2 ▸ Below.refl _ _⟩
theorem nDig_of {u : Nat} (h1 : 1 ≤ u) (h2 : u < 18446744073709551616) {w : World} (E : EnvS w) : Calls Tryd.prog 80 #[.int .u64 ((u : Nat) : Int)] w fun e w' => e = .returned (.int .i64 (((decDigits u).length : Nat) : Int)) ∧ Below w.heap.size w w' := by
  rw [Lib.decDigits_length]
  exact (Tryd.internal_strconv_numDigits u h1 h2 w E.tab).mono fun e w' ⟨h1, h2⟩ => ⟨h1, h2 ▸ Below.refl _ _⟩
theorem i_useX {f : FuncId} {args : Array Value} {M : List Nat} {w0 w : World} {g : Nat} {v : Value} {c0 : Array Value} {ty : TypeId} {R : List Res} {p : Array Value → Prop} (H : Hs M w0 w (.blk g c0 ty :: R))
    (h : Calls Tryd.prog f args w fun e w' => ∃ cs, e = .returned v ∧ p cs ∧ Hs [g] w w' [.blk g cs ty]) : Calls Tryd.prog f args w fun e w' => ∃ cs, e = .returned v ∧ p cs ∧ Hs M w0 w' (.blk g cs ty :: R) :=
  h.mono fun e w' ⟨cs, h1, h2, h3⟩ => ⟨cs, h1, h2, Hs.call (A := [.blk g c0 ty]) H h3 (fun g' hg => ⟨0, _, rfl, by simpa [Res.fp] using hg⟩)⟩
set_option maxRecDepth 100000 in
set_option maxHeartbeats 4000000 in
theorem iFormatUint_of {u : Nat} (hu : u < 18446744073709551616) (w0 : World) (hE : EnvS w0) :
    Calls Tryd.prog 59 #[.int .u64 ((u : Nat) : Int), .int .i64 10] w0 fun e w' => e = .returned (S (decDigits u)) ∧ Below w0.heap.size w0 w' := by
  refine z_enter Tryd.func59 rfl ?_
  have H := Hs.nil w0
  have hM := nilM
  have hd21 := decLen64 hu
  have hdl : (decDigits u).length ≤ 24 := by omega
  refine x_seq <| x_region <| x_b H [.m] <| x_nil <| x_then <| x_seq <| x_seq ?_
  refine x_region <| x_b H [.m, .m] <| x_nil <| x_then <| x_t (by kernel_rfl) <| x_seq <| x_seq ?_
  refine x_region <| x_b H [.m, .v (.bool (decide ((u : Int) < 100)))] <| x_nil <| x_then ?_
  cases h1 : decide ((u : Int) < 100)
  · skip
    have h1p := of_decide_eq_false h1
    refine x_f (by kernel_rfl) <| x_skipc <| x_then <| x_seq <| x_region <| z_box H #[.int .u8 0, .int .u8 0, .int .u8 0, .int .u8 0, .int .u8 0, .int .u8 0, .int .u8 0, .int .u8 0, .int .u8 0, .int .u8 0, .int .u8 0, .int .u8 0, .int .u8 0, .int .u8 0, .int .u8 0, .int .u8 0, .int .u8 0, .int .u8 0, .int .u8 0, .int .u8 0, .int .u8 0, .int .u8 0, .int .u8 0, .int .u8 0] 127 (fun v1 g1 H => ?_)
    refine x_nil <| x_then <| x_seq <| x_region <| x_b H [.m] <| z_callB (v := .int .i64 (((decDigits u).length : Nat) : Int)) H (nDig_of (by omega) hu (hE.on hM H)) fun v2 H => x_b H [.m] ?_
    refine x_nil <| x_then <| x_seq <| x_region <| x_b H [.m] <| x_val (.slice (some ⟨g1, 0, none⟩) ((decDigits u).length) 24) (by kernel_rfl) rfl (Eq.trans (by kernel_rfl) (slcA (P := Tryd.prog) (t := 127) (e := 5) (g := g1) (h := (decDigits u).length) (n := 24) (by kernel_rfl) (by kernel_rfl) hdl)) <| x_b H [.m] ?_
    refine z_call (i_useX H (fmt_of (by omega) hu (H.blk 0 rfl))) ?_
    rintro _ v3 ⟨cs, rfl, hcs, H'⟩
    refine ⟨_, rfl, ?_⟩
    clear H
    have H := H'
    clear H'
    refine x_nil <| x_then <| x_seq <| x_region <| x_b H [.m] <| x_val (.slice (some ⟨g1, 0, none⟩) ((decDigits u).length) 24) (by kernel_rfl) rfl (Eq.trans (by kernel_rfl) (slcA (P := Tryd.prog) (t := 127) (e := 5) (g := g1) (h := (decDigits u).length) (n := 24) (by kernel_rfl) (by kernel_rfl) hdl)) <| x_val (S (decDigits u)) (by kernel_rfl) rfl (Eq.trans (by kernel_rfl) (strPre (P := Tryd.prog) H 0 (src := 91) (dst := 9) (e := 5) (decDigits u) 24 rfl hcs (by kernel_rfl) (by kernel_rfl) (by kernel_rfl))) ?_
    refine x_b H [.m] <| x_nil <| x_then <| x_retc <| x_then_ret <| x_ret (S (decDigits u)) (by kernel_rfl) (by kernel_rfl) ?_
    exact ⟨rfl, H.below⟩
  have h1p := of_decide_eq_true h1
  refine x_t (by kernel_rfl) <| x_seq <| x_region <| x_b H [.m] <| x_eq (.int .i64 (u : Int)) (e_i64 (by omega) (by omega)) (by kernel_rfl) rfl (by kernel_rfl) <| z_callB (v := S (decDigits u)) H (small_of (by omega)) fun v4 H => x_b H [.m] ?_
  refine x_nil <| x_then <| x_retc <| x_then_ret <| x_then_ret <| x_ret (S (decDigits u)) (by kernel_rfl) (by kernel_rfl) ?_
  exact ⟨rfl, H.below⟩
set_option maxRecDepth 100000 in
set_option maxHeartbeats 4000000 in
theorem FormatUint_of {u : Nat} (hu : u < 18446744073709551616) (w0 : World) (hE : EnvS w0) :
    Calls Tryd.prog 39 #[.int .u64 ((u : Nat) : Int), .int .i64 10] w0 fun e w' => e = .returned (S (decDigits u)) ∧ Below w0.heap.size w0 w' := by
  refine z_enter Tryd.func39 rfl ?_
  have H := Hs.nil w0
  have hM := nilM
  refine x_seq <| x_region <| x_b H [.m] <| x_nil <| x_then <| x_seq <| x_region ?_
  refine x_b H [.m, .m] <| z_callB H (iFormatUint_of hu _ (hE.on hM H)) fun v1 H => x_b H [.m] <| x_nil <| x_then <| x_retc <| x_ret (S (decDigits u)) (by kernel_rfl) (by kernel_rfl) ?_
  exact ⟨rfl, H.below⟩
set_option maxRecDepth 100000 in
set_option maxHeartbeats 4000000 in
theorem Digits64_of {u : Nat} (hu : u < 18446744073709551616) (w0 : World) :
    Calls Tryd.prog 35 #[.int .u64 ((u : Nat) : Int)] w0 fun e w' => e = .returned (S (decDigits u)) ∧ Below w0.heap.size w0 w' := by
  refine z_enter Tryd.func35 rfl ?_
  have H := Hs.nil w0
  refine x_seq <| x_region <| x_b H [.m] <| x_nil <| x_then <| x_seq <| x_region ?_
  refine x_b H [.m] <| x_nil <| x_then <| x_block <| x_loop (G := Nat × List UInt8) (fun gh a w' => match gh with | (n, r) => ∃ uf1 : Nat → Value, a = frm 17 uf1 [(0, .int .u64 (n : Int)), (3, S r)] [] ∧ Hs [] w0 w' [] ∧ (n < 18446744073709551616) ∧ (decDigits u = decDigits n ++ r) ∧ (r.length ≤ 21)) (fun gh => match gh with | (n, r) => n) (u, []) ⟨_, frm_of, H, hu, (by simp), (by simp)⟩ ?_
  clear H
  rintro ⟨n, r⟩ _ v1 ⟨uf1, rfl, H, r1, r2, r3⟩
  refine x_block <| x_seq <| x_region <| x_b H [.m] <| x_eq (.int .u64 ((n % 10 : Nat) : Int)) (u_rem n 10) (by kernel_rfl) rfl (by kernel_rfl) <| x_eq (.int .u64 ((48 + n % 10 : Nat) : Int)) (show Value.int .u64 (IntKind.u64.wrap (48 + ((n % 10 : Nat) : Int))) = .int .u64 ((48 + n % 10 : Nat) : Int) by rw [u64ok (by omega) (by omega)]; congr 1) (by kernel_rfl) rfl (by kernel_rfl) <| x_eq (.int .u8 ((48 + n % 10 : Nat) : Int)) (e_u8 (by omega) (by omega)) (by kernel_rfl) rfl (by kernel_rfl) ?_
  refine x_box' H #[.int .u8 ((48 + n % 10 : Nat) : Int)] 5 1 (by kernel_rfl) rfl (by kernel_rfl) ?_
  clear H
  intro v2 g1 H
  refine x_val (S ([UInt8.ofNat (48 + n % 10)])) (by kernel_rfl) rfl (Eq.trans (by kernel_rfl) (strBytes (P := Tryd.prog) H 0 (src := 91) (dst := 9) (e := 5) ([UInt8.ofNat (48 + n % 10)]) 1 rfl (by simp only [List.map_cons, List.map_nil]; rw [byteOf (by omega)]) (by kernel_rfl) (by kernel_rfl) (by kernel_rfl))) <| x_b H [.m] <| x_val (S (([UInt8.ofNat (48 + n % 10)]) ++ r)) (by kernel_rfl) rfl (Eq.trans (by kernel_rfl) (strAdd (P := Tryd.prog) (t := 9) (a := [UInt8.ofNat (48 + n % 10)]) (b := r) (by simp only [List.length_cons, List.length_nil]; omega))) <| x_b H [.m] <| x_nil <| x_then <| x_seq ?_
  refine x_region <| x_b H [.m] <| x_eq (.int .u64 ((n / 10 : Nat) : Int)) (u_quo n 10 r1) (by kernel_rfl) rfl (by kernel_rfl) <| x_b H [.m] <| x_nil <| x_then <| x_seq ?_
  refine x_region <| x_b H [.m, .v (.bool (decide (((n / 10 : Nat) : Int) = 0)))] <| x_nil <| x_then ?_
  cases h1 : decide (((n / 10 : Nat) : Int) = 0)
  · skip
    have h1p := of_decide_eq_false h1
    refine x_f (by kernel_rfl) <| x_skipc <| x_blk <| x_then ?_
    replace H := H.pk []
    exact ⟨((n / 10), (([UInt8.ofNat (48 + n % 10)]) ++ r)), (by first | omega | (dsimp only; omega)), _, frm_of, H, (by omega), (dec_step r2 (by omega)), (by have q := congrArg List.length (dec_step r2 (by omega)); rw [List.length_append] at q; have q2 := decLen64 (n := u) (by omega); have q3 := decDigits_ne (n / 10); have q4 := List.length_pos_iff.2 q3; simp only [List.cons_append, List.nil_append] at q ⊢; omega)⟩
  have h1p := of_decide_eq_true h1
  refine x_t (by kernel_rfl) <| x_seq <| x_region <| x_b H [.m, .m] <| x_nil <| x_then <| x_retc ?_
  refine x_blk_ret <| x_then_ret <| x_blk_ret <| x_ret (S (([UInt8.ofNat (48 + n % 10)]) ++ r)) (by kernel_rfl) (by kernel_rfl) ?_
  exact ⟨by rw [dec_last r2 (by omega)]; rfl, H.below⟩
set_option maxRecDepth 100000 in
set_option maxHeartbeats 4000000 in
theorem Number_pos {n : Nat} (hn : n ≤ 9223372036854775807) (w0 : World) :
    Calls Tryd.prog 33 #[.int .i64 ((n : Nat) : Int)] w0 fun e w' => e = .returned (S (decDigits n)) ∧ Below w0.heap.size w0 w' := by
  refine z_enter Tryd.func33 rfl ?_
  have H := Hs.nil w0
  refine x_seq <| x_region <| x_b H [.m] <| x_nil <| x_then <| x_seq <| x_seq ?_
  refine x_region <| x_b H [.m, .v (.bool (decide ((n : Int) < 0)))] <| x_nil <| x_then ?_
  cases h1 : decide ((n : Int) < 0)
  · skip
    have h1p := of_decide_eq_false h1
    refine x_f (by kernel_rfl) <| x_skipc <| x_then <| x_seq <| x_region <| x_b H [.m] <| x_eq (.int .u64 (n : Int)) (e_u64 (by omega) (by omega)) (by kernel_rfl) rfl (by kernel_rfl) ?_
    refine z_callB (v := S (decDigits n)) H (Digits64_of (u := n) (by omega) _) fun v1 H => x_b H [.m] <| x_nil <| x_then <| x_retc <| x_ret (S (decDigits n)) (by kernel_rfl) (by kernel_rfl) ?_
    exact ⟨rfl, H.below⟩
  have h1p := of_decide_eq_true h1
  exact absurd h1p (by omega)
set_option maxRecDepth 100000 in
set_option maxHeartbeats 4000000 in
theorem Number_neg {n : Nat} (hn : n ≤ 9223372036854775807) (w0 : World) :
    Calls Tryd.prog 33 #[.int .i64 (-((n : Nat) : Int) - 1)] w0 fun e w' => e = .returned (S (45 :: decDigits (n + 1))) ∧ Below w0.heap.size w0 w' := by
  refine z_enter Tryd.func33 rfl ?_
  have H := Hs.nil w0
  have hd21 := decLen64 (n := n + 1) (by omega)
  refine x_seq <| x_region <| x_b H [.m] <| x_nil <| x_then <| x_seq <| x_seq ?_
  refine x_region <| x_b H [.m, .v (.bool (decide ((-(n : Int) - 1) < 0)))] <| x_nil <| x_then ?_
  cases h1 : decide ((-(n : Int) - 1) < 0)
  · skip
    have h1p := of_decide_eq_false h1
    exact absurd (by omega) h1p
  have h1p := of_decide_eq_true h1
  refine x_t (by kernel_rfl) <| x_seq <| x_region <| x_b H [.m] <| x_eq (.int .i64 (-(n : Int))) (show Value.int .i64 (IntKind.i64.wrap ((-(n : Int) - 1) + 1)) = .int .i64 (-(n : Int)) by rw [i64ok ⟨by omega, by omega⟩]; congr 1; omega) (by kernel_rfl) rfl (by kernel_rfl) <| x_eq (.int .i64 (n : Int)) (show Value.int .i64 (IntKind.i64.wrap (0 - (-(n : Int)))) = .int .i64 (n : Int) by rw [i64ok ⟨by omega, by omega⟩]; congr 1; omega) (by kernel_rfl) rfl (by kernel_rfl) <| x_eq (.int .u64 (n : Int)) (e_u64 (by omega) (by omega)) (by kernel_rfl) rfl (by kernel_rfl) ?_
  refine x_eq (.int .u64 ((n + 1 : Nat) : Int)) (show Value.int .u64 (IntKind.u64.wrap ((n : Int) + 1)) = .int .u64 ((n + 1 : Nat) : Int) by rw [u64ok (by omega) (by omega)]; rfl) (by kernel_rfl) rfl (by kernel_rfl) <| z_callB (v := S (decDigits (n + 1))) H (Digits64_of (u := n + 1) (by omega) _) fun v1 H => x_val (S (([45] : List UInt8) ++ (decDigits (n + 1)))) (by kernel_rfl) rfl (Eq.trans (by kernel_rfl) (strAdd (P := Tryd.prog) (t := 9) (a := ([45] : List UInt8)) (b := decDigits (n + 1)) (by simp only [List.length_cons, List.length_nil]; omega))) <| x_b H [.m] <| x_nil <| x_then <| x_retc ?_
  refine x_then_ret <| x_ret (S (([45] : List UInt8) ++ (decDigits (n + 1)))) (by kernel_rfl) (by kernel_rfl) ?_
  exact ⟨rfl, H.below⟩
theorem Number_of {n : Int} (hn : I64 n) (w : World) : Calls Tryd.prog 33 #[.int .i64 n] w fun e w' => e = .returned (S (itoa n)) ∧ Below w.heap.size w w' := by
  obtain ⟨h0, h1⟩ := hn
  by_cases h : n < 0
  · obtain ⟨k, rfl⟩ : ∃ k : Nat, n = -((k : Nat) : Int) - 1 := ⟨(-n - 1).toNat, by omega⟩
    have q := Number_neg (n := k) (by omega) w
    have e : itoa (-((k : Nat) : Int) - 1) = 45 :: decDigits (k + 1) := by unfold Lib.itoa; rw [if_pos h]; congr 2; omega
    rw [e]; exact q
  · obtain ⟨k, rfl⟩ := Int.eq_ofNat_of_zero_le (show 0 ≤ n by omega)
    rw [itoa_nat]; exact Number_pos (by omega) w
theorem hex_dig {n : Nat} (h : n < 16) : (([48, 49, 50, 51, 52, 53, 54, 55, 56, 57, 97, 98, 99, 100, 101, 102] : List UInt8)).getD n 0 = hexd n ∧ ((([48, 49, 50, 51, 52, 53, 54, 55, 56, 57, 97, 98, 99, 100, 101, 102] : List UInt8)).drop n).take (n + 1 - n) = [hexd n] := by
  have key : ∀ y : Fin 16, (([48, 49, 50, 51, 52, 53, 54, 55, 56, 57, 97, 98, 99, 100, 101, 102] : List UInt8)).getD y.1 0 = hexd y.1 ∧ ((([48, 49, 50, 51, 52, 53, 54, 55, 56, 57, 97, 98, 99, 100, 101, 102] : List UInt8)).drop y.1).take (y.1 + 1 - y.1) = [hexd y.1] := by decide +kernel
  exact key ⟨n, h⟩
theorem hexL_next (D : Nat → Nat) (n : Nat) : hexL D (n + 1) = hexL D n ++ [hexd (D n / 16), hexd (D n % 16)] := rfl
set_option maxRecDepth 100000 in
set_option maxHeartbeats 4000000 in
theorem Hex_ref {D : Nat → Nat} (hD : ∀ i, i < 64 → D i < 256) (w0 : World) :
    Calls Tryd.prog 34 #[.agg (arrL D 64 0).toArray] w0 fun e w' => e = .returned (S (hexL D 64)) ∧ Below w0.heap.size w0 w' := by
  refine z_enter Tryd.func34 rfl ?_
  have H := Hs.nil w0
  refine x_seq <| x_region <| z_box H (arrL D 64 0).toArray 33 (fun v1 g1 H => ?_)
  refine x_b H [.m] <| x_nil <| x_then <| x_seq <| x_region <| x_b H [.m] <| x_nil ?_
  refine x_then <| x_seq <| x_seq <| x_region <| x_b H [.m] <| x_nil <| x_then ?_
  refine x_block <| x_loop (G := Nat) (fun (c : Nat) a w' => ∃ uf1 : Nat → Value, a = frm 33 uf1 [(1, .pointer (some ⟨g1, 0, none⟩)), (3, S (hexL D c)), (4, .int .i64 (c : Int))] [] ∧ Hs [] w0 w' [.blk g1 (arrL D 64 0).toArray 33] ∧ (c ≤ 64)) (fun (c : Nat) => 64 - c) 0 ⟨_, frm_of, H, (Nat.zero_le _)⟩ ?_
  clear H
  rintro c _ v2 ⟨uf1, rfl, H, r1⟩
  have hDc := hD c
  have hlc := hexL_len D c
  refine x_seq <| x_seq <| x_region <| x_b H [.m, .v (.bool (decide ((c : Int) < 64)))] <| x_nil <| x_then ?_
  cases h1 : decide ((c : Int) < 64)
  · skip
    have h1p := of_decide_eq_false h1
    refine x_f (by kernel_rfl) <| x_exit <| x_then_exit <| x_then_exit <| x_blk_exit <| x_then <| x_seq ?_
    refine x_region <| x_b H [.m, .m] <| x_nil <| x_then <| x_retc <| x_ret (S (hexL D c)) (by kernel_rfl) (by kernel_rfl) ?_
    obtain rfl : c = 64 := by omega
    exact ⟨rfl, H.below⟩
  have h1p := of_decide_eq_true h1
  refine x_t (by kernel_rfl) <| x_skipc <| x_then <| x_seq <| x_block <| x_seq <| x_region ?_
  refine x_b H [.m] <| x_val (.pointer (some ⟨g1, c, none⟩)) (by kernel_rfl) rfl (Eq.trans (by kernel_rfl) (adrA (P := Tryd.prog) (t := 33) (e := 5) (g := g1) (k := c) (n := 64) (by kernel_rfl) (by kernel_rfl) (by omega))) <| x_loadc g1 c (.int .u8 ((D c : Nat) : Int)) (H.byte 0 rfl (by omega)) (by kernel_rfl) rfl (by kernel_rfl) <| x_eq (.int .i64 ((D c : Nat) : Int)) (e_i64 (by omega) (by omega)) (by kernel_rfl) rfl (by kernel_rfl) <| x_eq (.int .i64 ((D c / 16 : Nat) : Int)) (e_quo ((D c : Nat) : Int) 16 (by omega) (by omega) (by omega)) (by kernel_rfl) rfl (by kernel_rfl) <| x_b H [.m] <| x_nil ?_
  refine x_then <| x_seq <| x_region <| x_b H [.m] <| x_val (.pointer (some ⟨g1, c, none⟩)) (by kernel_rfl) rfl (Eq.trans (by kernel_rfl) (adrA (P := Tryd.prog) (t := 33) (e := 5) (g := g1) (k := c) (n := 64) (by kernel_rfl) (by kernel_rfl) (by omega))) <| x_loadc g1 c (.int .u8 ((D c : Nat) : Int)) (H.byte 0 rfl (by omega)) (by kernel_rfl) rfl (by kernel_rfl) <| x_eq (.int .i64 ((D c : Nat) : Int)) (e_i64 (by omega) (by omega)) (by kernel_rfl) rfl (by kernel_rfl) ?_
  refine x_eq (.int .i64 ((D c % 16 : Nat) : Int)) (e_rem ((D c : Nat) : Int) 16 (by omega)) (by kernel_rfl) rfl (by kernel_rfl) <| x_b H [.m] <| x_nil <| x_then <| z_region_whole H <| q_b [.m, .m, .m] <| q_eq (.int .i64 ((D c / 16 + 1 : Nat) : Int)) (show Value.int .i64 (IntKind.i64.wrap (((D c / 16 : Nat) : Int) + 1)) = .int .i64 ((D c / 16 + 1 : Nat) : Int) by rw [i64ok ⟨by omega, by omega⟩]; rfl) (by kernel_rfl) (fun _ => by kernel_rfl) ?_
  refine q_val (S ([hexd (D c / 16)])) (by kernel_rfl) (fun _ => ((Eq.trans (by kernel_rfl) (strFT (P := Tryd.prog) (t := 9) (l := ([48, 49, 50, 51, 52, 53, 54, 55, 56, 57, 97, 98, 99, 100, 101, 102] : List UInt8)) (k := D c / 16) (h := D c / 16 + 1) (by kernel_rfl) (by omega) (by simp; omega))).trans (by rw [(hex_dig (n := D c / 16) (by omega)).2]))) <| q_b [.m, .m] <| q_eq (.int .i64 ((D c % 16 + 1 : Nat) : Int)) (show Value.int .i64 (IntKind.i64.wrap (((D c % 16 : Nat) : Int) + 1)) = .int .i64 ((D c % 16 + 1 : Nat) : Int) by rw [i64ok ⟨by omega, by omega⟩]; rfl) (by kernel_rfl) (fun _ => by kernel_rfl) <| q_val (S ([hexd (D c % 16)])) (by kernel_rfl) (fun _ => ((Eq.trans (by kernel_rfl) (strFT (P := Tryd.prog) (t := 9) (l := ([48, 49, 50, 51, 52, 53, 54, 55, 56, 57, 97, 98, 99, 100, 101, 102] : List UInt8)) (k := D c % 16) (h := D c % 16 + 1) (by kernel_rfl) (by omega) (by simp; omega))).trans (by rw [(hex_dig (n := D c % 16) (by omega)).2]))) ?_
  refine q_val (S (([hexd (D c / 16)]) ++ ([hexd (D c % 16)]))) (by kernel_rfl) (fun _ => (Eq.trans (by kernel_rfl) (strAdd (P := Tryd.prog) (t := 9) (a := [hexd (D c / 16)]) (b := [hexd (D c % 16)]) (by simp only [List.length_cons, List.length_nil]; omega)))) <| q_val (S ((hexL D c) ++ (([hexd (D c / 16)]) ++ ([hexd (D c % 16)])))) (by kernel_rfl) (fun _ => (Eq.trans (by kernel_rfl) (strAdd (P := Tryd.prog) (t := 9) (a := hexL D c) (b := ([hexd (D c / 16)]) ++ ([hexd (D c % 16)])) (by simp only [List.length_append, List.length_cons, List.length_nil]; omega)))) <| q_b [.m] <| q_nil ?_
  clear H
  intro v3 H
  refine x_blk <| x_then <| x_region <| x_b H [.m] <| x_eq (.int .i64 ((c + 1 : Nat) : Int)) (show Value.int .i64 (IntKind.i64.wrap ((c : Int) + 1)) = .int .i64 ((c + 1 : Nat) : Int) by rw [i64ok ⟨by omega, by omega⟩]; rfl) (by kernel_rfl) rfl (by kernel_rfl) <| x_b H [.m] <| x_nil ?_
  refine x_then ?_
  exact ⟨(c + 1), (by first | omega | (dsimp only; omega)), _, frm_of, H, (by omega)⟩
set_option maxRecDepth 100000 in
set_option maxHeartbeats 4000000 in
theorem Hex_of {D : Nat → Nat} (hD : ∀ i, i < 64 → D i < 256) (w0 : World) :
    Calls Tryd.prog 38 #[.agg (arrL D 64 0).toArray] w0 fun e w' => e = .returned (S (hexL D 64)) ∧ Below w0.heap.size w0 w' := by
  refine z_enter Tryd.func38 rfl ?_
  have H := Hs.nil w0
  refine x_seq <| x_region <| z_box H (arrL D 64 0).toArray 34 (fun v1 g1 H => ?_)
  refine x_b H [.m] <| x_nil <| x_then <| x_seq <| x_region <| x_b H [.m] <| x_nil ?_
  refine x_then <| x_seq <| x_seq <| x_region <| x_b H [.n 0 0 64 34, .m] <| x_nil <| x_then ?_
  refine x_block ?_
  replace H := H.nilRow 5 1
  replace H : Hs [] w0 _ [.blk g1 (arrL D 64 0).toArray 34, .row (.slice none 0 0) 5 1 0 (List.map (fun b : UInt8 => Value.int .u8 ((b.toNat : Nat) : Int)) (hexL D 0))] := H.pick [1, 0] _ (by decide) (by kernel_rfl)
  refine x_loop (G := Nat × Value) (fun gh a w' => match gh with | (c, sv) => ∃ uf1 : Nat → Value, a = frm 22 uf1 [(3, sv), (6, .agg (arrL D 64 0).toArray), (7, .int .i64 (c : Int))] [] ∧ Hs [] w0 w' [.blk g1 (arrL D 64 0).toArray 34, .row (sv) 5 1 (2 * c) (List.map (fun b : UInt8 => Value.int .u8 ((b.toNat : Nat) : Int)) (hexL D c))] ∧ (c ≤ 64)) (fun gh => match gh with | (c, sv) => 64 - c) (0, .slice none 0 0) ⟨_, frm_of, H, (Nat.zero_le _)⟩ ?_
  clear H
  rintro ⟨c, sv⟩ _ v2 ⟨uf1, rfl, H, r1⟩
  have hDc := hD c
  have hlc := hexL_len D c
  refine x_seq <| x_region <| x_b H [.v (.bool (decide ((c : Int) < 64)))] <| x_nil <| x_then <| x_seq ?_
  cases h1 : decide ((c : Int) < 64)
  · skip
    have h1p := of_decide_eq_false h1
    refine x_f (by kernel_rfl) <| x_exit <| x_then_exit <| x_then_exit <| x_blk_exit <| x_then <| x_seq ?_
    refine x_region <| x_b H [.m] ?_
    obtain rfl : c = 64 := by omega
    rcases H.rowForm 1 rfl with ⟨rfl, hf0⟩ | ⟨gf1, cf1, rfl, hcf1, -⟩
    · exfalso; omega
    refine x_val (S (hexL D 64)) (by kernel_rfl) rfl (Eq.trans (by kernel_rfl) (strRow (P := Tryd.prog) H 1 (src := 91) (dst := 9) (e := 5) (g := gf1) (cap := cf1) (ty := 5) (hexL D 64) (by rw [hexL_len]; rfl) (by kernel_rfl) (by kernel_rfl) (by kernel_rfl))) <| x_b H [.m] <| x_nil <| x_then <| x_retc <| x_ret (S (hexL D 64)) (by kernel_rfl) (by kernel_rfl) ?_
    exact ⟨rfl, H.below⟩
  have h1p := of_decide_eq_true h1
  refine x_t (by kernel_rfl) <| x_skipc <| x_then <| x_seq <| x_block <| x_seq <| x_region ?_
  refine x_val (.int .u8 ((D c : Nat) : Int)) (by kernel_rfl) rfl (Eq.trans (by kernel_rfl) (ixB (P := Tryd.prog) (t := 34) (e := 5) (D := D) (n := 64) (k := c) (by kernel_rfl) (by kernel_rfl) (by kernel_rfl) (by omega))) <| x_b H [.m] <| x_nil <| x_then <| z_region_s H 10 [0] <| s_b [(0, .m), (1, .m)] 8 <| s_y 2 (y_eq (.int .u8 ((D c / 16 : Nat) : Int)) (b_shr (D c)) (by kernel_rfl) (fun _ => by kernel_rfl)) ?_
  refine s_y 3 (y_val (.int .u8 (((hexd (D c / 16)).toNat : Nat) : Int)) (by kernel_rfl) (fun _ => ((Eq.trans (by kernel_rfl) (strIxB (P := Tryd.prog) (t := 9) (l := ([48, 49, 50, 51, 52, 53, 54, 55, 56, 57, 97, 98, 99, 100, 101, 102] : List UInt8)) (k := D c / 16) (by kernel_rfl) (by simp; omega))).trans (by rw [(hex_dig (n := D c / 16) (by omega)).1])))) <| s_b [(4, .m)] 5 <| s_y 5 (y_eq (.int .u8 ((D c % 16 : Nat) : Int)) (b_and (D c) (by omega)) (by kernel_rfl) (fun _ => by kernel_rfl)) <| s_y 6 (y_val (.int .u8 (((hexd (D c % 16)).toNat : Nat) : Int)) (by kernel_rfl) (fun _ => ((Eq.trans (by kernel_rfl) (strIxB (P := Tryd.prog) (t := 9) (l := ([48, 49, 50, 51, 52, 53, 54, 55, 56, 57, 97, 98, 99, 100, 101, 102] : List UInt8)) (k := D c % 16) (by kernel_rfl) (by simp; omega))).trans (by rw [(hex_dig (n := D c % 16) (by omega)).1])))) <| s_one 7 rfl (by kernel_rfl) rfl ?_
  clear H
  intro v3 H
  refine x_box' H #[.int .u8 (((hexd (D c / 16)).toNat : Nat) : Int), .int .u8 (((hexd (D c % 16)).toNat : Nat) : Int)] 5 2 (by kernel_rfl) rfl (by kernel_rfl) ?_
  clear H
  intro v4 g2 H
  refine x_nil <| x_then <| z_next H [1] [0] rfl <| s_one 8 rfl (by kernel_rfl) rfl ?_
  clear H
  intro v5 H
  refine x_append H 2 (sv) 91 5 1 1 (2 * c) (.int .u8 0) (List.map (fun b : UInt8 => Value.int .u8 ((b.toNat : Nat) : Int)) (hexL D c)) ⟨g2, 0, none⟩ 2 2 [.int .u8 (((hexd (D c / 16)).toNat : Nat) : Int), .int .u8 (((hexd (D c % 16)).toNat : Nat) : Int)] rfl (by kernel_rfl) (by kernel_rfl) rfl (by decide) (by decide) rfl (fun j u hj => by rw [add_none]; exact cellOf (H.blk 0 rfl) (by simpa using hj)) (List.all_eq_true.1 (by kernel_rfl)) (by unfold maxLen; omega) (by omega) (by kernel_rfl) rfl (by kernel_rfl) ?_
  clear H
  intro v6 g3 c3 hc3 H
  rw [show (((2 * c) + 2) : Nat) = (2 * (c + 1)) from (by omega)] at H ⊢
  rw [show (List.map (fun b : UInt8 => Value.int .u8 ((b.toNat : Nat) : Int)) (hexL D c)) ++ [.int .u8 (((hexd (D c / 16)).toNat : Nat) : Int), .int .u8 (((hexd (D c % 16)).toNat : Nat) : Int)] = (List.map (fun b : UInt8 => Value.int .u8 ((b.toNat : Nat) : Int)) (hexL D (c + 1))) from (by rw [hexL_next, List.map_append]; rfl)] at H
  replace H := H.pk [1, 2]
  refine x_nil <| x_then <| z_next H [0] [0] rfl <| s_b [(9, .m)] 0 <| s_done (by kernel_rfl) ?_
  clear H
  intro v7 H
  refine x_blk <| x_then <| x_region <| x_eq (.int .i64 ((c + 1 : Nat) : Int)) (show Value.int .i64 (IntKind.i64.wrap ((c : Int) + 1)) = .int .i64 ((c + 1 : Nat) : Int) by rw [i64ok ⟨by omega, by omega⟩]; rfl) (by kernel_rfl) rfl (by kernel_rfl) <| x_b H [.m] <| x_nil <| x_then ?_
  replace H := H.pk [0, 1]
  exact ⟨((c + 1), .slice (some ⟨g3, 0, none⟩) (2 * (c + 1)) c3), (by dsimp only; omega), _, frm_of, H, (by omega)⟩
theorem i32ok {x : Int} (h0 : -2147483648 ≤ x) (h1 : x ≤ 2147483647) : IntKind.i32.wrap x = x := by
  unfold IntKind.wrap
  simp only [IntKind.bits, IntKind.signed, Bool.true_and]
  split <;> simp_all <;> omega
set_option maxRecDepth 100000 in
set_option maxHeartbeats 4000000 in
theorem digit_yes {c : Nat} (hc : c ≤ 2147483647) (h : hv c < 16) (w0 : World) :
    Calls Tryd.prog 61 #[.int .i32 ((c : Nat) : Int)] w0 fun e w' => e = .returned (.tuple #[.int .u8 ((hv c : Nat) : Int), .bool true]) ∧ Below w0.heap.size w0 w' := by
  refine z_enter Tryd.func61 rfl ?_
  have H := Hs.nil w0
  refine x_seq <| x_region <| x_b H [.m, .m] <| x_nil <| x_then <| x_seq <| x_block ?_
  refine x_seq <| x_region <| x_b H [.m, .v (.bool (decide (48 ≤ (c : Int)))), .v (.bool (decide (48 ≤ (c : Int))))] ?_
  cases h1 : decide (48 ≤ (c : Int))
  · skip
    have h1p := of_decide_eq_false h1
    refine x_b H [.k, .k, .m, .m] <| x_nil <| x_then <| x_f (by kernel_rfl) <| x_seq <| x_region <| x_b H [.m, .v (.bool (decide (97 ≤ (c : Int)))), .v (.bool (decide (97 ≤ (c : Int))))] ?_
    cases h2 : decide (97 ≤ (c : Int))
    · skip
      have h2p := of_decide_eq_false h2
      refine x_b H [.k, .k, .m, .m] <| x_nil <| x_then <| x_f (by kernel_rfl) <| x_skipc <| x_blk <| x_then ?_
      refine x_seq <| x_region <| x_b H [.m, .m] <| x_nil <| x_then <| x_retc <| x_ret (.tuple #[.int .u8 0, .bool false]) (by kernel_rfl) (by kernel_rfl) ?_
      exfalso; unfold hv at h; split at h <;> (try split at h) <;> omega
    have h2p := of_decide_eq_true h2
    refine x_b H [.m, .v (.bool (decide ((c : Int) ≤ 102))), .v (.bool (decide ((c : Int) ≤ 102))), .v (.bool (decide ((c : Int) ≤ 102)))] <| x_nil <| x_then ?_
    cases h3 : decide ((c : Int) ≤ 102)
    · skip
      have h3p := of_decide_eq_false h3
      refine x_f (by kernel_rfl) <| x_skipc <| x_blk <| x_then <| x_seq <| x_region <| x_b H [.m, .m] ?_
      refine x_nil <| x_then <| x_retc <| x_ret (.tuple #[.int .u8 0, .bool false]) (by kernel_rfl) (by kernel_rfl) ?_
      exfalso; unfold hv at h; split at h <;> (try split at h) <;> omega
    have h3p := of_decide_eq_true h3
    refine x_t (by kernel_rfl) <| x_seq <| x_region <| x_b H [.m] <| x_eq (.int .i32 ((c - 97 : Nat) : Int)) (show Value.int .i32 (IntKind.i32.wrap ((c : Int) - 97)) = .int .i32 ((c - 97 : Nat) : Int) by rw [i32ok (by omega) (by omega)]; congr 1; omega) (by kernel_rfl) rfl (by kernel_rfl) <| x_eq (.int .u8 ((c - 97 : Nat) : Int)) (e_u8 (by omega) (by omega)) (by kernel_rfl) rfl (by kernel_rfl) <| x_eq (.int .u8 ((c - 97 + 10 : Nat) : Int)) (show Value.int .u8 (IntKind.u8.wrap (((c - 97 : Nat) : Int) + 10)) = .int .u8 ((c - 97 + 10 : Nat) : Int) by rw [u8ok (by omega) (by omega)]; rfl) (by kernel_rfl) rfl (by kernel_rfl) ?_
    refine x_b H [.m, .m] <| x_nil <| x_then <| x_retc <| x_blk_ret <| x_then_ret <| x_ret (.tuple #[.int .u8 ((c - 97 + 10 : Nat) : Int), .bool true]) (by kernel_rfl) (by kernel_rfl) ?_
    have e : hv c = c - 97 + 10 := by unfold hv; first | (rw [if_pos (by omega)]; done) | (rw [if_neg (by omega), if_pos (by omega)]; omega) | (rw [if_pos (by omega)]; omega)
    exact ⟨by rw [e], H.below⟩
  have h1p := of_decide_eq_true h1
  refine x_b H [.m, .v (.bool (decide ((c : Int) ≤ 57))), .v (.bool (decide ((c : Int) ≤ 57))), .v (.bool (decide ((c : Int) ≤ 57)))] <| x_nil <| x_then ?_
  cases h4 : decide ((c : Int) ≤ 57)
  · skip
    have h4p := of_decide_eq_false h4
    refine x_f (by kernel_rfl) <| x_seq <| x_region <| x_b H [.m, .v (.bool (decide (97 ≤ (c : Int)))), .v (.bool (decide (97 ≤ (c : Int))))] ?_
    cases h5 : decide (97 ≤ (c : Int))
    · skip
      have h5p := of_decide_eq_false h5
      refine x_b H [.k, .k, .m, .m] <| x_nil <| x_then <| x_f (by kernel_rfl) <| x_skipc <| x_blk <| x_then ?_
      refine x_seq <| x_region <| x_b H [.m, .m] <| x_nil <| x_then <| x_retc <| x_ret (.tuple #[.int .u8 0, .bool false]) (by kernel_rfl) (by kernel_rfl) ?_
      exfalso; unfold hv at h; split at h <;> (try split at h) <;> omega
    have h5p := of_decide_eq_true h5
    refine x_b H [.m, .v (.bool (decide ((c : Int) ≤ 102))), .v (.bool (decide ((c : Int) ≤ 102))), .v (.bool (decide ((c : Int) ≤ 102)))] <| x_nil <| x_then ?_
    cases h6 : decide ((c : Int) ≤ 102)
    · skip
      have h6p := of_decide_eq_false h6
      refine x_f (by kernel_rfl) <| x_skipc <| x_blk <| x_then <| x_seq <| x_region <| x_b H [.m, .m] ?_
      refine x_nil <| x_then <| x_retc <| x_ret (.tuple #[.int .u8 0, .bool false]) (by kernel_rfl) (by kernel_rfl) ?_
      exfalso; unfold hv at h; split at h <;> (try split at h) <;> omega
    have h6p := of_decide_eq_true h6
    refine x_t (by kernel_rfl) <| x_seq <| x_region <| x_b H [.m] <| x_eq (.int .i32 ((c - 97 : Nat) : Int)) (show Value.int .i32 (IntKind.i32.wrap ((c : Int) - 97)) = .int .i32 ((c - 97 : Nat) : Int) by rw [i32ok (by omega) (by omega)]; congr 1; omega) (by kernel_rfl) rfl (by kernel_rfl) <| x_eq (.int .u8 ((c - 97 : Nat) : Int)) (e_u8 (by omega) (by omega)) (by kernel_rfl) rfl (by kernel_rfl) <| x_eq (.int .u8 ((c - 97 + 10 : Nat) : Int)) (show Value.int .u8 (IntKind.u8.wrap (((c - 97 : Nat) : Int) + 10)) = .int .u8 ((c - 97 + 10 : Nat) : Int) by rw [u8ok (by omega) (by omega)]; rfl) (by kernel_rfl) rfl (by kernel_rfl) ?_
    refine x_b H [.m, .m] <| x_nil <| x_then <| x_retc <| x_blk_ret <| x_then_ret <| x_ret (.tuple #[.int .u8 ((c - 97 + 10 : Nat) : Int), .bool true]) (by kernel_rfl) (by kernel_rfl) ?_
    have e : hv c = c - 97 + 10 := by unfold hv; first | (rw [if_pos (by omega)]; done) | (rw [if_neg (by omega), if_pos (by omega)]; omega) | (rw [if_pos (by omega)]; omega)
    exact ⟨by rw [e], H.below⟩
  have h4p := of_decide_eq_true h4
  refine x_t (by kernel_rfl) <| x_seq <| x_region <| x_b H [.m] <| x_eq (.int .i32 ((c - 48 : Nat) : Int)) (show Value.int .i32 (IntKind.i32.wrap ((c : Int) - 48)) = .int .i32 ((c - 48 : Nat) : Int) by rw [i32ok (by omega) (by omega)]; congr 1; omega) (by kernel_rfl) rfl (by kernel_rfl) <| x_eq (.int .u8 ((c - 48 : Nat) : Int)) (e_u8 (by omega) (by omega)) (by kernel_rfl) rfl (by kernel_rfl) <| x_b H [.m, .m] ?_
  refine x_nil <| x_then <| x_retc <| x_blk_ret <| x_then_ret <| x_ret (.tuple #[.int .u8 ((c - 48 : Nat) : Int), .bool true]) (by kernel_rfl) (by kernel_rfl) ?_
  have e : hv c = c - 48 := by unfold hv; first | (rw [if_pos (by omega)]; done) | (rw [if_neg (by omega), if_pos (by omega)]; omega) | (rw [if_pos (by omega)]; omega)
  exact ⟨by rw [e], H.below⟩
set_option maxRecDepth 100000 in
set_option maxHeartbeats 4000000 in
theorem digit_no {c : Nat} (hc : c ≤ 2147483647) (h : ¬ hv c < 16) (w0 : World) :
    Calls Tryd.prog 61 #[.int .i32 ((c : Nat) : Int)] w0 fun e w' => e = .returned (.tuple #[.int .u8 0, .bool false]) ∧ Below w0.heap.size w0 w' := by
  refine z_enter Tryd.func61 rfl ?_
  have H := Hs.nil w0
  refine x_seq <| x_region <| x_b H [.m, .m] <| x_nil <| x_then <| x_seq <| x_block ?_
  refine x_seq <| x_region <| x_b H [.m, .v (.bool (decide (48 ≤ (c : Int)))), .v (.bool (decide (48 ≤ (c : Int))))] ?_
  cases h1 : decide (48 ≤ (c : Int))
  · skip
    have h1p := of_decide_eq_false h1
    refine x_b H [.k, .k, .m, .m] <| x_nil <| x_then <| x_f (by kernel_rfl) <| x_seq <| x_region <| x_b H [.m, .v (.bool (decide (97 ≤ (c : Int)))), .v (.bool (decide (97 ≤ (c : Int))))] ?_
    cases h2 : decide (97 ≤ (c : Int))
    · skip
      have h2p := of_decide_eq_false h2
      refine x_b H [.k, .k, .m, .m] <| x_nil <| x_then <| x_f (by kernel_rfl) <| x_skipc <| x_blk <| x_then ?_
      refine x_seq <| x_region <| x_b H [.m, .m] <| x_nil <| x_then <| x_retc <| x_ret (.tuple #[.int .u8 0, .bool false]) (by kernel_rfl) (by kernel_rfl) ?_
      exact ⟨rfl, H.below⟩
    have h2p := of_decide_eq_true h2
    refine x_b H [.m, .v (.bool (decide ((c : Int) ≤ 102))), .v (.bool (decide ((c : Int) ≤ 102))), .v (.bool (decide ((c : Int) ≤ 102)))] <| x_nil <| x_then ?_
    cases h3 : decide ((c : Int) ≤ 102)
    · skip
      have h3p := of_decide_eq_false h3
      refine x_f (by kernel_rfl) <| x_skipc <| x_blk <| x_then <| x_seq <| x_region <| x_b H [.m, .m] ?_
      refine x_nil <| x_then <| x_retc <| x_ret (.tuple #[.int .u8 0, .bool false]) (by kernel_rfl) (by kernel_rfl) ?_
      exact ⟨rfl, H.below⟩
    have h3p := of_decide_eq_true h3
    refine x_t (by kernel_rfl) <| x_seq <| x_region <| x_b H [.m] <| x_eq (.int .i32 ((c - 97 : Nat) : Int)) (show Value.int .i32 (IntKind.i32.wrap ((c : Int) - 97)) = .int .i32 ((c - 97 : Nat) : Int) by rw [i32ok (by omega) (by omega)]; congr 1; omega) (by kernel_rfl) rfl (by kernel_rfl) <| x_eq (.int .u8 ((c - 97 : Nat) : Int)) (e_u8 (by omega) (by omega)) (by kernel_rfl) rfl (by kernel_rfl) <| x_eq (.int .u8 ((c - 97 + 10 : Nat) : Int)) (show Value.int .u8 (IntKind.u8.wrap (((c - 97 : Nat) : Int) + 10)) = .int .u8 ((c - 97 + 10 : Nat) : Int) by rw [u8ok (by omega) (by omega)]; rfl) (by kernel_rfl) rfl (by kernel_rfl) ?_
    refine x_b H [.m, .m] <| x_nil <| x_then <| x_retc <| x_blk_ret <| x_then_ret <| x_ret (.tuple #[.int .u8 ((c - 97 + 10 : Nat) : Int), .bool true]) (by kernel_rfl) (by kernel_rfl) ?_
    exfalso; unfold hv at h; split at h <;> (try split at h) <;> omega
  have h1p := of_decide_eq_true h1
  refine x_b H [.m, .v (.bool (decide ((c : Int) ≤ 57))), .v (.bool (decide ((c : Int) ≤ 57))), .v (.bool (decide ((c : Int) ≤ 57)))] <| x_nil <| x_then ?_
  cases h4 : decide ((c : Int) ≤ 57)
  · skip
    have h4p := of_decide_eq_false h4
    refine x_f (by kernel_rfl) <| x_seq <| x_region <| x_b H [.m, .v (.bool (decide (97 ≤ (c : Int)))), .v (.bool (decide (97 ≤ (c : Int))))] ?_
    cases h5 : decide (97 ≤ (c : Int))
    · skip
      have h5p := of_decide_eq_false h5
      refine x_b H [.k, .k, .m, .m] <| x_nil <| x_then <| x_f (by kernel_rfl) <| x_skipc <| x_blk <| x_then ?_
      refine x_seq <| x_region <| x_b H [.m, .m] <| x_nil <| x_then <| x_retc <| x_ret (.tuple #[.int .u8 0, .bool false]) (by kernel_rfl) (by kernel_rfl) ?_
      exact ⟨rfl, H.below⟩
    have h5p := of_decide_eq_true h5
    refine x_b H [.m, .v (.bool (decide ((c : Int) ≤ 102))), .v (.bool (decide ((c : Int) ≤ 102))), .v (.bool (decide ((c : Int) ≤ 102)))] <| x_nil <| x_then ?_
    cases h6 : decide ((c : Int) ≤ 102)
    · skip
      have h6p := of_decide_eq_false h6
      refine x_f (by kernel_rfl) <| x_skipc <| x_blk <| x_then <| x_seq <| x_region <| x_b H [.m, .m] ?_
      refine x_nil <| x_then <| x_retc <| x_ret (.tuple #[.int .u8 0, .bool false]) (by kernel_rfl) (by kernel_rfl) ?_
      exact ⟨rfl, H.below⟩
    have h6p := of_decide_eq_true h6
    refine x_t (by kernel_rfl) <| x_seq <| x_region <| x_b H [.m] <| x_eq (.int .i32 ((c - 97 : Nat) : Int)) (show Value.int .i32 (IntKind.i32.wrap ((c : Int) - 97)) = .int .i32 ((c - 97 : Nat) : Int) by rw [i32ok (by omega) (by omega)]; congr 1; omega) (by kernel_rfl) rfl (by kernel_rfl) <| x_eq (.int .u8 ((c - 97 : Nat) : Int)) (e_u8 (by omega) (by omega)) (by kernel_rfl) rfl (by kernel_rfl) <| x_eq (.int .u8 ((c - 97 + 10 : Nat) : Int)) (show Value.int .u8 (IntKind.u8.wrap (((c - 97 : Nat) : Int) + 10)) = .int .u8 ((c - 97 + 10 : Nat) : Int) by rw [u8ok (by omega) (by omega)]; rfl) (by kernel_rfl) rfl (by kernel_rfl) ?_
    refine x_b H [.m, .m] <| x_nil <| x_then <| x_retc <| x_blk_ret <| x_then_ret <| x_ret (.tuple #[.int .u8 ((c - 97 + 10 : Nat) : Int), .bool true]) (by kernel_rfl) (by kernel_rfl) ?_
    exfalso; unfold hv at h; split at h <;> (try split at h) <;> omega
  have h4p := of_decide_eq_true h4
  refine x_t (by kernel_rfl) <| x_seq <| x_region <| x_b H [.m] <| x_eq (.int .i32 ((c - 48 : Nat) : Int)) (show Value.int .i32 (IntKind.i32.wrap ((c : Int) - 48)) = .int .i32 ((c - 48 : Nat) : Int) by rw [i32ok (by omega) (by omega)]; congr 1; omega) (by kernel_rfl) rfl (by kernel_rfl) <| x_eq (.int .u8 ((c - 48 : Nat) : Int)) (e_u8 (by omega) (by omega)) (by kernel_rfl) rfl (by kernel_rfl) <| x_b H [.m, .m] ?_
  refine x_nil <| x_then <| x_retc <| x_blk_ret <| x_then_ret <| x_ret (.tuple #[.int .u8 ((c - 48 : Nat) : Int), .bool true]) (by kernel_rfl) (by kernel_rfl) ?_
  exfalso; unfold hv at h; split at h <;> (try split at h) <;> omega
def lnD (l : List UInt8) (k : Nat) : Nat → Nat := fun i => if 2 * i + 1 < k then hv (l.getD (2 * i) 0).toNat * 16 + hv (l.getD (2 * i + 1) 0).toNat else if 2 * i < k then hv (l.getD (2 * i) 0).toNat else 0
theorem hv_hi {c : Nat} (h : 128 ≤ c) : ¬ hv c < 16 := by unfold hv; rw [if_neg (by omega), if_neg (by omega)]; omega
theorem lnD_even (l : List UInt8) {k : Nat} (h : k % 2 = 0) : lnD l k (k / 2) = 0 := by unfold lnD; rw [if_neg (by omega), if_neg (by omega)]
theorem lnD_odd (l : List UInt8) {k : Nat} (h : ¬ k % 2 = 0) : lnD l k (k / 2) = hv (l.getD (k - 1) 0).toNat := by
  unfold lnD; rw [if_neg (by omega), if_pos (by omega), show 2 * (k / 2) = k - 1 by omega]
theorem lnD_up_even (l : List UInt8) {k : Nat} (h : k % 2 = 0) : upF (lnD l k) (k / 2) (hv (l.getD k 0).toNat) = lnD l (k + 1) := by
  funext i; unfold upF lnD
  by_cases e : i = k / 2
  · rw [if_pos e, if_neg (by omega), if_pos (by omega), show 2 * i = k by omega]
  · rw [if_neg e]
    have a1 : (2 * i + 1 < k + 1) ↔ (2 * i + 1 < k) := by omega
    have a2 : (2 * i < k + 1) ↔ (2 * i < k) := by omega
    simp only [a1, a2]
theorem lnD_up_odd (l : List UInt8) {k : Nat} (h : ¬ k % 2 = 0) : upF (lnD l k) (k / 2) (hv (l.getD (k - 1) 0).toNat * 16 + hv (l.getD k 0).toNat) = lnD l (k + 1) := by
  funext i; unfold upF lnD
  by_cases e : i = k / 2
  · rw [if_pos e, if_pos (by omega), show 2 * i = k - 1 by omega, show k - 1 + 1 = k by omega]
  · rw [if_neg e]
    have a1 : (2 * i + 1 < k + 1) ↔ (2 * i + 1 < k) := by omega
    have a2 : (2 * i < k + 1) ↔ (2 * i < k) := by omega
    simp only [a1, a2]
theorem lnD_full {l : List UInt8} (h : hexOk l) : arrL (lnD l 128) 64 0 = arrL (lineV l) 64 0 := arrL_same 64 0 fun j _ hj => by
  unfold lnD lineV; rw [if_pos (by omega), if_pos h]
theorem lineV_no {l : List UInt8} (h : ¬ hexOk l) : lineV l = fun _ => 0 := by funext i; unfold lineV; rw [if_neg h]
theorem hv_lt {c : Nat} (h : hv c < 16) : c < 128 := by unfold hv at h; split at h <;> (try split at h) <;> omega
set_option maxRecDepth 100000 in
set_option maxHeartbeats 4000000 in
theorem Read_hex {l : List UInt8} (h : hexOk l) (w0 : World) :
    Calls Tryd.prog 44 #[S l] w0 fun e w' => e = .returned (.tuple #[.agg (arrL (lineV l) 64 0).toArray, .int .i64 0]) ∧ Below w0.heap.size w0 w' := by
  refine z_enter Tryd.func44 rfl ?_
  have H := Hs.nil w0
  refine x_seq <| x_region <| z_box H (arrL (fun _ => 0) 64 0).toArray 34 (fun v1 g1 H => ?_)
  refine x_b H [.m] <| x_nil <| x_then <| x_seq <| x_region <| z_box H (arrL (fun _ => 0) 64 0).toArray 34 (fun v2 g2 H => ?_)
  refine x_nil <| x_then <| x_seq <| x_seq <| x_region <| x_b H [.m, .m, .v (.bool (!(decide (((l.length : Nat) : Int) = 128))))] <| x_nil ?_
  refine x_then ?_
  cases h1 : decide (((l.length : Nat) : Int) = 128)
  · skip
    have h1p := of_decide_eq_false h1
    refine x_t (by kernel_rfl) <| x_seq <| x_region <| x_b H [.m] <| z_store H 1 0 ((arrL (fun _ => 0) 64 0).toArray).toList (fun v3 H => ?_)
    refine x_b H [.m] <| x_nil <| x_then <| x_retc <| x_then_ret <| x_ret (.tuple #[.agg (arrL (fun _ => 0) 64 0).toArray, .int .i64 10]) (by kernel_rfl) (x_results [.cell 2 34, .tmp 3] [.agg (arrL (fun _ => 0) 64 0).toArray, .int .i64 10] _ rfl (AllR.cell (by kernel_rfl) (ldR H 1 g1 0 (arrL (fun _ => 0) 64 0).toArray 34 (arrL (fun _ => 0) 64 0) (by kernel_rfl) (by kernel_rfl) (by kernel_rfl)) (AllR.tmp (by kernel_rfl) AllR.nil)) (by kernel_rfl)) ?_
    exfalso; first | exact hq (h.2 c hlt) | exact h ⟨hl8, fun i hi => r2 i (by omega)⟩ | (have h128 := h.1; omega) | omega
  have h1p := of_decide_eq_true h1
  have hl8 : l.length = 128 := by omega
  refine x_f (by kernel_rfl) <| x_skipc <| x_then <| x_seq <| x_seq <| x_region <| x_b H [.m] ?_
  refine x_rangeS H l (by kernel_rfl) rfl (t := 9) (by kernel_rfl) (by kernel_rfl) ?_
  clear H
  intro v4 g3 H
  refine x_nil <| x_then <| x_block ?_
  replace H := H.pk [0, 1, 2]
  replace H : Hs [] w0 _ [.obj g3 ((.stringIter ⟨l.toArray⟩ 0)), .blk g2 (arrL (lnD l 0) 64 0).toArray 34, .blk g1 (arrL (fun _ => 0) 64 0).toArray 34] := hsAs H (by kernel_rfl)
  refine x_loop (G := Nat) (fun (c : Nat) a w' => ∃ uf1 : Nat → Value, a = frm 38 uf1 [(2, .pointer (some ⟨g1, 0, none⟩)), (4, .pointer (some ⟨g2, 0, none⟩)), (14, .pointer (some ⟨g3, 0, none⟩))] [] ∧ Hs [] w0 w' [.obj g3 ((.stringIter ⟨l.toArray⟩ c)), .blk g2 (arrL (lnD l c) 64 0).toArray 34, .blk g1 (arrL (fun _ => 0) 64 0).toArray 34] ∧ (c ≤ 128) ∧ (∀ j, j < c → hv (l.getD j 0).toNat < 16)) (fun (c : Nat) => 128 - c) 0 ⟨_, frm_of, H, (Nat.zero_le _), (fun j h => absurd h (Nat.not_lt_zero _))⟩ ?_
  clear H
  rintro c _ v5 ⟨uf1, rfl, H, r1, r2⟩
  refine x_seq <| x_region ?_
  by_cases hlt : c < 128
  · skip
    by_cases hq : hv (l.getD c 0).toNat < 16
    · skip
      refine x_nextA H 0 g3 l c 0 rfl (by omega) (hv_lt hq) [.obj g3 ((.stringIter ⟨l.toArray⟩ (c + 1))), .blk g2 (arrL (lnD l c) 64 0).toArray 34, .blk g1 (arrL (fun _ => 0) 64 0).toArray 34] rfl (by kernel_rfl) rfl (by kernel_rfl) ?_
      clear H
      intro v6 H
      refine x_b H [.m] <| x_nil <| x_then <| x_seq <| x_t (by kernel_rfl) <| x_skipc <| x_then ?_
      refine x_block <| x_seq <| x_region <| x_b H [.m, .m, .m, .m] <| x_nil <| x_then <| x_seq ?_
      refine x_region <| x_b H [.m] <| z_callB H (digit_yes (c := (l.getD c 0).toNat) (by have := hv_lt hq; omega) hq _) fun v7 H => x_b H [.m, .m, .m, .m, .m] <| x_nil <| x_then <| x_seq ?_
      refine x_seq <| x_region <| x_b H [.m, .m] <| x_nil <| x_then <| x_f (by kernel_rfl) <| x_skipc ?_
      refine x_then <| x_region <| x_b H [.m] <| x_eq (.int .i64 ((c / 2 : Nat) : Int)) (e_quo (c : Int) 2 (by omega) (by omega) (by omega)) (by kernel_rfl) rfl (by kernel_rfl) <| x_b H [.m] <| x_eq (.int .i64 ((c / 2 : Nat) : Int)) (e_quo (c : Int) 2 (by omega) (by omega) (by omega)) (by kernel_rfl) rfl (by kernel_rfl) <| x_val (.pointer (some ⟨g2, (c / 2), none⟩)) (by kernel_rfl) rfl (Eq.trans (by kernel_rfl) (adrA (P := Tryd.prog) (t := 34) (e := 5) (g := g2) (k := c / 2) (n := 64) (by kernel_rfl) (by kernel_rfl) (by omega))) ?_
      by_cases hpar : c % 2 = 0
      · skip
        refine x_loadc g2 (c / 2) (.int .u8 ((0 : Nat) : Int)) (by have q := H.byte 1 (k := c / 2) rfl (by omega); rw [lnD_even l hpar] at q; exact q) (by kernel_rfl) rfl (by kernel_rfl) <| x_eq (.int .u8 ((0 * 16 : Nat) : Int)) (b_shl (0) (by omega)) (by kernel_rfl) rfl (by kernel_rfl) <| x_b H [.m] <| x_eq (.int .u8 ((0 * 16 + hv (l.getD c 0).toNat : Nat) : Int)) (b_or (0) _ (by omega) hq) (by kernel_rfl) rfl (by kernel_rfl) <| x_val (.pointer (some ⟨g2, (c / 2), none⟩)) (by kernel_rfl) rfl (Eq.trans (by kernel_rfl) (adrA (P := Tryd.prog) (t := 34) (e := 5) (g := g2) (k := c / 2) (n := 64) (by kernel_rfl) (by kernel_rfl) (by omega))) <| x_stB H 1 (c / 2) (0 * 16 + hv (l.getD c 0).toNat) [.obj g3 ((.stringIter ⟨l.toArray⟩ (c + 1))), .blk g2 (arrL (upF (lnD l c) (c / 2) (0 * 16 + hv (l.getD c 0).toNat)) 64 0).toArray 34, .blk g1 (arrL (fun _ => 0) 64 0).toArray 34] rfl (by omega) rfl (by kernel_rfl) rfl (t := 5) (by kernel_rfl) (by kernel_rfl) ?_
        clear H
        intro v8 H
        rw [show 0 * 16 + hv (l.getD c 0).toNat = hv (l.getD c 0).toNat by omega] at H
        rw [lnD_up_even l hpar] at H
        refine x_nil <| x_blk <| x_then ?_
        exact ⟨(c + 1), (by omega), _, frm_of, H, (by omega), (fun j hj => if e : j = c then e ▸ hq else r2 j (by omega))⟩
      · skip
        have hr1 := r2 (c - 1) (by omega)
        refine x_loadc g2 (c / 2) (.int .u8 ((hv (l.getD (c - 1) 0).toNat : Nat) : Int)) (by have q := H.byte 1 (k := c / 2) rfl (by omega); rw [lnD_odd l hpar] at q; exact q) (by kernel_rfl) rfl (by kernel_rfl) <| x_eq (.int .u8 ((hv (l.getD (c - 1) 0).toNat * 16 : Nat) : Int)) (b_shl (hv (l.getD (c - 1) 0).toNat) (by omega)) (by kernel_rfl) rfl (by kernel_rfl) <| x_b H [.m] <| x_eq (.int .u8 ((hv (l.getD (c - 1) 0).toNat * 16 + hv (l.getD c 0).toNat : Nat) : Int)) (b_or (hv (l.getD (c - 1) 0).toNat) _ (by omega) hq) (by kernel_rfl) rfl (by kernel_rfl) <| x_val (.pointer (some ⟨g2, (c / 2), none⟩)) (by kernel_rfl) rfl (Eq.trans (by kernel_rfl) (adrA (P := Tryd.prog) (t := 34) (e := 5) (g := g2) (k := c / 2) (n := 64) (by kernel_rfl) (by kernel_rfl) (by omega))) <| x_stB H 1 (c / 2) (hv (l.getD (c - 1) 0).toNat * 16 + hv (l.getD c 0).toNat) [.obj g3 ((.stringIter ⟨l.toArray⟩ (c + 1))), .blk g2 (arrL (upF (lnD l c) (c / 2) (hv (l.getD (c - 1) 0).toNat * 16 + hv (l.getD c 0).toNat)) 64 0).toArray 34, .blk g1 (arrL (fun _ => 0) 64 0).toArray 34] rfl (by omega) rfl (by kernel_rfl) rfl (t := 5) (by kernel_rfl) (by kernel_rfl) ?_
        clear H
        intro v9 H
        rw [lnD_up_odd l hpar] at H
        refine x_nil <| x_blk <| x_then ?_
        exact ⟨(c + 1), (by omega), _, frm_of, H, (by omega), (fun j hj => if e : j = c then e ▸ hq else r2 j (by omega))⟩
    · skip
      by_cases ha : (l.getD c 0).toNat < 128
      · skip
        refine x_nextA H 0 g3 l c 0 rfl (by omega) ha [.obj g3 ((.stringIter ⟨l.toArray⟩ (c + 1))), .blk g2 (arrL (lnD l c) 64 0).toArray 34, .blk g1 (arrL (fun _ => 0) 64 0).toArray 34] rfl (by kernel_rfl) rfl (by kernel_rfl) ?_
        clear H
        intro v6 H
        refine x_b H [.m] <| x_nil <| x_then <| x_seq <| x_t (by kernel_rfl) <| x_skipc <| x_then ?_
        refine x_block <| x_seq <| x_region <| x_b H [.m, .m, .m, .m] <| x_nil <| x_then <| x_seq ?_
        refine x_region <| x_b H [.m] <| z_callB (v := .tuple #[.int .u8 0, .bool false]) H (digit_no (c := (l.getD c 0).toNat) (by omega) hq _) fun v10 H => x_b H [.m, .m, .m, .m, .m] <| x_nil <| x_then <| x_seq ?_
        refine x_seq <| x_region <| x_b H [.m, .m] <| x_nil <| x_then <| x_t (by kernel_rfl) <| x_seq ?_
        refine x_region <| x_b H [.m] <| z_store H 2 0 ((arrL (fun _ => 0) 64 0).toArray).toList (fun v11 H => ?_)
        refine x_b H [.m] <| x_nil <| x_then <| x_retc <| x_then_ret <| x_blk_ret <| x_then_ret ?_
        refine x_blk_ret <| x_then_ret <| x_ret (.tuple #[.agg (arrL (fun _ => 0) 64 0).toArray, .int .i64 10]) (by kernel_rfl) (x_results [.cell 2 34, .tmp 3] [.agg (arrL (fun _ => 0) 64 0).toArray, .int .i64 10] _ rfl (AllR.cell (by kernel_rfl) (ldR H 2 g1 0 (arrL (fun _ => 0) 64 0).toArray 34 (arrL (fun _ => 0) 64 0) (by kernel_rfl) (by kernel_rfl) (by kernel_rfl)) (AllR.tmp (by kernel_rfl) AllR.nil)) (by kernel_rfl)) ?_
        exfalso; first | exact hq (h.2 c hlt) | exact h ⟨hl8, fun i hi => r2 i (by omega)⟩ | (have h128 := h.1; omega) | omega
      · skip
        refine x_nextH H 0 g3 l c 0 rfl (by omega) (by omega) (by kernel_rfl) rfl (by kernel_rfl) ?_
        clear H
        intro v6 cc qq hc1 hc2 H
        refine x_b H [.m] <| x_nil <| x_then <| x_seq <| x_t (by kernel_rfl) <| x_skipc <| x_then ?_
        refine x_block <| x_seq <| x_region <| x_b H [.m, .m, .m, .m] <| x_nil <| x_then <| x_seq ?_
        refine x_region <| x_b H [.m] <| z_callB H (digit_no (c := cc) hc2 (hv_hi hc1) _) fun v12 H => x_b H [.m, .m, .m, .m, .m] <| x_nil <| x_then <| x_seq ?_
        refine x_seq <| x_region <| x_b H [.m, .m] <| x_nil <| x_then <| x_t (by kernel_rfl) <| x_seq ?_
        refine x_region <| x_b H [.m] <| z_store H 2 0 ((arrL (fun _ => 0) 64 0).toArray).toList (fun v13 H => ?_)
        refine x_b H [.m] <| x_nil <| x_then <| x_retc <| x_then_ret <| x_blk_ret <| x_then_ret ?_
        refine x_blk_ret <| x_then_ret <| x_ret (.tuple #[.agg (arrL (fun _ => 0) 64 0).toArray, .int .i64 10]) (by kernel_rfl) (x_results [.cell 2 34, .tmp 3] [.agg (arrL (fun _ => 0) 64 0).toArray, .int .i64 10] _ rfl (AllR.cell (by kernel_rfl) (ldR H 2 g1 0 (arrL (fun _ => 0) 64 0).toArray 34 (arrL (fun _ => 0) 64 0) (by kernel_rfl) (by kernel_rfl) (by kernel_rfl)) (AllR.tmp (by kernel_rfl) AllR.nil)) (by kernel_rfl)) ?_
        exfalso; first | exact hq (h.2 c hlt) | exact h ⟨hl8, fun i hi => r2 i (by omega)⟩ | (have h128 := h.1; omega) | omega
  · skip
    refine x_nextE H 0 g3 l c 0 rfl (by omega) (by kernel_rfl) rfl (by kernel_rfl) <| x_b H [.m] <| x_nil <| x_then <| x_seq <| x_f (by kernel_rfl) <| x_exit ?_
    refine x_then_exit <| x_then_exit <| x_blk_exit <| x_then <| x_seq <| x_region <| x_b H [.n 1 0 64 34] ?_
    refine z_store H 2 0 ((arrL (lnD l c) 64 0).toArray).toList (fun v14 H => ?_)
    refine x_b H [.m] <| x_nil <| x_then <| x_retc <| x_ret (.tuple #[.agg (arrL (lnD l c) 64 0).toArray, .int .i64 0]) (by kernel_rfl) (x_results [.cell 2 34, .tmp 3] [.agg (arrL (lnD l c) 64 0).toArray, .int .i64 0] _ rfl (AllR.cell (by kernel_rfl) (ldR H 2 g1 0 (arrL (lnD l c) 64 0).toArray 34 (arrL (lnD l c) 64 0) (by kernel_rfl) (by kernel_rfl) (by kernel_rfl)) (AllR.tmp (by kernel_rfl) AllR.nil)) (by kernel_rfl)) ?_
    obtain rfl : c = 128 := by omega
    exact ⟨by rw [lnD_full h], H.below⟩
set_option maxRecDepth 100000 in
set_option maxHeartbeats 4000000 in
theorem Read_nohex {l : List UInt8} (h : ¬ hexOk l) (w0 : World) :
    Calls Tryd.prog 44 #[S l] w0 fun e w' => e = .returned (.tuple #[.agg (arrL (fun _ => 0) 64 0).toArray, .int .i64 10]) ∧ Below w0.heap.size w0 w' := by
  refine z_enter Tryd.func44 rfl ?_
  have H := Hs.nil w0
  refine x_seq <| x_region <| z_box H (arrL (fun _ => 0) 64 0).toArray 34 (fun v1 g1 H => ?_)
  refine x_b H [.m] <| x_nil <| x_then <| x_seq <| x_region <| z_box H (arrL (fun _ => 0) 64 0).toArray 34 (fun v2 g2 H => ?_)
  refine x_nil <| x_then <| x_seq <| x_seq <| x_region <| x_b H [.m, .m, .v (.bool (!(decide (((l.length : Nat) : Int) = 128))))] <| x_nil ?_
  refine x_then ?_
  cases h1 : decide (((l.length : Nat) : Int) = 128)
  · skip
    have h1p := of_decide_eq_false h1
    refine x_t (by kernel_rfl) <| x_seq <| x_region <| x_b H [.m] <| z_store H 1 0 ((arrL (fun _ => 0) 64 0).toArray).toList (fun v3 H => ?_)
    refine x_b H [.m] <| x_nil <| x_then <| x_retc <| x_then_ret <| x_ret (.tuple #[.agg (arrL (fun _ => 0) 64 0).toArray, .int .i64 10]) (by kernel_rfl) (x_results [.cell 2 34, .tmp 3] [.agg (arrL (fun _ => 0) 64 0).toArray, .int .i64 10] _ rfl (AllR.cell (by kernel_rfl) (ldR H 1 g1 0 (arrL (fun _ => 0) 64 0).toArray 34 (arrL (fun _ => 0) 64 0) (by kernel_rfl) (by kernel_rfl) (by kernel_rfl)) (AllR.tmp (by kernel_rfl) AllR.nil)) (by kernel_rfl)) ?_
    exact ⟨rfl, H.below⟩
  have h1p := of_decide_eq_true h1
  have hl8 : l.length = 128 := by omega
  refine x_f (by kernel_rfl) <| x_skipc <| x_then <| x_seq <| x_seq <| x_region <| x_b H [.m] ?_
  refine x_rangeS H l (by kernel_rfl) rfl (t := 9) (by kernel_rfl) (by kernel_rfl) ?_
  clear H
  intro v4 g3 H
  refine x_nil <| x_then <| x_block ?_
  replace H := H.pk [0, 1, 2]
  replace H : Hs [] w0 _ [.obj g3 ((.stringIter ⟨l.toArray⟩ 0)), .blk g2 (arrL (lnD l 0) 64 0).toArray 34, .blk g1 (arrL (fun _ => 0) 64 0).toArray 34] := hsAs H (by kernel_rfl)
  refine x_loop (G := Nat) (fun (c : Nat) a w' => ∃ uf1 : Nat → Value, a = frm 38 uf1 [(2, .pointer (some ⟨g1, 0, none⟩)), (4, .pointer (some ⟨g2, 0, none⟩)), (14, .pointer (some ⟨g3, 0, none⟩))] [] ∧ Hs [] w0 w' [.obj g3 ((.stringIter ⟨l.toArray⟩ c)), .blk g2 (arrL (lnD l c) 64 0).toArray 34, .blk g1 (arrL (fun _ => 0) 64 0).toArray 34] ∧ (c ≤ 128) ∧ (∀ j, j < c → hv (l.getD j 0).toNat < 16)) (fun (c : Nat) => 128 - c) 0 ⟨_, frm_of, H, (Nat.zero_le _), (fun j h => absurd h (Nat.not_lt_zero _))⟩ ?_
  clear H
  rintro c _ v5 ⟨uf1, rfl, H, r1, r2⟩
  refine x_seq <| x_region ?_
  by_cases hlt : c < 128
  · skip
    by_cases hq : hv (l.getD c 0).toNat < 16
    · skip
      refine x_nextA H 0 g3 l c 0 rfl (by omega) (hv_lt hq) [.obj g3 ((.stringIter ⟨l.toArray⟩ (c + 1))), .blk g2 (arrL (lnD l c) 64 0).toArray 34, .blk g1 (arrL (fun _ => 0) 64 0).toArray 34] rfl (by kernel_rfl) rfl (by kernel_rfl) ?_
      clear H
      intro v6 H
      refine x_b H [.m] <| x_nil <| x_then <| x_seq <| x_t (by kernel_rfl) <| x_skipc <| x_then ?_
      refine x_block <| x_seq <| x_region <| x_b H [.m, .m, .m, .m] <| x_nil <| x_then <| x_seq ?_
      refine x_region <| x_b H [.m] <| z_callB H (digit_yes (c := (l.getD c 0).toNat) (by have := hv_lt hq; omega) hq _) fun v7 H => x_b H [.m, .m, .m, .m, .m] <| x_nil <| x_then <| x_seq ?_
      refine x_seq <| x_region <| x_b H [.m, .m] <| x_nil <| x_then <| x_f (by kernel_rfl) <| x_skipc ?_
      refine x_then <| x_region <| x_b H [.m] <| x_eq (.int .i64 ((c / 2 : Nat) : Int)) (e_quo (c : Int) 2 (by omega) (by omega) (by omega)) (by kernel_rfl) rfl (by kernel_rfl) <| x_b H [.m] <| x_eq (.int .i64 ((c / 2 : Nat) : Int)) (e_quo (c : Int) 2 (by omega) (by omega) (by omega)) (by kernel_rfl) rfl (by kernel_rfl) <| x_val (.pointer (some ⟨g2, (c / 2), none⟩)) (by kernel_rfl) rfl (Eq.trans (by kernel_rfl) (adrA (P := Tryd.prog) (t := 34) (e := 5) (g := g2) (k := c / 2) (n := 64) (by kernel_rfl) (by kernel_rfl) (by omega))) ?_
      by_cases hpar : c % 2 = 0
      · skip
        refine x_loadc g2 (c / 2) (.int .u8 ((0 : Nat) : Int)) (by have q := H.byte 1 (k := c / 2) rfl (by omega); rw [lnD_even l hpar] at q; exact q) (by kernel_rfl) rfl (by kernel_rfl) <| x_eq (.int .u8 ((0 * 16 : Nat) : Int)) (b_shl (0) (by omega)) (by kernel_rfl) rfl (by kernel_rfl) <| x_b H [.m] <| x_eq (.int .u8 ((0 * 16 + hv (l.getD c 0).toNat : Nat) : Int)) (b_or (0) _ (by omega) hq) (by kernel_rfl) rfl (by kernel_rfl) <| x_val (.pointer (some ⟨g2, (c / 2), none⟩)) (by kernel_rfl) rfl (Eq.trans (by kernel_rfl) (adrA (P := Tryd.prog) (t := 34) (e := 5) (g := g2) (k := c / 2) (n := 64) (by kernel_rfl) (by kernel_rfl) (by omega))) <| x_stB H 1 (c / 2) (0 * 16 + hv (l.getD c 0).toNat) [.obj g3 ((.stringIter ⟨l.toArray⟩ (c + 1))), .blk g2 (arrL (upF (lnD l c) (c / 2) (0 * 16 + hv (l.getD c 0).toNat)) 64 0).toArray 34, .blk g1 (arrL (fun _ => 0) 64 0).toArray 34] rfl (by omega) rfl (by kernel_rfl) rfl (t := 5) (by kernel_rfl) (by kernel_rfl) ?_
        clear H
        intro v8 H
        rw [show 0 * 16 + hv (l.getD c 0).toNat = hv (l.getD c 0).toNat by omega] at H
        rw [lnD_up_even l hpar] at H
        refine x_nil <| x_blk <| x_then ?_
        exact ⟨(c + 1), (by omega), _, frm_of, H, (by omega), (fun j hj => if e : j = c then e ▸ hq else r2 j (by omega))⟩
      · skip
        have hr1 := r2 (c - 1) (by omega)
        refine x_loadc g2 (c / 2) (.int .u8 ((hv (l.getD (c - 1) 0).toNat : Nat) : Int)) (by have q := H.byte 1 (k := c / 2) rfl (by omega); rw [lnD_odd l hpar] at q; exact q) (by kernel_rfl) rfl (by kernel_rfl) <| x_eq (.int .u8 ((hv (l.getD (c - 1) 0).toNat * 16 : Nat) : Int)) (b_shl (hv (l.getD (c - 1) 0).toNat) (by omega)) (by kernel_rfl) rfl (by kernel_rfl) <| x_b H [.m] <| x_eq (.int .u8 ((hv (l.getD (c - 1) 0).toNat * 16 + hv (l.getD c 0).toNat : Nat) : Int)) (b_or (hv (l.getD (c - 1) 0).toNat) _ (by omega) hq) (by kernel_rfl) rfl (by kernel_rfl) <| x_val (.pointer (some ⟨g2, (c / 2), none⟩)) (by kernel_rfl) rfl (Eq.trans (by kernel_rfl) (adrA (P := Tryd.prog) (t := 34) (e := 5) (g := g2) (k := c / 2) (n := 64) (by kernel_rfl) (by kernel_rfl) (by omega))) <| x_stB H 1 (c / 2) (hv (l.getD (c - 1) 0).toNat * 16 + hv (l.getD c 0).toNat) [.obj g3 ((.stringIter ⟨l.toArray⟩ (c + 1))), .blk g2 (arrL (upF (lnD l c) (c / 2) (hv (l.getD (c - 1) 0).toNat * 16 + hv (l.getD c 0).toNat)) 64 0).toArray 34, .blk g1 (arrL (fun _ => 0) 64 0).toArray 34] rfl (by omega) rfl (by kernel_rfl) rfl (t := 5) (by kernel_rfl) (by kernel_rfl) ?_
        clear H
        intro v9 H
        rw [lnD_up_odd l hpar] at H
        refine x_nil <| x_blk <| x_then ?_
        exact ⟨(c + 1), (by omega), _, frm_of, H, (by omega), (fun j hj => if e : j = c then e ▸ hq else r2 j (by omega))⟩
    · skip
      by_cases ha : (l.getD c 0).toNat < 128
      · skip
        refine x_nextA H 0 g3 l c 0 rfl (by omega) ha [.obj g3 ((.stringIter ⟨l.toArray⟩ (c + 1))), .blk g2 (arrL (lnD l c) 64 0).toArray 34, .blk g1 (arrL (fun _ => 0) 64 0).toArray 34] rfl (by kernel_rfl) rfl (by kernel_rfl) ?_
        clear H
        intro v6 H
        refine x_b H [.m] <| x_nil <| x_then <| x_seq <| x_t (by kernel_rfl) <| x_skipc <| x_then ?_
        refine x_block <| x_seq <| x_region <| x_b H [.m, .m, .m, .m] <| x_nil <| x_then <| x_seq ?_
        refine x_region <| x_b H [.m] <| z_callB (v := .tuple #[.int .u8 0, .bool false]) H (digit_no (c := (l.getD c 0).toNat) (by omega) hq _) fun v10 H => x_b H [.m, .m, .m, .m, .m] <| x_nil <| x_then <| x_seq ?_
        refine x_seq <| x_region <| x_b H [.m, .m] <| x_nil <| x_then <| x_t (by kernel_rfl) <| x_seq ?_
        refine x_region <| x_b H [.m] <| z_store H 2 0 ((arrL (fun _ => 0) 64 0).toArray).toList (fun v11 H => ?_)
        refine x_b H [.m] <| x_nil <| x_then <| x_retc <| x_then_ret <| x_blk_ret <| x_then_ret ?_
        refine x_blk_ret <| x_then_ret <| x_ret (.tuple #[.agg (arrL (fun _ => 0) 64 0).toArray, .int .i64 10]) (by kernel_rfl) (x_results [.cell 2 34, .tmp 3] [.agg (arrL (fun _ => 0) 64 0).toArray, .int .i64 10] _ rfl (AllR.cell (by kernel_rfl) (ldR H 2 g1 0 (arrL (fun _ => 0) 64 0).toArray 34 (arrL (fun _ => 0) 64 0) (by kernel_rfl) (by kernel_rfl) (by kernel_rfl)) (AllR.tmp (by kernel_rfl) AllR.nil)) (by kernel_rfl)) ?_
        exact ⟨rfl, H.below⟩
      · skip
        refine x_nextH H 0 g3 l c 0 rfl (by omega) (by omega) (by kernel_rfl) rfl (by kernel_rfl) ?_
        clear H
        intro v6 cc qq hc1 hc2 H
        refine x_b H [.m] <| x_nil <| x_then <| x_seq <| x_t (by kernel_rfl) <| x_skipc <| x_then ?_
        refine x_block <| x_seq <| x_region <| x_b H [.m, .m, .m, .m] <| x_nil <| x_then <| x_seq ?_
        refine x_region <| x_b H [.m] <| z_callB H (digit_no (c := cc) hc2 (hv_hi hc1) _) fun v12 H => x_b H [.m, .m, .m, .m, .m] <| x_nil <| x_then <| x_seq ?_
        refine x_seq <| x_region <| x_b H [.m, .m] <| x_nil <| x_then <| x_t (by kernel_rfl) <| x_seq ?_
        refine x_region <| x_b H [.m] <| z_store H 2 0 ((arrL (fun _ => 0) 64 0).toArray).toList (fun v13 H => ?_)
        refine x_b H [.m] <| x_nil <| x_then <| x_retc <| x_then_ret <| x_blk_ret <| x_then_ret ?_
        refine x_blk_ret <| x_then_ret <| x_ret (.tuple #[.agg (arrL (fun _ => 0) 64 0).toArray, .int .i64 10]) (by kernel_rfl) (x_results [.cell 2 34, .tmp 3] [.agg (arrL (fun _ => 0) 64 0).toArray, .int .i64 10] _ rfl (AllR.cell (by kernel_rfl) (ldR H 2 g1 0 (arrL (fun _ => 0) 64 0).toArray 34 (arrL (fun _ => 0) 64 0) (by kernel_rfl) (by kernel_rfl) (by kernel_rfl)) (AllR.tmp (by kernel_rfl) AllR.nil)) (by kernel_rfl)) ?_
        exact ⟨rfl, H.below⟩
  · skip
    refine x_nextE H 0 g3 l c 0 rfl (by omega) (by kernel_rfl) rfl (by kernel_rfl) <| x_b H [.m] <| x_nil <| x_then <| x_seq <| x_f (by kernel_rfl) <| x_exit ?_
    refine x_then_exit <| x_then_exit <| x_blk_exit <| x_then <| x_seq <| x_region <| x_b H [.n 1 0 64 34] ?_
    refine z_store H 2 0 ((arrL (lnD l c) 64 0).toArray).toList (fun v14 H => ?_)
    refine x_b H [.m] <| x_nil <| x_then <| x_retc <| x_ret (.tuple #[.agg (arrL (lnD l c) 64 0).toArray, .int .i64 0]) (by kernel_rfl) (x_results [.cell 2 34, .tmp 3] [.agg (arrL (lnD l c) 64 0).toArray, .int .i64 0] _ rfl (AllR.cell (by kernel_rfl) (ldR H 2 g1 0 (arrL (lnD l c) 64 0).toArray 34 (arrL (lnD l c) 64 0) (by kernel_rfl) (by kernel_rfl) (by kernel_rfl)) (AllR.tmp (by kernel_rfl) AllR.nil)) (by kernel_rfl)) ?_
    exfalso; first | exact hq (h.2 c hlt) | exact h ⟨hl8, fun i hi => r2 i (by omega)⟩ | (have h128 := h.1; omega) | omega
theorem LRead_of (l : List UInt8) (w : World) : Calls Tryd.prog 44 #[S l] w fun e w' => ∃ ev, e = .returned (.tuple #[.agg (arrL (lineV l) 64 0).toArray, ev]) ∧ Below w.heap.size w w' := by
  by_cases h : hexOk l
  · exact (Read_hex h w).mono fun e w' ⟨h1, h2⟩ => ⟨_, h1, h2⟩
  · rw [lineV_no h]; exact (Read_nohex h w).mono fun e w' ⟨h1, h2⟩ => ⟨_, h1, h2⟩
end Go.Proofs.YtjbaabffilejeaaDoor
