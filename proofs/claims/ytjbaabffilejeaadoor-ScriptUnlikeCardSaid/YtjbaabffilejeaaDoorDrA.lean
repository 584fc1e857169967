/- What stands in the library's variables; numbers in digits; a record's text. -/
import Derived.Test.YtjbaabffilejeaaDoorPxT
import Derived.Test.YtjbaabffilejeaaDoorPxQ
import Derived.Test.YtjbaabffilejeaaDoorTxtP
import Derived.Test.YtjbaabffilejeaaDoorShelf
import Derived.Lib.AppendIntMem
import Derived.Test.YtjbaabffilejeaaDoorPxZ
namespace Go.Proofs.YtjbaabffilejeaaDoor
open Go Go.RowKit
set_option linter.unusedVariables false
set_option linter.unusedSimpArgs false

open Go.Lib (decDigits itoa)
/-- What the library's variables hold. -/
structure Env (w : World) : Prop where
  size : 10 ≤ w.heap.size
  tab : Lib.TabIs Tryd.prog w "internal/strconv.uint64pow10" .u64 Lib.pow10Tab
  syn : ∃ tp p, w.var? Tryd.prog "strconv.ErrSyntax" = some #[.iface tp p]
  rng : ∃ tp p, w.var? Tryd.prog "strconv.ErrRange" = some #[.iface tp p]
theorem var_on {w w' : World} {n : String} {g : Nat} (hg : Tryd.prog.globalNamed n = some g) (h : w'.heap[g]? = w.heap[g]?) : w'.var? Tryd.prog n = w.var? Tryd.prog n := by
  unfold World.var?; rw [hg]; simp only [Option.bind_some, h]
theorem nilM : ∀ g ∈ ([] : List Nat), 10 ≤ g := fun g h => by simp at h
theorem Env.on {M : List Nat} {w0 w : World} {L : List Res} (E : Env w0) (hM : ∀ g ∈ M, 10 ≤ g) (H : Hs M w0 w L) : Env w := by
  have hk : ∀ g, g < 10 → w.heap[g]? = w0.heap[g]? := fun g hg => H.fr.block g (Nat.lt_of_lt_of_le hg E.size) fun hm => by have := hM g hm; omega
  obtain ⟨t1, p1, h1⟩ := E.syn
  obtain ⟨t2, p2, h2⟩ := E.rng
  exact ⟨Nat.le_trans E.size H.size, (var_on (g := 4) (by kernel_rfl) (hk 4 (by decide))).trans E.tab, ⟨t1, p1, (var_on (g := 2) (by kernel_rfl) (hk 2 (by decide))).trans h1⟩, ⟨t2, p2, (var_on (g := 3) (by kernel_rfl) (hk 3 (by decide))).trans h2⟩⟩
theorem Env.m {M : List Nat} {w0 w : World} {A B : List Res} (E : Env w0) (hM : ∀ g ∈ M, 10 ≤ g) (H : Hs M w0 w (A ++ B)) : ∀ g ∈ fps A, 10 ≤ g := fun g hg => by
  obtain ⟨i, r, hi, hr⟩ := mem_fps hg
  rcases H.front.my i r hi g hr with h | h
  · exact hM g h
  · exact Nat.le_trans E.size h
/-! ### the library's functions -/
theorem Itoa_of {n : Int} (h0 : -9223372036854775808 ≤ n) (h1 : n ≤ 9223372036854775807) {w : World} (E : Env w) :
    Calls Tryd.prog 27 #[.int .i64 n] w fun e w' => e = .returned (S (itoa n)) ∧ Below w.heap.size w w' := by
  refine (Tryd.strconv_Itoa n h0 h1 w E.tab).mono fun e w' ⟨he, k, os, hw⟩ => ⟨he, ?_⟩
  subst hw
  exact Lib.below_grow _ w (Nat.le_refl _) k os
theorem Atoi_of (l : List UInt8) (hl : l.length ≤ 281474976710656) {w : World} (E : Env w) :
    Calls Tryd.prog 31 #[S l] w fun e w' => ∃ ev, e = .returned (.tuple #[.int .i64 (atoiV l), ev]) ∧ Below w.heap.size w w' := by
  have hs : (⟨l.toArray⟩ : ByteArray).size = l.length := rfl
  have hd : (⟨l.toArray⟩ : ByteArray).data.toList = l := rfl
  unfold atoiV
  cases h : Lib.atoiAll l
  · rename_i v
    refine (Tryd.strconv_Atoi_ok ⟨l.toArray⟩ (by rw [hs]; omega) v (by rw [hd]; exact h) w).mono fun e w' ⟨he, hw⟩ => ⟨_, he, ?_⟩
    rcases hw with rfl | ⟨t, rfl⟩
    · exact Below.refl _ _
    · exact Lib.bytesWorld_below _ _ _
  · obtain ⟨tp, pv, hv⟩ := E.syn
    exact (Any.strconv_Atoi_syntax_var Tryd.laysC172 ⟨l.toArray⟩ (by rw [hs]; omega) (by rw [hd]; exact h) tp pv w hv).mono fun e w' ⟨N, he, _, _, hb⟩ => ⟨_, he, hb⟩
  · obtain ⟨tp, pv, hv⟩ := E.rng
    exact (Tryd.strconv_Atoi_range_var ⟨l.toArray⟩ (by rw [hs]; omega) (by rw [hd]; exact h) tp pv w hv).mono fun e w' ⟨N, he, _, _, hb⟩ => ⟨_, by rw [hd] at he; exact he, hb⟩
theorem Index_miss {l : List UInt8} (h : Lib.indexByte l 32 = -1) {w : World} : Calls Tryd.prog 73 #[S l, S [32]] w fun e w' => e = .returned (.int .i64 (-1)) ∧ Below w.heap.size w w' := by
  refine (Tryd.strings_Index_one ⟨l.toArray⟩ 32 w).mono fun e w' ⟨he, hw⟩ => ⟨?_, hw ▸ Below.refl _ _⟩
  rw [he]; show _ = Ending.returned (.int .i64 (-1)); rw [← h]
theorem Index_hit {l : List UInt8} {k : Nat} (h : Lib.indexByte l 32 = k) {w : World} : Calls Tryd.prog 73 #[S l, S [32]] w fun e w' => e = .returned (.int .i64 ((k : Nat) : Int)) ∧ Below w.heap.size w w' := by
  refine (Tryd.strings_Index_one ⟨l.toArray⟩ 32 w).mono fun e w' ⟨he, hw⟩ => ⟨?_, hw ▸ Below.refl _ _⟩
  rw [he]; show _ = Ending.returned (.int .i64 ((k : Nat) : Int)); rw [← h]
theorem Join_of {g cap : Nat} (xs : List (List UInt8)) {w : World} (hr : w.ownsRow 0 9 1 (.slice (some ⟨g, 0, none⟩) xs.length cap) xs.length (xs.map S)) (hl : (Lib.join xs [32]).length ≤ 140737488355328) (hn : xs.length ≤ 140737488355328) :
    Calls Tryd.prog 28 #[.slice (some ⟨g, 0, none⟩) xs.length cap, S [32]] w fun e w' => e = .returned (S (Lib.join xs [32])) ∧ Below w.heap.size w w' := by
  have hlt := (World.ownsRow.lt hr g (by simp [Value.ownBlock])).2
  have hcap : xs.length ≤ cap ∧ cap ≤ maxLen := by
    obtain ⟨_, h2⟩ := hr
    rcases h2 with ⟨h2, _⟩ | ⟨g', cap', cur, hv, _, _, hc, hm, _⟩
    · cases h2
    · cases hv; exact ⟨hc, hm⟩
  have hmap : ((xs.map fun x => (⟨x.toArray⟩ : ByteArray)).map (·.data.toList)) = xs := by
    rw [List.map_map]; conv => rhs; rw [← List.map_id xs]
    apply List.map_congr_left; intro x _; rfl
  have hlen : (xs.map fun x => (⟨x.toArray⟩ : ByteArray)).length = xs.length := List.length_map _
  have := Tryd.strings_Join g 0 cap (xs.map fun x => (⟨x.toArray⟩ : ByteArray)) ⟨#[32]⟩ w (fun j x hj => by
    rw [List.getElem?_map] at hj
    cases hx : xs[j]? with
    | none => rw [hx] at hj; cases hj
    | some y =>
      rw [hx] at hj; cases hj
      have h1 := World.ownsRow.cells hr (g := g) rfl j (S y) (by rw [List.getElem?_map, hx]; rfl)
      rw [add_none] at h1
      exact h1) hlt (by rw [hlen]; exact hn) (by rw [hlen]; exact hcap.1) (by rw [hmap]; exact hl)
  rw [hlen] at this
  refine this.mono fun e w' ⟨he, hb⟩ => ⟨?_, hb⟩
  rw [he, hmap]

theorem dec_step {N n : Nat} {r : List UInt8} (h : decDigits N = decDigits n ++ r) (hn : ¬ n / 10 = 0) : decDigits N = decDigits (n / 10) ++ (UInt8.ofNat (48 + n % 10) :: r) := by
  rw [h]; conv => lhs; rw [decDigits]
  rw [dif_neg (by omega), List.append_assoc]; rfl
theorem dec_last {N n : Nat} {r : List UInt8} (h : decDigits N = decDigits n ++ r) (hn : n / 10 = 0) : decDigits N = UInt8.ofNat (48 + n % 10) :: r := by
  rw [h]; conv => lhs; rw [decDigits]
  rw [dif_pos (by omega), show n % 10 = n by omega]; rfl
theorem decLen : ∀ (n : Nat) (k : Nat), n < 10 ^ k → (decDigits n).length ≤ k + 1
  | n, 0, h => by rw [decDigits, dif_pos (by omega)]; simp
  | n, k + 1, h => by
    rw [decDigits]; split
    · simp
    · rw [List.length_append]
      have := decLen (n / 10) k (by rw [Nat.pow_succ] at h; omega)
      simp; omega
theorem decLen64 {n : Nat} (h : n < 18446744073709551616) : (decDigits n).length ≤ 21 := decLen n 20 (by rw [show (10 : Nat) ^ 20 = 100000000000000000000 by decide]; omega)
theorem itoa_nat (n : Nat) : itoa (n : Int) = decDigits n := by unfold Lib.itoa; rw [if_neg (by omega)]; simp

set_option maxRecDepth 100000 in
set_option maxHeartbeats 4000000 in
theorem Digits_of {N : Nat} (hN : N ≤ 9223372036854775807) (w0 : World) :
    Calls Tryd.prog 32 #[.int .i64 ((N : Nat) : Int)] w0 fun e w' => e = .returned (S (decDigits N)) ∧ Below w0.heap.size w0 w' := by
  refine z_enter Tryd.func32 rfl ?_
  have H := Hs.nil w0
  refine x_seq <| x_region <| x_b H [.m] <| x_nil <| x_then <| x_seq <| x_region ?_
  refine x_b H [.m] <| x_nil <| x_then <| x_block <| x_loop (G := Nat × List UInt8) (fun gh a w' => match gh with | (n, r) => ∃ uf1 : Nat → Value, a = frm 17 uf1 [(0, .int .i64 (n : Int)), (3, S r)] [] ∧ Hs [] w0 w' [] ∧ (n ≤ 9223372036854775807) ∧ (decDigits N = decDigits n ++ r) ∧ (r.length ≤ 21)) (fun gh => match gh with | (n, r) => n) (N, []) ⟨_, frm_of, H, hN, (by simp), (by simp)⟩ ?_
  clear H
  rintro ⟨n, r⟩ _ v1 ⟨uf1, rfl, H, r1, r2, r3⟩
  refine x_block <| x_seq <| x_region <| x_b H [.m] <| x_eq (.int .i64 ((n % 10 : Nat) : Int)) (e_rem (n : Int) 10 (by omega)) (by kernel_rfl) rfl (by kernel_rfl) <| x_eq (.int .i64 ((48 + n % 10 : Nat) : Int)) (show Value.int .i64 (IntKind.i64.wrap (48 + ((n % 10 : Nat) : Int))) = .int .i64 ((48 + n % 10 : Nat) : Int) by rw [i64ok ⟨by omega, by omega⟩]; congr 1) (by kernel_rfl) rfl (by kernel_rfl) <| x_eq (.int .u8 ((48 + n % 10 : Nat) : Int)) (e_u8 (by omega) (by omega)) (by kernel_rfl) rfl (by kernel_rfl) ?_
  refine x_box' H #[.int .u8 ((48 + n % 10 : Nat) : Int)] 5 1 (by kernel_rfl) rfl (by kernel_rfl) ?_
  clear H
  intro v2 g1 H
  refine x_val (S ([UInt8.ofNat (48 + n % 10)])) (by kernel_rfl) rfl (Eq.trans (by kernel_rfl) (strBytes (P := Tryd.prog) H 0 (src := 91) (dst := 9) (e := 5) ([UInt8.ofNat (48 + n % 10)]) 1 rfl (by simp only [List.map_cons, List.map_nil]; rw [byteOf (by omega)]) (by kernel_rfl) (by kernel_rfl) (by kernel_rfl))) <| x_b H [.m] <| x_val (S (([UInt8.ofNat (48 + n % 10)]) ++ r)) (by kernel_rfl) rfl (Eq.trans (by kernel_rfl) (strAdd (P := Tryd.prog) (t := 9) (a := [UInt8.ofNat (48 + n % 10)]) (b := r) (by simp only [List.length_cons, List.length_nil]; omega))) <| x_b H [.m] <| x_nil <| x_then <| x_seq ?_
  refine x_region <| x_b H [.m] <| x_eq (.int .i64 ((n / 10 : Nat) : Int)) (e_quo (n : Int) 10 (by omega) (by omega) (by omega)) (by kernel_rfl) rfl (by kernel_rfl) <| x_b H [.m] <| x_nil <| x_then <| x_seq ?_
  refine x_region <| x_b H [.m, .v (.bool (decide (((n / 10 : Nat) : Int) = 0)))] <| x_nil <| x_then ?_
  cases h1 : decide (((n / 10 : Nat) : Int) = 0)
  · skip
    have h1p := of_decide_eq_false h1
    refine x_f (by kernel_rfl) <| x_skipc <| x_blk <| x_then ?_
    replace H := H.pk []
    exact ⟨((n / 10), (([UInt8.ofNat (48 + n % 10)]) ++ r)), (by dsimp only; omega), _, frm_of, H, (by omega), (dec_step r2 (by omega)), (by have q := congrArg List.length (dec_step r2 (by omega)); rw [List.length_append] at q; have q2 := decLen64 (n := N) (by omega); have q3 := decDigits_ne (n / 10); have q4 := List.length_pos_iff.2 q3; simp only [List.cons_append, List.nil_append] at q ⊢; omega)⟩
  have h1p := of_decide_eq_true h1
  refine x_t (by kernel_rfl) <| x_seq <| x_region <| x_b H [.m, .m] <| x_nil <| x_then <| x_retc ?_
  refine x_blk_ret <| x_then_ret <| x_blk_ret <| x_ret (S (([UInt8.ofNat (48 + n % 10)]) ++ r)) (by kernel_rfl) (by kernel_rfl) ?_
  exact ⟨by rw [dec_last r2 (by omega)]; rfl, H.below⟩

set_option maxRecDepth 100000 in
set_option maxHeartbeats 4000000 in
theorem splitSeq_of (l : List UInt8) (w0 : World) :
    Calls Tryd.prog 54 #[S l, S ([32] : List UInt8), .int .i64 0] w0 fun e w' => ∃ qs q qn, e = .returned (.func (.func 71) #[] #[.pointer (some ⟨qs, 0, none⟩), .pointer (some ⟨q, 0, none⟩), .pointer (some ⟨qn, 0, none⟩)]) ∧ Hs [] w0 w' [.blk q #[S l] 9, .blk qs #[S ([32] : List UInt8)] 9, .blk qn #[.int .i64 0] 3] := by
  refine z_enter Tryd.func54 rfl ?_
  have H := Hs.nil w0
  refine x_seq <| x_region <| z_box H #[S l] 9 (fun v1 g1 H => ?_)
  refine z_box H #[S ([32] : List UInt8)] 9 (fun v2 g2 H => ?_)
  refine z_box H #[.int .i64 0] 3 (fun v3 g3 H => ?_)
  refine x_b H [.m] <| x_nil <| x_then <| x_seq <| x_region <| x_b H [.m, .m] <| x_nil ?_
  refine x_then <| x_retc <| x_ret (.func (.func 71) #[] #[.pointer (some ⟨g2, 0, none⟩), .pointer (some ⟨g1, 0, none⟩), .pointer (some ⟨g3, 0, none⟩)]) (by kernel_rfl) (by kernel_rfl) ?_
  exact ⟨_, _, _, rfl, H.pick [2, 1, 0] _ (by decide) (by kernel_rfl)⟩

set_option maxRecDepth 100000 in
set_option maxHeartbeats 4000000 in
theorem SplitSeq_of (l : List UInt8) (w0 : World) :
    Calls Tryd.prog 30 #[S l, S ([32] : List UInt8)] w0 fun e w' => ∃ qs q qn, e = .returned (.func (.func 71) #[] #[.pointer (some ⟨qs, 0, none⟩), .pointer (some ⟨q, 0, none⟩), .pointer (some ⟨qn, 0, none⟩)]) ∧ Hs [] w0 w' [.blk q #[S l] 9, .blk qs #[S ([32] : List UInt8)] 9, .blk qn #[.int .i64 0] 3] := by
  refine z_enter Tryd.func30 rfl ?_
  have H := Hs.nil w0
  refine x_seq <| x_region <| x_b H [.m] <| x_nil <| x_then <| x_seq <| x_region ?_
  refine x_b H [.m, .m] <| z_call (splitSeq_of l _) ?_
  rintro _ v1 ⟨qs, q, qn, rfl, hN'⟩
  refine ⟨_, rfl, ?_⟩
  replace H := H.more hN'
  clear hN'
  refine x_b H [.m] <| x_nil <| x_then <| x_retc <| x_ret (.func (.func 71) #[] #[.pointer (some ⟨qs, 0, none⟩), .pointer (some ⟨q, 0, none⟩), .pointer (some ⟨qn, 0, none⟩)]) (by kernel_rfl) (by kernel_rfl) ?_
  exact ⟨_, _, _, rfl, H⟩

theorem ix_cases (l : List UInt8) : Lib.indexByte l 32 = -1 ∨ ∃ k : Nat, Lib.indexByte l 32 = k ∧ k < l.length := by
  have h := Lib.indexByte_ge l 32
  by_cases h1 : Lib.indexByte l 32 = -1
  · exact .inl h1
  · refine .inr ⟨(Lib.indexByte l 32).toNat, by omega, ?_⟩
    have h2 := Lib.index_room l [32] (by rw [Lib.index_one]; omega)
    rw [Lib.index_one] at h2
    simp at h2; omega
theorem add0 {k : Nat} (h : k ≤ 1000000) : Value.int .i64 (IntKind.i64.wrap (((k : Nat) : Int) + 0)) = .int .i64 ((k : Nat) : Int) := by rw [i64ok ⟨by omega, by omega⟩]; simp
theorem add1 {k : Nat} (h : k ≤ 1000000) : Value.int .i64 (IntKind.i64.wrap (((k : Nat) : Int) + 1)) = .int .i64 ((k + 1 : Nat) : Int) := by
  rw [i64ok ⟨by omega, by omega⟩]; congr 1
theorem Hs.shift {M : List Nat} {w0 w w' : World} {L : List Res} (h : Hs M w0 w L) (hk : ∀ g ∈ fps L, w'.heap[g]? = w.heap[g]?) : Hs (fps L) w' w' L :=
  ⟨fun i r hi => Res.keep (h.ok i r hi) fun g hg => hk g (fps_mem i r hi g hg), h.ap, fun i r hi g hg => .inl (fps_mem i r hi g hg), Fr.refl _ _⟩
theorem frq {q a b : Nat} {w w' : World} {x y : Obj} (h : Fr [q, a, b] w w') (h1 : w.heap[a]? = some x) (h2 : w'.heap[a]? = some x) (h3 : w.heap[b]? = some y) (h4 : w'.heap[b]? = some y) : Fr [q] w w' :=
  ⟨h.os, h.tape, h.output, h.size, fun k hk hn => by
    by_cases e : k = a
    · rw [e, h1, h2]
    · by_cases e2 : k = b
      · rw [e2, h3, h4]
      · exact h.block k hk (by simp at hn ⊢; exact ⟨hn, e, e2⟩)⟩
theorem pre_one {α : Type} {pre xs ys : List α} {x : α} (h : xs = pre ++ x :: ys) : pre ++ [x] <+: xs := ⟨ys, by rw [h]; simp⟩

set_option maxRecDepth 100000 in
set_option maxHeartbeats 2000000 in
theorem split_it {q qs qn : Nat} {l : List UInt8} (hl : l.length ≤ 100000) (W0 : World) {M : List Nat} {wz : World} (hR : Hs M wz W0 [.blk q #[S l] 9, .blk qs #[S ([32] : List UInt8)] 9, .blk qn #[.int .i64 0] 3]) :
    SeqQ Tryd.prog q 9 [.blk qs #[S ([32] : List UInt8)] 9, .blk qn #[.int .i64 0] 3] 71 #[.pointer (some ⟨qs, 0, none⟩), .pointer (some ⟨q, 0, none⟩), .pointer (some ⟨qn, 0, none⟩)] (fun x : List UInt8 => #[S x]) (words l) W0 := fun l0 J Jx W hW hJ hY h0 => callsFW.2 (by
  have H00 : Hs [q, qs, qn] W W [.blk q #[S l] 9, .blk qs #[S ([32] : List UInt8)] 9, .blk qn #[.int .i64 0] 3] := hR.shift (fun g hg => hW g (show g ∈ q :: fps [.blk qs #[S ([32] : List UInt8)] 9, .blk qn #[.int .i64 0] 3] from hg))
  have R0 : Ro W [.blk qs #[S ([32] : List UInt8)] 9, .blk qn #[.int .i64 0] 3] := fun i r hi => H00.ok (i + 1) r hi
  refine z_enter Tryd.func71 rfl ?_
  have H := H00
  refine x_seq <| x_seq <| x_region <| x_b H [.l 1 0, .m, .m] <| x_nil <| x_then <| x_f (by kernel_rfl) ?_
  refine x_skipc <| x_then <| x_seq <| x_block <| x_loop (G := List UInt8 × List (List UInt8) × World) (fun gh a w' => match gh with | (r, pre, wb) => ∃ uf1 : Nat → Value, a = frm 52 uf1 [(0, .func (.yield l0) #[] #[]), (1, .pointer (some ⟨qs, 0, none⟩)), (2, .pointer (some ⟨q, 0, none⟩)), (3, .pointer (some ⟨qn, 0, none⟩))] [] ∧ Hs [q, qs, qn] wb w' [.blk q #[S r] 9, .blk qs #[S ([32] : List UInt8)] 9, .blk qn #[.int .i64 0] 3] ∧ (words l = pre ++ words r) ∧ (J pre wb) ∧ (Ro wb [.blk qs #[S ([32] : List UInt8)] 9, .blk qn #[.int .i64 0] 3]) ∧ (r.length ≤ l.length)) (fun gh => match gh with | (r, pre, wb) => r.length) (l, [], W) ⟨_, frm_of, H, rfl, h0, R0, (Nat.le_refl _)⟩ ?_
  clear H
  rintro ⟨r, pre, wb⟩ _ v1 ⟨uf1, rfl, H, r1, r2, r3, r4⟩
  have hJ1 := r2
  have R0 := r3
  have hr4 := r4
  refine x_block <| x_seq <| x_region <| x_b H [.l 0 0, .l 1 0] ?_
  rcases ix_cases r with hk | ⟨k, hk, hkl⟩
  · skip
    refine z_callB H (Index_miss hk) fun v2 H => x_b H [.m] <| x_nil <| x_then <| x_seq <| x_seq <| x_region ?_
    refine x_b H [.m, .m] <| x_nil <| x_then <| x_t (by kernel_rfl) <| x_exit <| x_then_exit <| x_blk_out (by decide) ?_
    refine x_then_exit <| x_blk_exit <| x_then <| x_region <| x_b H [.m, .l 0 0] ?_
    have HJ2 := hJ _ _ _ hJ1 (frq H.fr (R0 0 _ rfl) (H.blk 1 rfl) (R0 1 _ rfl) (H.blk 2 rfl)) ⟨_, H.blk 0 rfl⟩
    refine x_yield (hY _ r _ (pre_one (xs := words l) (ys := []) (by rw [r1, words_miss hk])) HJ2) (by kernel_rfl) rfl (by kernel_rfl) ?_
    rintro e v2 (⟨rfl, hJ3, hKp⟩ | ⟨rfl, hJx3⟩)
    · skip
      refine ⟨_, rfl, ?_⟩
      replace H := H.shift (fun g hg => hKp g (show g ∈ q :: fps [.blk qs #[S ([32] : List UInt8)] 9, .blk qn #[.int .i64 0] 3] from hg))
      have R3 : Ro v2 [.blk qs #[S ([32] : List UInt8)] 9, .blk qn #[.int .i64 0] 3] := fun i r hi => H.ok (i + 1) r hi
      refine x_nil <| x_end (.tuple #[]) (by kernel_rfl) (by kernel_rfl) ?_
      exact ⟨⟨_, rfl⟩, .inl (by rw [r1, words_miss hk]; exact hJ3)⟩
    · skip
      refine ⟨_, rfl, ?_⟩
      clear H
      have H := Hs.nil v2
      refine x_nil <| x_end (.tuple #[]) (by kernel_rfl) (by kernel_rfl) ?_
      exact ⟨⟨_, rfl⟩, .inr ⟨_, pre_one (ys := _) (by rw [r1, words_miss hk]), hJx3⟩⟩
  · skip
    refine z_callB H (Index_hit hk) fun v3 H => x_b H [.m] <| x_nil <| x_then <| x_seq <| x_seq <| x_region ?_
    refine x_b H [.m, .v (.bool (decide ((k : Int) < 0)))] <| x_nil <| x_then ?_
    cases h1 : decide ((k : Int) < 0)
    · skip
      have h1p := of_decide_eq_false h1
      refine x_f (by kernel_rfl) <| x_skipc <| x_then <| x_seq <| x_region <| x_b H [.l 0 0, .m, .l 2 0] <| x_eq (.int .i64 (k : Int)) (add0 (by omega)) (by kernel_rfl) rfl (by kernel_rfl) ?_
      refine x_val (S (r.take k)) (by kernel_rfl) rfl (Eq.trans (by kernel_rfl) (strTo (h := k) (P := Tryd.prog) (t := 9) (l := r) (by kernel_rfl) (by omega))) <| x_b H [.m] <| x_nil <| x_then <| x_seq <| x_seq <| x_region ?_
      refine x_b H [.m, .m] ?_
      have HJ2 := hJ _ _ _ hJ1 (frq H.fr (R0 0 _ rfl) (H.blk 1 rfl) (R0 1 _ rfl) (H.blk 2 rfl)) ⟨_, H.blk 0 rfl⟩
      refine x_yield (hY _ (r.take k) _ (pre_one (xs := words l) (ys := words (r.drop (k + 1))) (by rw [r1, words_hit hk])) HJ2) (by kernel_rfl) rfl (by kernel_rfl) ?_
      rintro e v2 (⟨rfl, hJ3, hKp⟩ | ⟨rfl, hJx3⟩)
      · skip
        refine ⟨_, rfl, ?_⟩
        replace H := H.shift (fun g hg => hKp g (show g ∈ q :: fps [.blk qs #[S ([32] : List UInt8)] 9, .blk qn #[.int .i64 0] 3] from hg))
        have R3 : Ro v2 [.blk qs #[S ([32] : List UInt8)] 9, .blk qn #[.int .i64 0] 3] := fun i r hi => H.ok (i + 1) r hi
        refine x_b H [.m] <| x_nil <| x_then <| x_f (by kernel_rfl) <| x_skipc <| x_then <| x_region ?_
        refine x_b H [.l 0 0, .m, .l 1 0, .m] <| x_eq (.int .i64 ((k + 1 : Nat) : Int)) (add1 (by omega)) (by kernel_rfl) rfl (by kernel_rfl) <| x_val (S (r.drop (k + 1))) (by kernel_rfl) rfl (Eq.trans (by kernel_rfl) (strFrom (k := k + 1) (P := Tryd.prog) (t := 9) (l := r) (by kernel_rfl) (by omega))) <| z_store H 0 0 [S (r.drop (k + 1))] (fun v4 H => ?_)
        refine x_nil <| x_blk <| x_then ?_
        exact ⟨((r.drop (k + 1)), (pre ++ [r.take k]), v2), (by dsimp only; rw [List.length_drop]; omega), _, frm_of, H, (by rw [r1, words_hit hk]; simp), hJ3, R3, (by rw [List.length_drop]; omega)⟩
      · skip
        refine ⟨_, rfl, ?_⟩
        clear H
        have H := Hs.nil v2
        refine x_b H [.m] <| x_nil <| x_then <| x_t (by kernel_rfl) <| x_retc <| x_then_ret <| x_blk_ret ?_
        refine x_then_ret <| x_blk_ret <| x_then_ret <| x_ret (.tuple #[]) (by kernel_rfl) (by kernel_rfl) ?_
        exact ⟨⟨_, rfl⟩, .inr ⟨_, pre_one (ys := _) (by rw [r1, words_hit hk]), hJx3⟩⟩
    have h1p := of_decide_eq_true h1
    exact absurd h1p (by omega))
end Go.Proofs.YtjbaabffilejeaaDoor
