/- What stands in the library's variables; numbers in digits; a record's text. -/
import Derived.Test.YtjbaabffilejeaaDoorPxT
import Derived.Test.YtjbaabffilejeaaDoorPxQ
import Derived.Test.YtjbaabffilejeaaDoorTxtP
import Derived.Test.YtjbaabffilejeaaDoorShelf
import Derived.Lib.AppendIntMem
import Derived.Test.YtjbaabffilejeaaDoorPxZ
namespace Go.Proofs.YtjbaabffilejeaaDoor
open Go Go.RowKit
set_option linter.unusedVariables false
set_option linter.unusedSimpArgs false
open Go.Lib (decDigits itoa)
/-- What the library's variables hold. -/
structure Env (w : World) : Prop where
  size : 10 ≤ w.heap.size
  tab : Lib.TabIs Tryd.prog w "internal/strconv.uint64pow10" .u64 Lib.pow10Tab
  syn : ∃ tp p, w.var? Tryd.prog "strconv.ErrSyntax" = some #[.iface tp p]
  rng : ∃ tp p, w.var? Tryd.prog "strconv.ErrRange" = some #[.iface tp p]
theorem var_on {w w' : World} {n : String} {g : Nat} (hg : Tryd.prog.globalNamed n = some g) (h : w'.heap[g]? = w.heap[g]?) : w'.var? Tryd.prog n = w.var? Tryd.prog n := by
  unfold World.var?; rw [hg]; simp only [Option.bind_some, h]
theorem nilM : ∀ g ∈ ([] : List Nat), 10 ≤ g := fun g h => by simp at h
theorem Env.on {M : List Nat} {w0 w : World} {L : List Res} (E : Env w0) (hM : ∀ g ∈ M, 10 ≤ g) (H : Hs M w0 w L) : Env w := by
  have hk : ∀ g, g < 10 → w.heap[g]? = w0.heap[g]? := fun g hg => H.fr.block g (Nat.lt_of_lt_of_le hg E.size) fun hm => by have := hM g hm; omega
  obtain ⟨t1, p1, h1⟩ := E.syn
  obtain ⟨t2, p2, h2⟩ := E.rng
  exact ⟨Nat.le_trans E.size H.size, (var_on (g := 4) (by kernel_rfl) (hk 4 (by decide))).trans E.tab, ⟨t1, p1, (var_on (g := 2) (by kernel_rfl) (hk 2 (by decide))).trans h1⟩, ⟨t2, p2, (var_on (g := 3) (by kernel_rfl) (hk 3 (by decide))).trans h2⟩⟩
theorem Env.m {M : List Nat} {w0 w : World} {A B : List Res} (E : Env w0) (hM : ∀ g ∈ M, 10 ≤ g) (H : Hs M w0 w (A ++ B)) : ∀ g ∈ fps A, 10 ≤ g := fun g hg => by
  obtain ⟨i, r, hi, hr⟩ := mem_fps hg
  rcases H.front.my i r hi g hr with h | h
  · exact hM g h
  · exact Nat.le_trans E.size h
/-! ### the library's functions -/
theorem Itoa_of {n : Int} (h0 : -9223372036854775808 ≤ n) (h1 : n ≤ 9223372036854775807) {w : World} (E : Env w) :
    Calls Tryd.prog 27 #[.int .i64 n] w fun e w' => e = .returned (S (itoa n)) ∧ Below w.heap.size w w' := by
  refine (Tryd.strconv_Itoa n h0 h1 w E.tab).mono fun e w' ⟨he, k, os, hw⟩ => ⟨he, ?_⟩
  subst hw
  exact Lib.below_grow _ w (Nat.le_refl _) k os
theorem Atoi_of (l : List UInt8) (hl : l.length ≤ 281474976710656) {w : World} (E : Env w) :
    Calls Tryd.prog 31 #[S l] w fun e w' => ∃ ev, e = .returned (.tuple #[.int .i64 (atoiV l), ev]) ∧ Below w.heap.size w w' := by
  have hs : (⟨l.toArray⟩ : ByteArray).size = l.length := rfl
  have hd : (⟨l.toArray⟩ : ByteArray).data.toList = l := rfl
  unfold atoiV
  cases h : Lib.atoiAll l
  · rename_i v
    refine (Tryd.strconv_Atoi_ok ⟨l.toArray⟩ (by rw [hs]; omega) v (by rw [hd]; exact h) w).mono fun e w' ⟨he, hw⟩ => ⟨_, he, ?_⟩
    rcases hw with rfl | ⟨t, rfl⟩
    · exact Below.refl _ _
    · exact Lib.bytesWorld_below _ _ _
  · obtain ⟨tp, pv, hv⟩ := E.syn
    exact (Any.strconv_Atoi_syntax_var Tryd.laysC172 ⟨l.toArray⟩ (by rw [hs]; omega) (by rw [hd]; exact h) tp pv w hv).mono fun e w' ⟨N, he, _, _, hb⟩ => ⟨_, he, hb⟩
  · obtain ⟨tp, pv, hv⟩ := E.rng
    exact (Tryd.strconv_Atoi_range_var ⟨l.toArray⟩ (by rw [hs]; omega) (by rw [hd]; exact h) tp pv w hv).mono fun e w' ⟨N, he, _, _, hb⟩ => ⟨_, by rw [hd] at he; exact he, hb⟩
theorem Join_of {g cap : Nat} (xs : List (List UInt8)) {w : World} (hr : w.ownsRow 0 9 1 (.slice (some ⟨g, 0, none⟩) xs.length cap) xs.length (xs.map S)) (hl : (Lib.join xs [32]).length ≤ 140737488355328) (hn : xs.length ≤ 140737488355328) :
    Calls Tryd.prog 28 #[.slice (some ⟨g, 0, none⟩) xs.length cap, S [32]] w fun e w' => e = .returned (S (Lib.join xs [32])) ∧ Below w.heap.size w w' := by
  have hlt := (World.ownsRow.lt hr g (by simp [Value.ownBlock])).2
  have hcap : xs.length ≤ cap ∧ cap ≤ maxLen := by
    obtain ⟨_, h2⟩ := hr
    rcases h2 with ⟨h2, _⟩ | ⟨g', cap', cur, hv, _, _, hc, hm, _⟩
    · cases h2
    · cases hv; exact ⟨hc, hm⟩
  have hmap : ((xs.map fun x => (⟨x.toArray⟩ : ByteArray)).map (·.data.toList)) = xs := by
    rw [List.map_map]; conv => rhs; rw [← List.map_id xs]
    apply List.map_congr_left; intro x _; rfl
  have hlen : (xs.map fun x => (⟨x.toArray⟩ : ByteArray)).length = xs.length := List.length_map _
  have := Tryd.strings_Join g 0 cap (xs.map fun x => (⟨x.toArray⟩ : ByteArray)) ⟨#[32]⟩ w (fun j x hj => by
    rw [List.getElem?_map] at hj
    cases hx : xs[j]? with
    | none => rw [hx] at hj; cases hj
    | some y =>
      rw [hx] at hj; cases hj
      have h1 := World.ownsRow.cells hr (g := g) rfl j (S y) (by rw [List.getElem?_map, hx]; rfl)
      rw [add_none] at h1
      exact h1) hlt (by rw [hlen]; exact hn) (by rw [hlen]; exact hcap.1) (by rw [hmap]; exact hl)
  rw [hlen] at this
  refine this.mono fun e w' ⟨he, hb⟩ => ⟨?_, hb⟩
  rw [he, hmap]
theorem dec_step {N n : Nat} {r : List UInt8} (h : decDigits N = decDigits n ++ r) (hn : ¬ n / 10 = 0) : decDigits N = decDigits (n / 10) ++ (UInt8.ofNat (48 + n % 10) :: r) := by
  rw [h]; conv => lhs; rw [decDigits]
  rw [dif_neg (by omega), List.append_assoc]; rfl
theorem dec_last {N n : Nat} {r : List UInt8} (h : decDigits N = decDigits n ++ r) (hn : n / 10 = 0) : decDigits N = UInt8.ofNat (48 + n % 10) :: r := by
  rw [h]; conv => lhs; rw [decDigits]
  rw [dif_pos (by omega), show n % 10 = n by omega]; rfl
theorem decLen : ∀ (n : Nat) (k : Nat), n < 10 ^ k → (decDigits n).length ≤ k + 1
  | n, 0, h => by rw [decDigits, dif_pos (by omega)]; simp
  | n, k + 1, h => by
    rw [decDigits]; split
    · simp
    · rw [List.length_append]
      have := decLen (n / 10) k (by rw [Nat.pow_succ] at h; omega)
      simp; omega
theorem decLen64 {n : Nat} (h : n < 18446744073709551616) : (decDigits n).length ≤ 21 := decLen n 20 (by rw [show (10 : Nat) ^ 20 = 100000000000000000000 by decide]; omega)
theorem itoa_nat (n : Nat) : itoa (n : Int) = decDigits n := by unfold Lib.itoa; rw [if_neg (by omega)]; simp
theorem ix_cases (l : List UInt8) : Lib.indexByte l 32 = -1 ∨ ∃ k : Nat, Lib.indexByte l 32 = k ∧ k < l.length := by
  have h := Lib.indexByte_ge l 32
  by_cases h1 : Lib.indexByte l 32 = -1
  · exact .inl h1
  · refine .inr ⟨(Lib.indexByte l 32).toNat, by omega, ?_⟩
    have h2 := Lib.index_room l [32] (by rw [Lib.index_one]; omega)
    rw [Lib.index_one] at h2
    simp at h2; omega
theorem add1 {k : Nat} (h : k ≤ 1000000) : Value.int .i64 (IntKind.i64.wrap (((k : Nat) : Int) + 1)) = .int .i64 ((k + 1 : Nat) : Int) := by
  rw [i64ok ⟨by omega, by omega⟩]; congr 1
theorem Hs.shift {M : List Nat} {w0 w w' : World} {L : List Res} (h : Hs M w0 w L) (hk : ∀ g ∈ fps L, w'.heap[g]? = w.heap[g]?) : Hs (fps L) w' w' L :=
  ⟨fun i r hi => Res.keep (h.ok i r hi) fun g hg => hk g (fps_mem i r hi g hg), h.ap, fun i r hi g hg => .inl (fps_mem i r hi g hg), Fr.refl _ _⟩
theorem pre_one {α : Type} {pre xs ys : List α} {x : α} (h : xs = pre ++ x :: ys) : pre ++ [x] <+: xs := ⟨ys, by rw [h]; simp⟩
end Go.Proofs.YtjbaabffilejeaaDoor
