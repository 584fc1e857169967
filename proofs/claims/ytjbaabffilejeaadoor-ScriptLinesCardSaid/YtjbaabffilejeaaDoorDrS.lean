/- What a script's functions call in the library. -/
import Derived.Test.YtjbaabffilejeaaDoorDrA
import Derived.Test.YtjbaabffilejeaaDoorScrP
import Derived.Lib.CountLaws
import Derived.Lib.SplitLaws
import Derived.Lib.SlicesS
import Derived.Lib.ItoaMem
import Derived.Test.YtjbaabffilejeaaDoorPxZ
namespace Go.Proofs.YtjbaabffilejeaaDoor
open Go Go.RowKit
set_option linter.unusedVariables false
set_option linter.unusedSimpArgs false
open Go.Lib (decDigits itoa)
structure EnvS (w : World) : Prop extends Env w where
  words : w.var? Tryd.prog "cuirass/script.words" = some #[S (wordB 0), S (wordB 1), S (wordB 2), S (wordB 3), S (wordB 4), S (wordB 5), S (wordB 6), S (wordB 7)]
  faults : w.var? Tryd.prog "cuirass/script.faults" = some #[S (faultB 0), S (faultB 1), S (faultB 2), S (faultB 3), S (faultB 4), S (faultB 5), S (faultB 6), S (faultB 7)]
  mx : ∃ m, w.cell? ⟨5, 0, none⟩ = some (.int .i64 m)
theorem EnvS.on {M : List Nat} {w0 w : World} {L : List Res} (E : EnvS w0) (hM : ∀ g ∈ M, 10 ≤ g) (H : Hs M w0 w L) : EnvS w := by
  have hk : ∀ g, g < 10 → w.heap[g]? = w0.heap[g]? := fun g hg => H.fr.block g (Nat.lt_of_lt_of_le hg E.size) fun hm => by have := hM g hm; omega
  refine ⟨E.toEnv.on hM H, (var_on (g := 1) (by kernel_rfl) (hk 1 (by decide))).trans E.words, (var_on (g := 0) (by kernel_rfl) (hk 0 (by decide))).trans E.faults, ?_⟩
  obtain ⟨m, hm⟩ := E.mx
  refine ⟨m, ?_⟩
  unfold World.cell? at hm ⊢
  rw [hk 5 (by decide)]; exact hm
theorem EnvS.m {M : List Nat} {w0 w : World} {A B : List Res} (E : EnvS w0) (hM : ∀ g ∈ M, 10 ≤ g) (H : Hs M w0 w (A ++ B)) : ∀ g ∈ fps A, 10 ≤ g := E.toEnv.m hM H
theorem EnvS.word {w : World} (E : EnvS w) (i : Nat) (h : i < 8) : w.cell? ⟨1, i, none⟩ = some (S (wordB i)) := by
  rw [World.var?_cell (g := 1) (by kernel_rfl) E.words i]
  have : i = 0 ∨ i = 1 ∨ i = 2 ∨ i = 3 ∨ i = 4 ∨ i = 5 ∨ i = 6 ∨ i = 7 := by omega
  rcases this with rfl | rfl | rfl | rfl | rfl | rfl | rfl | rfl <;> rfl
theorem EnvS.fault {w : World} (E : EnvS w) (i : Nat) (h : i < 8) : w.cell? ⟨0, i, none⟩ = some (S (faultB i)) := by
  rw [World.var?_cell (g := 0) (by kernel_rfl) E.faults i]
  have : i = 0 ∨ i = 1 ∨ i = 2 ∨ i = 3 ∨ i = 4 ∨ i = 5 ∨ i = 6 ∨ i = 7 := by omega
  rcases this with rfl | rfl | rfl | rfl | rfl | rfl | rfl | rfl <;> rfl
theorem baEq (a b : List UInt8) : ((⟨a.toArray⟩ : ByteArray) = ⟨b.toArray⟩) ↔ b = a := by
  constructor
  · intro h; have := congrArg (fun z : ByteArray => z.data.toList) h; simpa using this.symm
  · intro h; rw [h]
theorem idxS (f : Nat → List UInt8) (x : List UInt8) : Lib.idxOfS [⟨(f 1).toArray⟩, ⟨(f 2).toArray⟩, ⟨(f 3).toArray⟩, ⟨(f 4).toArray⟩, ⟨(f 5).toArray⟩, ⟨(f 6).toArray⟩, ⟨(f 7).toArray⟩] ⟨x.toArray⟩ =
    (((if x = f 1 then 1 else if x = f 2 then 2 else if x = f 3 then 3 else if x = f 4 then 4 else if x = f 5 then 5 else if x = f 6 then 6 else if x = f 7 then 7 else 0 : Nat) : Nat) : Int) - 1 := by
  simp only [Lib.idxOfS, Lib.idxFromS, baEq]
  split
  · rfl
  split
  · rfl
  split
  · rfl
  split
  · rfl
  split
  · rfl
  split
  · rfl
  split
  · rfl
  · rfl
theorem WIx_of (x : List UInt8) {w : World} (E : EnvS w) : Calls Tryd.prog 42 #[.slice (some ⟨1, 1, none⟩) 7 7, S x] w fun e w' => e = .returned (.int .i64 (((wIx x : Nat) : Int) - 1)) ∧ Below w.heap.size w w' := by
  refine (Tryd.slices_Index_string 1 1 7 7 [⟨(wordB 1).toArray⟩, ⟨(wordB 2).toArray⟩, ⟨(wordB 3).toArray⟩, ⟨(wordB 4).toArray⟩, ⟨(wordB 5).toArray⟩, ⟨(wordB 6).toArray⟩, ⟨(wordB 7).toArray⟩] ⟨x.toArray⟩ w (by decide) (by decide) (fun j hj => ?_)).mono fun e w' ⟨he, hw⟩ => ⟨?_, hw ▸ Below.refl _ _⟩
  · have hj' : j < 7 := hj
    rw [E.word (1 + j) (by omega)]
    have : j = 0 ∨ j = 1 ∨ j = 2 ∨ j = 3 ∨ j = 4 ∨ j = 5 ∨ j = 6 := by omega
    rcases this with rfl | rfl | rfl | rfl | rfl | rfl | rfl <;> rfl
  · rw [he, List.take_of_length_le (by decide), idxS wordB x]; rfl
theorem FIx_of (x : List UInt8) {w : World} (E : EnvS w) : Calls Tryd.prog 42 #[.slice (some ⟨0, 1, none⟩) 7 7, S x] w fun e w' => e = .returned (.int .i64 (((fIx x : Nat) : Int) - 1)) ∧ Below w.heap.size w w' := by
  refine (Tryd.slices_Index_string 0 1 7 7 [⟨(faultB 1).toArray⟩, ⟨(faultB 2).toArray⟩, ⟨(faultB 3).toArray⟩, ⟨(faultB 4).toArray⟩, ⟨(faultB 5).toArray⟩, ⟨(faultB 6).toArray⟩, ⟨(faultB 7).toArray⟩] ⟨x.toArray⟩ w (by decide) (by decide) (fun j hj => ?_)).mono fun e w' ⟨he, hw⟩ => ⟨?_, hw ▸ Below.refl _ _⟩
  · have hj' : j < 7 := hj
    rw [E.fault (1 + j) (by omega)]
    have : j = 0 ∨ j = 1 ∨ j = 2 ∨ j = 3 ∨ j = 4 ∨ j = 5 ∨ j = 6 := by omega
    rcases this with rfl | rfl | rfl | rfl | rfl | rfl | rfl <;> rfl
  · rw [he, List.take_of_length_le (by decide), idxS faultB x]; rfl
theorem splitW : ∀ (k : Nat) (s : List UInt8), Lib.countB ⟨s.toArray⟩ ⟨#[32]⟩ = k → (Lib.splitB ⟨#[32]⟩ 0 k ⟨s.toArray⟩).map Value.string = (words s).map S
  | k, s, h => by
    have e1 : Lib.indexB ⟨s.toArray⟩ ⟨#[32]⟩ = Lib.indexByte s 32 := Lib.index_one s 32
    rcases ix_cases s with hm | ⟨i, hi, hil⟩
    · have hc := Lib.countB_miss ⟨s.toArray⟩ ⟨#[32]⟩ (e1.trans hm)
      rw [hc] at h; subst h
      rw [words_miss hm]; rfl
    · have hs : (⟨s.toArray⟩ : ByteArray).size = s.length := rfl
      have hx : (⟨s.toArray⟩ : ByteArray).extract (i + (⟨#[32]⟩ : ByteArray).size) (⟨s.toArray⟩ : ByteArray).size = ⟨(s.drop (i + 1)).toArray⟩ := by
        rw [ByteArray.extract_mk]; congr 1; rw [List.take_of_length_le]
        · rfl
        · rw [List.length_drop, hs]; exact Nat.le_refl _
      have hc := Lib.countB_hit ⟨s.toArray⟩ ⟨#[32]⟩ i (by decide) (e1.trans hi)
      rw [hx] at hc
      cases k with
      | zero => omega
      | succ k =>
        rw [Lib.splitB_hit _ _ _ _ i (e1.trans hi), hx, List.map_cons, splitW k (s.drop (i + 1)) (by omega), words_hit hi, List.map_cons]
        congr 1
        show Value.string _ = S _
        rw [ByteArray.extract_mk]; simp [S]
  termination_by k => k
theorem splitN (s : List UInt8) : Lib.countB ⟨s.toArray⟩ ⟨#[32]⟩ + 1 = (words s).length := by
  have h := congrArg List.length (splitW _ s rfl)
  rw [List.length_map, List.length_map, Lib.splitB_all _ (by decide) 0 _ _ rfl] at h
  exact h
theorem Split_of (l : List UInt8) (hl : l.length ≤ 100000) {w : World} (E : EnvS w) : Calls Tryd.prog 41 #[S l, S [32]] w fun e w' => ∃ g, e = .returned (.slice (some ⟨g, 0, none⟩) (words l).length (words l).length) ∧ Hs [] w w' [.row (.slice (some ⟨g, 0, none⟩) (words l).length (words l).length) 9 1 (words l).length ((words l).map S)] := by
  obtain ⟨m, hm⟩ := E.mx
  have hs : (⟨l.toArray⟩ : ByteArray).size = l.length := rfl
  refine (Tryd.strings_Split ⟨l.toArray⟩ ⟨#[32]⟩ m w (by rw [hs]; omega) hm (by decide)).mono fun e w' ⟨he, hw⟩ => ⟨w.heap.size, ?_, ?_⟩
  · rw [he, splitN]
  · rw [hw, splitW _ l rfl]
    have hwl := words_len l
    exact (Hs.nil w).allocRow _ _ _ _ 1 _ (by rw [Nat.mul_one]; exact List.take_of_length_le (by simp)) (by simp) (Nat.le_refl _) (by unfold maxLen; omega)
theorem PUint_of (l : List UInt8) (hl : l.length ≤ 281474976710656) {w : World} (E : EnvS w) :
    Calls Tryd.prog 45 #[S l, .int .i64 10, .int .i64 64] w fun e w' => ∃ ev, e = .returned (.tuple #[.int .u64 ((uintV l : Nat) : Int), ev]) ∧ Below w.heap.size w w' := by
  have hs : (⟨l.toArray⟩ : ByteArray).size = l.length := rfl
  have hd : (⟨l.toArray⟩ : ByteArray).data.toList = l := rfl
  unfold uintV
  cases h : Lib.parseUintB 64 l
  · rename_i v
    refine (Tryd.strconv_ParseUint_10_at64_ok ⟨l.toArray⟩ (by rw [hs]; omega) v (by rw [hd]; exact h) w).mono fun e w' ⟨he, hw⟩ => ⟨_, he, ?_⟩
    rcases hw with rfl | rfl
    · exact Below.refl _ _
    · exact Lib.bytesWorld_below _ _ _
  · obtain ⟨tp, pv, hv⟩ := E.syn
    exact (Any.strconv_ParseUint_10_at64_syntax_var Tryd.laysPu14 ⟨l.toArray⟩ (by rw [hs]; omega) (by rw [hd]; exact h) tp pv w hv).mono fun e w' ⟨N, he, _, _, hb⟩ => ⟨_, he, hb⟩
  · obtain ⟨tp, pv, hv⟩ := E.rng
    exact (Tryd.strconv_ParseUint_10_at64_range_var ⟨l.toArray⟩ (by rw [hs]; omega) (by rw [hd]; exact h) tp pv w hv).mono fun e w' ⟨N, he, _, _, hb⟩ => ⟨_, he, hb⟩
/-! ### FormatUint -/
theorem heap_put (w : World) (g : Nat) (f : Array Value → Array Value) {cs : Array Value} {t : TypeId} {fr : Nat × Nat} (h : w.heap[g]? = some (.cells cs t fr)) : (Sort.mapBlock w g f).heap[g]? = some (.cells (f cs) t fr) := by
  simp [Sort.mapBlock, Array.getElem?_modify, h, Sort.onCells]
theorem heap_put_ne (w : World) (g k : Nat) (f : Array Value → Array Value) (h : k ≠ g) : (Sort.mapBlock w g f).heap[k]? = w.heap[k]? := by
  simp [Sort.mapBlock, Array.getElem?_modify, Ne.symm h]
theorem fmt_of {g u : Nat} (h1 : 1 ≤ u) (h2 : u < 18446744073709551616) {w : World} (hw : w.heap[g]? = some (.cells Lib.zeros24 127 (0, 0))) :
    Calls Tryd.prog 81 #[.slice (some ⟨g, 0, none⟩) (decDigits u).length 24, .int .u64 ((u : Nat) : Int)] w fun e w' => ∃ cs, e = .returned (.tuple #[]) ∧ cs.toList.take (decDigits u).length = (decDigits u).map (fun b => Value.int .u8 ((b.toNat : Nat) : Int)) ∧ Hs [g] w w' [.blk g cs 127] := by
  have hn := Lib.decDigits_length u
  have h20 : Lib.nDigits u ≤ 20 := by have := Lib.numDigits_eq u h1 h2; split at this <;> omega
  have hH : Sort.Holds (fun (b : UInt8) => Value.int .u8 (b.toNat : Int)) w g 0 (Array.replicate (Lib.nDigits u) (0 : UInt8)) := fun j hj => by
    have hj' : j < Lib.nDigits u := by simpa using hj
    have hc : w.cell? ⟨g, 0 + j, none⟩ = some (.int .u8 0) := cellOf hw (by rw [Nat.zero_add]; exact Lib.zeros24_at j (by omega))
    refine ⟨?_, ?_⟩
    · rw [hc, getElem!_pos _ j hj]; simp
    · simp [World.frozen?, hw]
  have c := Tryd.internal_strconv_formatBase10 g 0 24 u (Array.replicate (Lib.nDigits u) 0) w hH (by rw [Array.size_replicate]; exact Lib.lt_pow_nDigits u) h2 (by rw [Array.size_replicate]; omega)
  rw [Array.size_replicate, ← hn] at c
  refine c.mono fun e w' ⟨he, n, v', dk, hw', hF⟩ => ⟨Sort.putCells (fun (b : UInt8) => Value.int .u8 (b.toNat : Int)) 0 dk Lib.zeros24, he, ?_, ?_⟩
  rotate_left
  · subst hw'
    refine ⟨fun i r hi => ?_, fun i j r s hne hi hj => ?_, fun i r hi => ?_, ⟨rfl, rfl, rfl, by show _ ≤ (Sort.putRow _ _ _ _ _).heap.size; simp, fun k hk hkn => ?_⟩⟩
    · match i, hi with
      | 0, hi => cases hi; exact heap_put w g _ hw
      | i + 1, hi => simp at hi
    · match i, j, hi, hj with
      | 0, 0, _, _ => exact absurd rfl hne
      | i + 1, _, hi, _ => simp at hi
      | 0, j + 1, _, hj => simp at hj
    · match i, hi with
      | 0, hi => cases hi; intro g' hg; exact .inl hg
      | i + 1, hi => simp at hi
    · exact heap_put_ne w g k _ (fun e => hkn (by simp [e]))
  · apply List.ext_getElem?
    intro j
    rw [hn] at hF
    have hsz := hF.size
    by_cases hj : j < (decDigits u).length
    · rw [List.getElem?_take, if_pos hj, List.getElem?_map, List.getElem?_eq_getElem hj, Option.map_some, Lib.row_is_numeral hF j hj]
      rw [Array.getElem?_toList]
      have h24 : j < 24 := by omega
      have hjd : j < dk.size := by omega
      simp only [Sort.putCells, Array.getElem?_mapIdx, Lib.zeros24_at j h24, Option.map_some, Nat.zero_le, true_and, Nat.zero_add, hjd, if_true, Nat.sub_zero]
    · rw [List.getElem?_take, if_neg hj, List.getElem?_map, List.getElem?_eq_none (by omega)]; rfl
end Go.Proofs.YtjbaabffilejeaaDoor
