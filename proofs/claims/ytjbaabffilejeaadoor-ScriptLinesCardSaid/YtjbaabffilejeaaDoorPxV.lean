/- Unsigned numbers, ranges over a text, slices of arrays. -/
import Derived.Test.YtjbaabffilejeaaDoorPxU
import Derived.Laws.RangeAny
import Derived.Lib.OthersKept
namespace Go.Proofs.YtjbaabffilejeaaDoor
open Go Go.RowKit
set_option linter.unusedVariables false
theorem u8ok {x : Int} (h0 : 0 ≤ x) (h1 : x ≤ 255) : IntKind.u8.wrap x = x := by
  unfold IntKind.wrap
  simp only [IntKind.bits, IntKind.signed, Bool.false_and, Bool.false_eq_true, if_false]
  omega
theorem u64ok {x : Int} (h0 : 0 ≤ x) (h1 : x ≤ 18446744073709551615) : IntKind.u64.wrap x = x := by rw [IntKind.wrap_u64]; omega
theorem e_i64 {x : Int} (h0 : -9223372036854775808 ≤ x) (h1 : x ≤ 9223372036854775807) : Value.int .i64 (IntKind.i64.wrap x) = .int .i64 x := by rw [i64ok ⟨h0, h1⟩]
theorem e_u64 {x : Int} (h0 : 0 ≤ x) (h1 : x ≤ 18446744073709551615) : Value.int .u64 (IntKind.u64.wrap x) = .int .u64 x := by rw [u64ok h0 h1]
theorem u_rem (x y : Nat) : Value.int .u64 (((x : Nat) : Int).tmod ((y : Nat) : Int)) = .int .u64 ((x % y : Nat) : Int) := by rw [Int.tmod_eq_emod_of_nonneg (by omega)]; rfl
theorem u_quo (x y : Nat) (hx : x < 18446744073709551616) : Value.int .u64 (IntKind.u64.wrap (((x : Nat) : Int).tdiv ((y : Nat) : Int))) = .int .u64 ((x / y : Nat) : Int) := by
  rw [Int.tdiv_eq_ediv_of_nonneg (by omega)]
  have h := Nat.div_le_self x y
  have e : ((x : Nat) : Int) / ((y : Nat) : Int) = ((x / y : Nat) : Int) := rfl
  rw [e, u64ok (Int.natCast_nonneg _) (by omega)]
theorem b_shr (x : Nat) : Value.int .u8 (((x : Nat) : Int).fdiv (2 ^ 4)) = .int .u8 ((x / 16 : Nat) : Int) := by
  rw [Int.fdiv_eq_ediv_of_nonneg _ (by decide)]; rfl
theorem b_shl (x : Nat) (h : x < 16) : Value.int .u8 (IntKind.u8.wrap (((x : Nat) : Int) * 2 ^ 4)) = .int .u8 ((x * 16 : Nat) : Int) := by
  rw [show ((x : Nat) : Int) * 2 ^ 4 = ((x * 16 : Nat) : Int) by omega, u8ok (by omega) (by omega)]
theorem b_and (x : Nat) (h : x < 256) : Value.int .u8 (bits .and .u8 ((x : Nat) : Int) 15) = .int .u8 ((x % 16 : Nat) : Int) := by
  have key : ∀ y : Fin 256, bits .and .u8 ((y.1 : Nat) : Int) 15 = ((y.1 % 16 : Nat) : Int) := by decide +kernel
  rw [key ⟨x, h⟩]
theorem b_or (x y : Nat) (hx : x < 16) (hy : y < 16) : Value.int .u8 (bits .or .u8 ((x * 16 : Nat) : Int) ((y : Nat) : Int)) = .int .u8 ((x * 16 + y : Nat) : Int) := by
  have key : ∀ a : Fin 16, ∀ b : Fin 16, bits .or .u8 ((a.1 * 16 : Nat) : Int) ((b.1 : Nat) : Int) = ((a.1 * 16 + b.1 : Nat) : Int) := by decide +kernel
  rw [key ⟨x, hx⟩ ⟨y, hy⟩]
section
variable {ρ : Option Nat} {P : Program} {ops : Array Oper} {Q : Exit → Act → World → Prop} {a : Act} {w w0 w' : World} {o : Oper} {rest : List Oper} {M : List Nat} {L : List Res}
/-- A text's byte, at a place told by a byte. -/
theorem strIxB {t : TypeId} {l : List UInt8} {k : Nat} (ht : P.underlying t = some .string) (hk : k < l.length) :
    ((Instr.index t (S l) (.int .u8 ((k : Nat) : Int))) >>= fun v => pure (Next.value v)).run P w = .ok (.value (.int .u8 (((l.getD k 0).toNat : Nat) : Int))) w := by
  have hs : (⟨l.toArray⟩ : ByteArray).size = l.length := rfl
  have he : (⟨l.toArray⟩ : ByteArray)[k]? = some (l.getD k 0) := by
    rw [ByteArray.getElem?_lt' _ _ (by rw [hs]; exact hk)]
    congr 1
    show l.toArray[k] = _
    simp [List.getD, hk]
  simp [Instr.index, asIntOf, run_underlying ht, Result.andThen, he, Sem.run_bind]
/-- The first bytes of an array, as a slice. -/
theorem slcA {t e : TypeId} {g h n : Nat} (ht : P.underlying t = some (.array n e)) (hs : (P.info? e).map (·.size) = some 1) (hh : h ≤ n) :
    ((Instr.sliceAt t (.pointer (some ⟨g, 0, none⟩)) none (some (.int .i64 ((h : Nat) : Int))) none) >>= fun v => pure (Next.value v)).run P w = .ok (.value (.slice (some ⟨g, 0, none⟩) h n)) w := by
  have hal : P.arrayLen t = n := by simp [Program.arrayLen, ht]
  have hel : P.elem t = e := by simp [Program.elem, ht]
  rw [Sem.run_bind, run_sliceAt_array_h (ht := by rw [hal, hel]; exact ht) (h0 := by omega) (h2 := by rw [hal]; omega), hel, run_sz hs, Result.andThen_ok, hal, Int.toNat_natCast]
  simp [slicedAt, add_none, Result.andThen]
/-- The address of an array's byte. -/
theorem adrA {t e : TypeId} {g k n : Nat} (ht : P.underlying t = some (.array n e)) (hs : (P.info? e).map (·.size) = some 1) (hk : k < n) :
    ((Instr.indexAt t (.pointer (some ⟨g, 0, none⟩)) (.int .i64 ((k : Nat) : Int))) >>= fun v => pure (Next.value v)).run P w = .ok (.value (.pointer (some ⟨g, k, none⟩))) w := by
  have hal : P.arrayLen t = n := by simp [Program.arrayLen, ht]
  have hel : P.elem t = e := by simp [Program.elem, ht]
  rw [Sem.run_bind, run_indexAt_array (h := by rw [hal, hel]; exact ht), hal, if_pos ⟨by omega, by omega⟩, hel, run_sz hs]
  simp [Result.andThen, add_none]
theorem strPre (H : Hs M w0 w L) (i : Nat) {src dst e : TypeId} {g : Nat} {cs : Array Value} {ty : TypeId} (l : List UInt8) (cap : Nat) (hi : L[i]? = some (.blk g cs ty)) (hc : cs.toList.take l.length = l.map fun b => Value.int .u8 ((b.toNat : Nat) : Int))
    (hs : P.underlying src = some (.slice e)) (he : P.underlying e = some (.int .u8)) (hd : P.underlying dst = some .string) :
    ((convert src dst (.slice (some ⟨g, 0, none⟩) l.length cap)) >>= fun v => pure (Next.value v)).run P w = .ok (.value (S l)) w := by
  rw [Sem.run_bind, run_convert_bytes_back w src dst e ⟨g, 0, none⟩ cap l hs he hd (fun j hj => by
    rw [add_none]
    refine cellOf (H.blk i hi) ?_
    have h1 : (cs.toList.take l.length)[j]? = some (.int .u8 ((l[j].toNat : Nat) : Int)) := by rw [hc, List.getElem?_map, List.getElem?_eq_getElem hj]; rfl
    rw [List.getElem?_take, if_pos hj] at h1
    rw [Nat.zero_add, ← Array.getElem?_toList]; exact h1)]
  rfl
/-- The bytes of an owned row, as a text. -/
theorem strRow (H : Hs M w0 w L) (i : Nat) {src dst e : TypeId} {g cap : Nat} {ty : TypeId} (l : List UInt8) (hi : L[i]? = some (.row (.slice (some ⟨g, 0, none⟩) l.length cap) ty 1 l.length (l.map fun b => Value.int .u8 ((b.toNat : Nat) : Int))))
    (hs : P.underlying src = some (.slice e)) (he : P.underlying e = some (.int .u8)) (hd : P.underlying dst = some .string) :
    ((convert src dst (.slice (some ⟨g, 0, none⟩) l.length cap)) >>= fun v => pure (Next.value v)).run P w = .ok (.value (S l)) w := by
  rw [Sem.run_bind, run_convert_bytes_back w src dst e ⟨g, 0, none⟩ cap l hs he hd (fun j hj => by
    rw [add_none, Nat.zero_add]
    exact H.rowCell i hi j (by rw [List.getElem?_map, List.getElem?_eq_getElem hj]; rfl))]
  rfl
/-- A range over a text begins. -/
theorem x_rangeS (H : Hs M w0 w L) (l : List UInt8) (hw : Region.wanted o (yielded ops a.tmps) = true) (hd : opNd o = true) {t : TypeId} (ht : P.underlying t = some .string)
    (h : (execOp a.eval o).run P w = ((Instr.range t (S l)) >>= fun v => pure (Next.value v)).run P w)
    (k : ∀ w' g, Hs M w0 w' (.obj g (.stringIter ⟨l.toArray⟩ 0) :: L) → XL ρ P ops Q rest (a.put o.dst (.pointer (some ⟨g, 0, none⟩))) w') : XL ρ P ops Q (o :: rest) a w := by
  refine x_run hw hd (v := .pointer (some ⟨w.heap.size, 0, none⟩)) (w' := w.iter ⟨l.toArray⟩ 0) ?_ (k _ _ ?_)
  · rw [h, Sem.run_bind, run_range_string w t _ ht]; rfl
  · exact H.add (World.iter_heap w _ 0) (by simp [Res.fp]) rfl rfl rfl (by show _ ≤ (w.heap.push _).size; simp) fun k hk => by show (w.heap.push _)[k]? = _; rw [Array.getElem?_push, if_neg (by omega)]
/-- .. goes on; an ASCII byte comes .. -/
theorem x_nextA (H : Hs M w0 w L) (i g : Nat) (l : List UInt8) (p : Nat) (ty : TypeId) (hi : L[i]? = some (.obj g (.stringIter ⟨l.toArray⟩ p))) (hp : p < l.length) (ha : (l.getD p 0).toNat < 128) (L' : List Res) (hL : L.set i (.obj g (.stringIter ⟨l.toArray⟩ (p + 1))) = L')
    (hw : Region.wanted o (yielded ops a.tmps) = true) (hd : opNd o = true) (h : (execOp a.eval o).run P w = ((Instr.next (.pointer (some ⟨g, 0, none⟩)) true ty) >>= fun v => pure (Next.value v)).run P w)
    (k : ∀ w', Hs M w0 w' L' → XL ρ P ops Q rest (a.put o.dst (.tuple #[.bool true, .int .i64 ((p : Nat) : Int), .int .i32 (((l.getD p 0).toNat : Nat) : Int)])) w') : XL ρ P ops Q (o :: rest) a w := by
  have hb : w.heap[g]? = some (.stringIter ⟨l.toArray⟩ p) := H.ok i _ hi
  have hs : p < (⟨l.toArray⟩ : ByteArray).size := hp
  have e : (⟨l.toArray⟩ : ByteArray)[p]'hs = l.getD p 0 := by
    show l.toArray[p] = _
    simp [List.getD, hp]
  refine x_run hw hd (w' := w.iterAt g ⟨l.toArray⟩ (p + 1)) ?_ (k _ ?_)
  · rw [h, Sem.run_bind, Lib.run_next_ascii_at w g _ p ty hb hs (by rw [e]; exact ha), e]; rfl
  · rw [← hL]
    exact H.upd i hi (r' := .obj g _) (Lib.iterAt_heap w g _ p _ hb) (fun g' hg => .inl hg) rfl rfl rfl (by simp [World.iterAt]) fun k _ hk => by
      have hne : k ≠ g := fun e => hk (by simp [Res.fp, e])
      simp [World.iterAt, Array.getElem?_setIfInBounds_ne (Ne.symm hne)]
/-- .. another byte comes .. -/
theorem x_nextH (H : Hs M w0 w L) (i g : Nat) (l : List UInt8) (p : Nat) (ty : TypeId) (hi : L[i]? = some (.obj g (.stringIter ⟨l.toArray⟩ p))) (hp : p < l.length) (ha : 128 ≤ (l.getD p 0).toNat)
    (hw : Region.wanted o (yielded ops a.tmps) = true) (hd : opNd o = true) (h : (execOp a.eval o).run P w = ((Instr.next (.pointer (some ⟨g, 0, none⟩)) true ty) >>= fun v => pure (Next.value v)).run P w)
    (k : ∀ w' c q, 128 ≤ c → c ≤ 2147483647 → Hs M w0 w' (L.set i (.obj g (.stringIter ⟨l.toArray⟩ q))) → XL ρ P ops Q rest (a.put o.dst (.tuple #[.bool true, .int .i64 ((p : Nat) : Int), .int .i32 ((c : Nat) : Int)])) w') : XL ρ P ops Q (o :: rest) a w := by
  have hb : w.heap[g]? = some (.stringIter ⟨l.toArray⟩ p) := H.ok i _ hi
  have hs : p < (⟨l.toArray⟩ : ByteArray).size := hp
  have e : (⟨l.toArray⟩ : ByteArray)[p]'hs = l.getD p 0 := by
    show l.toArray[p] = _
    simp [List.getD, hp]
  refine x_run hw hd (w' := w.iterAt g ⟨l.toArray⟩ (p + (Utf8.decode ⟨l.toArray⟩ p).2)) ?_ (k _ (Utf8.decode ⟨l.toArray⟩ p).1 (p + (Utf8.decode ⟨l.toArray⟩ p).2) (decode_high _ p hs (by rw [e]; exact ha)).1 (decode_le _ p) ?_)
  · rw [h, Sem.run_bind, Lib.run_next_any_at w g _ p ty hb hs]; rfl
  · exact H.upd i hi (r' := .obj g _) (Lib.iterAt_heap w g _ p _ hb) (fun g' hg => .inl hg) rfl rfl rfl (by simp [World.iterAt]) fun k _ hk => by
      have hne : k ≠ g := fun e => hk (by simp [Res.fp, e])
      simp [World.iterAt, Array.getElem?_setIfInBounds_ne (Ne.symm hne)]
/-- .. and it ends. -/
theorem x_nextE (H : Hs M w0 w L) (i g : Nat) (l : List UInt8) (p : Nat) (ty : TypeId) (hi : L[i]? = some (.obj g (.stringIter ⟨l.toArray⟩ p))) (hp : ¬ p < l.length)
    (hw : Region.wanted o (yielded ops a.tmps) = true) (hd : opNd o = true) (h : (execOp a.eval o).run P w = ((Instr.next (.pointer (some ⟨g, 0, none⟩)) true ty) >>= fun v => pure (Next.value v)).run P w)
    (k : XL ρ P ops Q rest (a.put o.dst (.tuple #[.bool false])) w) : XL ρ P ops Q (o :: rest) a w := by
  have hb : w.heap[g]? = some (.stringIter ⟨l.toArray⟩ p) := H.ok i _ hi
  refine x_run hw hd (w' := w) ?_ k
  rw [h, Sem.run_bind, Lib.run_next_end_at w g _ p ty hb hp]; rfl
end
end Go.Proofs.YtjbaabffilejeaaDoor
