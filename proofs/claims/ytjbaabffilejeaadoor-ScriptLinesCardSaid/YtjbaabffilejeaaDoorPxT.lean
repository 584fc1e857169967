/- Operations on texts: strings told as lists of bytes. -/
import Derived.Test.YtjbaabffilejeaaDoorPxZ
import Derived.Laws.DeepStrings4
import Derived.Laws.Strings3
import Derived.Laws.IdiomStrings
namespace Go.Proofs.YtjbaabffilejeaaDoor
open Go Go.RowKit
set_option linter.unusedVariables false
/-- A text of these bytes. -/
abbrev S (l : List UInt8) : Value := .string ⟨l.toArray⟩
section
variable {P : Program} {w : World}
theorem strEq (x y : List UInt8) : Value.bool (ByteArray.toList ⟨x.toArray⟩ == ByteArray.toList ⟨y.toArray⟩) = .bool (decide (x = y)) := by
  rw [ByteArray.toList_mk, ByteArray.toList_mk, show (x == y) = decide (x = y) from Bool.eq_iff_iff.2 (by simp)]
theorem strNe (x y : List UInt8) : Value.bool (!(ByteArray.toList ⟨x.toArray⟩ == ByteArray.toList ⟨y.toArray⟩)) = .bool (!(decide (x = y))) := by
  rw [ByteArray.toList_mk, ByteArray.toList_mk, show (x == y) = decide (x = y) from Bool.eq_iff_iff.2 (by simp)]
theorem strTo {t : TypeId} {l : List UInt8} {h : Nat} (ht : P.underlying t = some .string) (hh : h ≤ l.length) :
    ((Instr.sliceAt t (S l) none (some (.int .i64 ((h : Nat) : Int))) none) >>= fun v => pure (Next.value v)).run P w = .ok (.value (S (l.take h))) w := by
  have hs : (⟨l.toArray⟩ : ByteArray).size = l.length := rfl
  rw [Sem.run_bind, run_sliceAt_string (h := ht), run_slice_string_to_if (h := ht), if_pos ⟨by omega, by rw [hs]; omega⟩, Int.toNat_natCast, ByteArray.extract_mk]
  simp [Result.andThen, S]
theorem strFrom {t : TypeId} {l : List UInt8} {k : Nat} (ht : P.underlying t = some .string) (hh : k ≤ l.length) :
    ((Instr.sliceAt t (S l) (some (.int .i64 ((k : Nat) : Int))) none none) >>= fun v => pure (Next.value v)).run P w = .ok (.value (S (l.drop k))) w := by
  have hs : (⟨l.toArray⟩ : ByteArray).size = l.length := rfl
  rw [Sem.run_bind, run_sliceAt_string (h := ht), run_slice_string_from_if (h := ht), if_pos ⟨by omega, by rw [hs]; omega⟩, Int.toNat_natCast, hs, ByteArray.extract_mk]
  simp [Result.andThen, S, List.take_of_length_le]
theorem strFT {t : TypeId} {l : List UInt8} {k h : Nat} (ht : P.underlying t = some .string) (hk : k ≤ h) (hh : h ≤ l.length) :
    ((Instr.sliceAt t (S l) (some (.int .i64 ((k : Nat) : Int))) (some (.int .i64 ((h : Nat) : Int))) none) >>= fun v => pure (Next.value v)).run P w = .ok (.value (S ((l.drop k).take (h - k)))) w := by
  have hs : (⟨l.toArray⟩ : ByteArray).size = l.length := rfl
  rw [Sem.run_bind, run_sliceAt_string (h := ht), run_slice_string_if (h := ht), if_pos ⟨by omega, by rw [hs]; omega⟩, if_pos ⟨by omega, by omega⟩, Int.toNat_natCast, Int.toNat_natCast, ByteArray.extract_mk]
  simp [Result.andThen, S]
theorem strAdd {t : TypeId} {a b : List UInt8} (hl : a.length + b.length ≤ 4611686018427387904) :
    ((binOp .add t (S a) (S b)) >>= fun v => pure (Next.value v)).run P w = .ok (.value (S (a ++ b))) w := by
  have h1 : (⟨a.toArray⟩ : ByteArray).size = a.length := rfl
  have h2 : (⟨b.toArray⟩ : ByteArray).size = b.length := rfl
  have h3 : IntKind.i64.max = 9223372036854775807 := rfl
  have h4 : (⟨a.toArray⟩ ++ ⟨b.toArray⟩ : ByteArray) = ⟨(a ++ b).toArray⟩ := by
    apply ByteArray.ext; simp
  rw [Sem.run_bind, binOp_string_add]
  unfold Op.stringOp
  dsimp only
  rw [if_neg (by rw [h1, h2, h3]; omega), h4]
  rfl
theorem strIx {t : TypeId} {l : List UInt8} {k : Nat} (ht : P.underlying t = some .string) (hk : k < l.length) :
    ((Instr.index t (S l) (.int .i64 ((k : Nat) : Int))) >>= fun v => pure (Next.value v)).run P w = .ok (.value (.int .u8 (((l.getD k 0).toNat : Nat) : Int))) w := by
  have hs : (⟨l.toArray⟩ : ByteArray).size = l.length := rfl
  have he : (⟨l.toArray⟩ : ByteArray)[k]? = some (l.getD k 0) := by
    rw [ByteArray.getElem?_lt' _ _ (by rw [hs]; exact hk)]
    congr 1
    show l.toArray[k] = _
    simp [List.getD, hk]
  simp [Instr.index, asIntOf, run_underlying ht, Result.andThen, he, Sem.run_bind]
theorem e_u8 {x : Int} (h0 : 0 ≤ x) (h1 : x ≤ 255) : Value.int .u8 (IntKind.u8.wrap x) = .int .u8 x := by
  have : IntKind.u8.wrap x = x := by
    unfold IntKind.wrap
    simp only [IntKind.bits, IntKind.signed, Bool.false_and, Bool.false_eq_true, if_false]
    omega
  rw [this]
theorem strBytes {M : List Nat} {w0 : World} {L : List Res} (H : Hs M w0 w L) (i : Nat) {src dst e : TypeId} {g : Nat} {cs : Array Value} {ty : TypeId} (l : List UInt8) (cap : Nat) (hi : L[i]? = some (.blk g cs ty)) (hc : cs.toList = l.map fun b => Value.int .u8 ((b.toNat : Nat) : Int))
    (hs : P.underlying src = some (.slice e)) (he : P.underlying e = some (.int .u8)) (hd : P.underlying dst = some .string) :
    ((convert src dst (.slice (some ⟨g, 0, none⟩) l.length cap)) >>= fun v => pure (Next.value v)).run P w = .ok (.value (S l)) w := by
  rw [Sem.run_bind, run_convert_bytes_back w src dst e ⟨g, 0, none⟩ cap l hs he hd (fun j hj => by
    rw [add_none]
    refine cellOf (H.blk i hi) ?_
    rw [← Array.getElem?_toList, hc, List.getElem?_map, Nat.zero_add, List.getElem?_eq_getElem hj]; rfl)]
  rfl
theorem hsAs {M : List Nat} {w0 w : World} {L L2 : List Res} (H : Hs M w0 w L) (e : L = L2) : Hs M w0 w L2 := e ▸ H
theorem byteOf {d : Nat} (h : d < 256) : ((UInt8.ofNat d).toNat : Int) = ((d : Nat) : Int) := by rw [UInt8.toNat_ofNat']; omega
end
end Go.Proofs.YtjbaabffilejeaaDoor
