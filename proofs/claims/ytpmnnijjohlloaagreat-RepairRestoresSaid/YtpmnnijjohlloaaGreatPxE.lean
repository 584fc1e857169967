/- Elements of more than one cell: made, stored into in part, read in part. -/
import Derived.Test.YtpmnnijjohlloaaGreatPxD
namespace Go.Proofs.YtpmnnijjohlloaaGreat
open Go Go.RowKit
set_option linter.unusedVariables false
set_option linter.unusedSimpArgs false
theorem madeFlat {α : Type} (f : α → List Value) (d : α) (z : Array Value) (sz : Nat) (hz : z.toList = f d) (hl : (f d).length = sz) (hp : 0 < sz) : ∀ n, (madeCells z (n * sz)).toList = List.flatMap f (List.replicate n d) := fun n => by
  have hs : z.size = sz := by rw [← hl, ← hz]; simp
  have hlen : (List.flatMap f (List.replicate n d)).length = n * sz := by
    induction n with
    | zero => simp
    | succ n ih => rw [List.replicate_succ, List.flatMap_cons, List.length_append, ih, hl, Nat.succ_mul, Nat.add_comm]
  have hget : ∀ (n i : Nat), i < n * sz → (List.flatMap f (List.replicate n d))[i]? = (f d)[i % sz]? := by
    intro n
    induction n with
    | zero => intro i h; simp at h
    | succ n ih =>
      intro i h
      rw [List.replicate_succ, List.flatMap_cons]
      rcases Nat.lt_or_ge i sz with hi | hi
      · rw [List.getElem?_append_left (by omega), Nat.mod_eq_of_lt hi]
      · rw [List.getElem?_append_right (by omega), hl, ih (i - sz) (by rw [Nat.succ_mul] at h; omega), ← Nat.mod_eq_sub_mod hi]
  apply List.ext_getElem?
  intro i
  by_cases hi : i < n * sz
  · rw [hget n i hi]
    have hm : i % sz < z.size := by rw [hs]; exact Nat.mod_lt _ hp
    have e : (madeCells z (n * sz)).toList[i]? = some (z[i % sz]'hm) := by
      rw [Array.getElem?_toList]
      simp [madeCells, hi, hs]
      have : i % sz < z.size := hm
      simp [getElem!_pos, this]
    rw [e, ← hz, Array.getElem?_toList, Array.getElem?_eq_getElem hm]
  · rw [List.getElem?_eq_none (by rw [Array.length_toList, size_madeCells]; omega), List.getElem?_eq_none (by omega)]
section
variable {ρ : Option Nat} {P : Program} {ops : Array Oper} {Q : Exit → Act → World → Prop} {a : Act} {w w0 : World} {o : Oper} {rest : List Oper} {M : List Nat} {L : List Res}
/-- make, of a length, of elements of some cells. -/
theorem x_makeN {α : Type} (H : Hs M w0 w L) (t ty : TypeId) (sz bytes n : Nat) (z : Value) (f : α → List Value) (d : α) (hu : P.underlying t = some (.slice ty)) (hinf : (P.info? ty).map (fun i => (i.zero, i.size, i.bytes)) = some (some z, sz, bytes)) (hz : z.cells.toList = f d) (hl : (f d).length = sz) (hp : 0 < sz)
    (b1 : n ≤ maxLen) (b2 : bytes * n ≤ 281474976710656) (hw : Region.wanted o (yielded ops a.tmps) = true) (hd : opNd o = true)
    (h : (execOp a.eval o).run P w = ((Instr.makeSlice t (.int .i64 (n : Int)) (.int .i64 (n : Int))) >>= fun v => pure (Next.value v)).run P w)
    (k : ∀ w' g, Hs M w0 w' (.row (.slice (some ⟨g, 0, none⟩) n n) ty sz n (List.flatMap f (List.replicate n d)) :: L) → XL ρ P ops Q rest (a.put o.dst (.slice (some ⟨g, 0, none⟩) n n)) w') : XL ρ P ops Q (o :: rest) a w := by
  obtain ⟨inf, hi1, hi2, hi3, hi4⟩ := info_parts hinf
  obtain ⟨w', r1, r2, r3⟩ := run_make_full (P := P) w w.heap.size t ty inf z sz hu hi1 hi2 hi3 .i64 .i64 n (by rw [hi4]; exact b2) b1 (Nat.le_refl _)
  refine x_run hw hd (v := .slice (some ⟨w.heap.size, 0, none⟩) n n) (w' := w') ?_ (k w' _ ?_)
  · rw [h, Sem.run_bind, r1]; rfl
  · rw [madeFlat f d z.cells sz hz hl hp n] at r2
    exact H.addRow ⟨r3.os, r3.tape, r3.output, r3.size, fun k hk => r3.block k hk (by simp)⟩ (Nat.le_refl _) r2
end
end Go.Proofs.YtpmnnijjohlloaaGreat
