/- More of rows that are only read; lists without an element, told step by step. -/
import Derived.Test.YtjbaabffilejeaaDoorPxD
import Derived.Laws.CopyRow
namespace Go.Proofs.YtjbaabffilejeaaDoor
open Go Go.RowKit
set_option linter.unusedVariables false
theorem Ro.rowCel {w : World} {K : List Res} (h : Ro w K) (i : Nat) {ty : TypeId} {sz n : Nat} {v : Value} {xs : List Value} (hi : K[i]? = some (.row v ty sz n xs)) : v.cells = #[v] := by
  rcases Go.Proofs.YtjbaabffilejeaaDoor.rowForm (h i _ hi) with ⟨rfl, _⟩ | ⟨g, cap, rfl, _⟩ <;> rfl
theorem Ro.rowOne {w : World} {K : List Res} (h : Ro w K) (i : Nat) {ty : TypeId} {sz n : Nat} {v : Value} {xs : List Value} (hi : K[i]? = some (.row v ty sz n xs)) : v.oneCell' = true := by
  rcases Go.Proofs.YtjbaabffilejeaaDoor.rowForm (h i _ hi) with ⟨rfl, _⟩ | ⟨g, cap, rfl, _⟩ <;> rfl
theorem takeNext {α : Type} (d : α) (xs : List α) (k : Nat) (h : k < xs.length) : xs.take (k + 1) = xs.take k ++ [xs.getD k d] := by
  rw [List.take_succ_eq_append_getElem h]; simp [List.getD, h]
theorem erNext {α : Type} (d : α) {xs : List α} {k q : Nat} (h : k < xs.length) (hne : ¬ k = q) : (xs.take (k + 1)).eraseIdx q = (xs.take k).eraseIdx q ++ [xs.getD k d] := by
  rw [takeNext d xs k h]
  have hl : (xs.take k).length = k := by simp; omega
  by_cases hq : q < k
  · rw [List.eraseIdx_append_of_lt_length (by omega)]
  · rw [List.eraseIdx_of_length_le (by simp; omega), List.eraseIdx_of_length_le (by omega)]
theorem erSame {α : Type} {xs : List α} {q : Nat} (h : q < xs.length) : (xs.take (q + 1)).eraseIdx q = (xs.take q).eraseIdx q := by
  rw [takeNext xs[q] xs q h]
  have hl : (xs.take q).length = q := by simp; omega
  have e : (xs.take q).eraseIdx q = xs.take q := List.eraseIdx_of_length_le (by omega)
  rw [List.eraseIdx_append_of_length_le (by omega), hl, Nat.sub_self, e]
  simp
theorem lenForm {P : Program} {w : World} {v : Value} {n : Nat} {t tt : TypeId} (hf : (v = .slice none 0 0 ∧ n = 0) ∨ ∃ g cap, v = .slice (some ⟨g, 0, none⟩) n cap ∧ n ≤ cap ∧ cap ≤ maxLen) (hu : P.underlying t = some (.slice (P.elem t))) :
    ((Builtin.len_ #[t] tt #[v]) >>= fun v => pure (Next.value v)).run P w = .ok (.value (.int .i64 ((n : Nat) : Int))) w := by
  rcases hf with ⟨rfl, rfl⟩ | ⟨g, cap, rfl, _⟩ <;> (rw [Sem.run_bind, run_len_slice (h := hu)]; rfl)
theorem stS_run {P : Program} {w w' : World} {ad : Addr} {vs : List Value} (h : (stS ad vs).run P w = .ok .skip w') : (storeCells ad vs 0).run P w = .ok () w' := by
  unfold stS at h
  have e : ((storeCells ad vs 0).bind fun _ => Sem.pure Next.skip).run P w = ((storeCells ad vs 0) >>= fun _ => pure Next.skip).run P w := rfl
  rw [e, Sem.run_bind] at h
  cases hq : (storeCells ad vs 0).run P w with
  | ok x w1 => rw [hq] at h; simp only [Result.andThen_ok] at h; injection h with h1 h2; rw [← h2]
  | _ => rw [hq] at h; simp [Result.andThen] at h
theorem x_copyAll {ρ : Option Nat} {P : Program} {ops : Array Oper} {Q : Exit → Act → World → Prop} {a : Act} {w w0 : World} {M : List Nat} {L : List Res} {o : Oper} {rest : List Oper}
    (H : Hs M w0 w L) (i : Nat) (t s ty : TypeId) (sz g n cap : Nat) (xs ys : List Value) (u : Value) (L' : List Res) (hi : L[i]? = some (.row (.slice (some ⟨g, 0, none⟩) n cap) ty sz n xs)) (hsrc : Src w sz u n ys) (hu : P.underlying t = some (.slice ty)) (hs : (P.info? ty).map (·.size) = some sz)
    (h1 : ys.all Value.oneCell' = true) (hL : L.set i (.row (.slice (some ⟨g, 0, none⟩) n cap) ty sz n ys) = L') (hw : Region.wanted o (yielded ops a.tmps) = true) (hd : opNd o = true)
    (h : (execOp a.eval o).run P w = ((Builtin.copy_ #[t, s] o.type #[.slice (some ⟨g, 0, none⟩) n cap, u]) >>= fun v => pure (Next.value v)).run P w)
    (k : ∀ w', Hs M w0 w' L' → XL ρ P ops Q rest (a.put o.dst (.int .i64 ((n : Nat) : Int))) w') : XL ρ P ops Q (o :: rest) a w := by
  have hown : w.ownsRow 0 ty sz (.slice (some ⟨g, 0, none⟩) n cap) n xs := H.ok i _ hi
  subst hL
  rcases hsrc with ⟨rfl, rfl, rfl⟩ | ⟨hl, A, c, rfl, hc⟩
  · have hx : xs = [] := by have := hown.1; simpa using this
    subst hx
    refine x_run hw hd (v := .int .i64 (((0 : Nat) : Int))) (w' := w) (by rw [h, Sem.run_bind, run_copy_nil (P := P) w t s o.type ty ⟨g, 0, none⟩ 0 cap hu (by cases hq : P.info? ty <;> simp [hq] at hs ⊢)]; rfl) (k w ?_)
    exact H.upd i hi (r' := .row _ ty sz 0 []) hown (fun g' hg' => .inl hg') rfl rfl rfl (Nat.le_refl _) (fun _ _ _ => rfl)
  · obtain ⟨w', hr, ho, hg⟩ := rowStored (P := P) (off := 0) hown ys ys (by rw [hown.1, hl]; omega) h1 (by simp [List.drop_of_length_le (show xs.length ≤ ys.length by rw [hown.1, hl]; exact Nat.le_refl _)])
    have hst := stS_run hr
    have hld := run_loadCells_list (P := P) w A ys hc
    rw [hl] at hld
    have key : (Builtin.copy_ #[t, s] o.type #[.slice (some ⟨g, 0, none⟩) n cap, .slice (some A) n c]).run P w = .ok (goInt n) w' := by
      cases hq : P.info? ty with
      | none => simp [hq] at hs
      | some inf =>
        have hi : inf.size = sz := by simpa [hq] using hs
        simp [Builtin.copy_, run_underlying hu, Builtin.lenOf, Builtin.firstCells, sizeOf, typeInfo, hq, hi, hld, hst]
    refine x_run hw hd (v := .int .i64 ((n : Nat) : Int)) (w' := w') (by rw [h, Sem.run_bind, key]; rfl) (k w' ?_)
    exact H.upd i hi (r' := .row _ ty sz n ys) ho (fun g' hg' => .inl hg') hg.os hg.tape hg.output hg.size (fun k hk hk' => hg.block k hk (fun e => hk' (by simp [Res.fp, Value.ownBlock, Option.some.inj e])))
end Go.Proofs.YtjbaabffilejeaaDoor
