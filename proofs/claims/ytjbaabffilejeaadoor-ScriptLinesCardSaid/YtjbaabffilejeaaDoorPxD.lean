/- Slices of slices, an append in room, clear: rules. -/
import Derived.Test.YtjbaabffilejeaaDoorPx
namespace Go.Proofs.YtjbaabffilejeaaDoor
open Go Go.RowKit
set_option linter.unusedVariables false
set_option linter.unusedSimpArgs false
section
variable {ρ : Option Nat} {P : Program} {ops : Array Oper} {Q : Exit → Act → World → Prop} {Qf : Act → Prop} {a : Act} {w w0 : World} {o : Oper} {rest : List Oper} {M : List Nat} {L : List Res}
theorem run_sz {E : TypeId} {sz : Nat} (h : (P.info? E).map (·.size) = some sz) : (sizeOf E).run P w = .ok sz w := by
  cases hi : P.info? E with
  | none => rw [hi] at h; cases h
  | some i =>
    rw [hi] at h
    have h3 : i.size = sz := by simpa using h
    simp [sizeOf, typeInfo, Sem.run_bind, run_program, hi, Result.andThen_ok, Sem.run_pure, h3]
theorem slcL {t : TypeId} {b : Option Addr} {n c l sz : Nat} (ht : P.underlying t = some (.slice (P.elem t))) (hs : (P.info? (P.elem t)).map (·.size) = some sz) (h : l ≤ n) :
    ((Instr.sliceAt t (.slice b n c) (some (.int .i64 ((l : Nat) : Int))) none none) >>= fun v => pure (Next.value v)).run P w = .ok (.value (sliced b l n c sz)) w := by
  rw [Sem.run_bind, run_sliceAt_slice (h := ht), run_slice_l (ht := ht) (h0 := by omega) (h1 := by omega), run_sz hs, Result.andThen_ok, Int.toNat_natCast]
  rfl
/-- A row's value: nil, or a slice at the head of a block. -/
theorem rowForm {ty : TypeId} {sz n : Nat} {v : Value} {xs : List Value} (h : w.ownsRow 0 ty sz v n xs) : (v = .slice none 0 0 ∧ n = 0) ∨ ∃ g cap, v = .slice (some ⟨g, 0, none⟩) n cap ∧ n ≤ cap ∧ cap ≤ maxLen := by
  rcases h.2 with h' | ⟨g, cap, cur, hv, hb, hg, hnc, hcm, hcs, htake⟩
  · exact .inl h'
  · exact .inr ⟨g, cap, hv, hnc, hcm⟩
theorem Hs.rowForm (H : Hs M w0 w L) (i : Nat) {ty : TypeId} {sz n : Nat} {v : Value} {xs : List Value} (hi : L[i]? = some (.row v ty sz n xs)) : (v = .slice none 0 0 ∧ n = 0) ∨ ∃ g cap, v = .slice (some ⟨g, 0, none⟩) n cap ∧ n ≤ cap ∧ cap ≤ maxLen := Go.Proofs.YtjbaabffilejeaaDoor.rowForm (H.ok i _ hi)
theorem Hs.rowCel (H : Hs M w0 w L) (i : Nat) {ty : TypeId} {sz n : Nat} {v : Value} {xs : List Value} (hi : L[i]? = some (.row v ty sz n xs)) : v.cells = #[v] := by
  rcases Go.Proofs.YtjbaabffilejeaaDoor.rowForm (H.ok i _ hi) with ⟨rfl, _⟩ | ⟨g, cap, rfl, _⟩ <;> rfl
theorem Hs.rowOne (H : Hs M w0 w L) (i : Nat) {ty : TypeId} {sz n : Nat} {v : Value} {xs : List Value} (hi : L[i]? = some (.row v ty sz n xs)) : v.oneCell' = true := by
  rcases Go.Proofs.YtjbaabffilejeaaDoor.rowForm (H.ok i _ hi) with ⟨rfl, _⟩ | ⟨g, cap, rfl, _⟩ <;> rfl
theorem lenRow (H : Hs M w0 w L) (i : Nat) {v : Value} {t tt ty : TypeId} {sz n : Nat} {xs : List Value} (hi : L[i]? = some (.row v ty sz n xs)) (hu : P.underlying t = some (.slice (P.elem t))) :
    ((Builtin.len_ #[t] tt #[v]) >>= fun v => pure (Next.value v)).run P w = .ok (.value (.int .i64 ((n : Nat) : Int))) w := by
  rcases Go.Proofs.YtjbaabffilejeaaDoor.rowForm (H.ok i _ hi) with ⟨rfl, rfl⟩ | ⟨g, cap, rfl, _⟩ <;> (rw [Sem.run_bind, run_len_slice (h := hu)]; rfl)
theorem x_lenR (H : Hs M w0 w L) (i : Nat) (v : Value) (t ty : TypeId) (sz n : Nat) (xs : List Value) (hi : L[i]? = some (.row v ty sz n xs)) (hu : P.underlying t = some (.slice (P.elem t))) (hw : Region.wanted o (yielded ops a.tmps) = true) (hd : opNd o = true)
    (h : (execOp a.eval o).run P w = ((Builtin.len_ #[t] o.type #[v]) >>= fun v => pure (Next.value v)).run P w) (k : XL ρ P ops Q rest (a.put o.dst (.int .i64 ((n : Nat) : Int))) w) : XL ρ P ops Q (o :: rest) a w := x_run hw hd (h.trans (lenRow H i hi hu)) k
theorem y_lenR {o : Oper} (i : Nat) (v : Value) (t ty : TypeId) (sz n : Nat) (xs : List Value) (hi : L[i]? = some (.row v ty sz n xs)) (hu : P.underlying t = some (.slice (P.elem t))) (hw : Region.wanted o (yielded ops a.tmps) = true)
    (h : ∀ w, (execOp a.eval o).run P w = ((Builtin.len_ #[t] o.type #[v]) >>= fun v => pure (Next.value v)).run P w) : YI P ops (fun w => Hs M w0 w L) o (.int .i64 ((n : Nat) : Int)) a := y_in _ hw fun w H => (h w).trans (lenRow H i hi hu)
/-- What is appended: nothing, or cells that lie somewhere. -/
def Src (w : World) (sz : Nat) (u : Value) (m : Nat) (ys : List Value) : Prop :=
  (u = .slice none 0 0 ∧ m = 0 ∧ ys = []) ∨ (ys.length = m * sz ∧ ∃ A c, u = .slice (some A) m c ∧ ∀ j x, ys[j]? = some x → w.cell? (A.add j) = some x)
/-- append(v, u...). -/
theorem x_appendSrc (H : Hs M w0 w L) (i : Nat) (v : Value) (t ty : TypeId) (sz bytes n : Nat) (z : Value) (xs : List Value) (u : Value) (m : Nat) (ys : List Value) (hi : L[i]? = some (.row v ty sz n xs)) (hsrc : Src w sz u m ys) (hu : P.underlying t = some (.slice ty))
    (hinf : (P.info? ty).map (fun i => (i.zero, i.size, i.bytes)) = some (some z, sz, bytes)) (hz : z.cells.size = sz) (hsz : 0 < sz)
    (h1 : ∀ u ∈ ys, u.oneCell' = true) (b1 : n + m ≤ maxLen) (b2 : (n + m) * bytes ≤ 140737488355328) (hw : Region.wanted o (yielded ops a.tmps) = true) (hd : opNd o = true)
    (h : (execOp a.eval o).run P w = ((Builtin.append_ #[t, t] o.type #[v, u]) >>= fun v => pure (Next.value v)).run P w)
    (k : ∀ w' v', Hs M w0 w' (L.set i (.row v' ty sz (n + m) (xs ++ ys))) → XL ρ P ops Q rest (a.put o.dst v') w') : XL ρ P ops Q (o :: rest) a w := by
  obtain ⟨inf, hi1, hi2, hi3, hi4⟩ := info_parts hinf
  have hown : w.ownsRow 0 ty sz v n xs := H.ok i _ hi
  have key : ∃ v' w', (Builtin.append_ #[t, t] o.type #[v, u]).run P w = .ok v' w' ∧ w'.ownsRow 0 ty sz v' (n + m) (xs ++ ys) ∧ (∀ g ∈ v'.ownBlock.toList, g ∈ v.ownBlock.toList ∨ w.heap.size ≤ g) ∧ w.grownBy w' v.ownBlock := by
    rcases hsrc with ⟨rfl, rfl, rfl⟩ | ⟨hl, A, c, rfl, hc⟩
    · refine ⟨v, w, run_append_owned_none w 0 t o.type ty inf sz hu hi1 v n xs hown, by simpa using hown, fun g hg => .inl hg, ⟨rfl, rfl, rfl, Nat.le_refl _, fun _ _ _ => rfl⟩⟩
    · rcases hown.2 with ⟨rfl, rfl⟩ | ⟨g, cap, cur, rfl, hb, hg, hnc, hcm, hcs, htake⟩
      · have hx0 : xs = [] := by have := hown.1; simpa using this
        subst hx0
        obtain ⟨v', w', r1, r2, r3, _⟩ := run_append_own (P := P) w w.heap.size t o.type ty inf z sz bytes hu hi1 hi2 hi3 hi4 hz hsz (.slice none 0 0) 0 [] (World.ownsRow_nil w _ ty sz) A m c ys hl hc h1 b1 b2 (Nat.le_refl _)
        refine ⟨v', w', r1, ⟨r2.1, ?_⟩, fun g hg => .inr (World.ownsRow.lt r2 g (by simpa using hg)).1, r3⟩
        rcases r2.2 with h0 | ⟨g, cap, cur, hv, _, r⟩
        · exact .inl h0
        · exact .inr ⟨g, cap, cur, hv, Nat.zero_le _, r⟩
      · by_cases hroom : n + m ≤ cap
        · obtain ⟨w', r1, r2, r3⟩ := run_append_fits (P := P) w 0 t o.type ty inf sz hu hi1 hi3 g n cap xs hown A m c ys hl hc h1 hroom
          exact ⟨_, w', r1, r2, fun g' hg' => .inl hg', r3⟩
        · obtain ⟨v', w', r1, r2, r3⟩ := run_append_arg_grows (P := P) w t o.type ty inf z sz bytes hu hi1 hi2 hi3 hi4 hz hsz ⟨g, 0, none⟩ n cap xs hown.1 (World.ownsRow.cells hown rfl) A m c ys hl hc (by omega) b1 b2
          refine ⟨v', w', r1, ⟨r2.1, ?_⟩, fun g' hg' => .inr (World.ownsRow.lt r2 g' (by simpa using hg')).1, ⟨r3.os, r3.tape, r3.output, r3.size, fun k hk _ => r3.block k hk (by simp)⟩⟩
          rcases r2.2 with h0 | ⟨g', cap', cur', hv, _, r⟩
          · exact .inl h0
          · exact .inr ⟨g', cap', cur', hv, Nat.zero_le _, r⟩
  obtain ⟨v', w', r1, r2, r3, r4⟩ := key
  refine x_run hw hd (v := v') (w' := w') (by rw [h, Sem.run_bind, r1]; rfl) (k w' v' ?_)
  exact H.upd i hi (r' := .row _ ty sz (n + m) (xs ++ ys)) r2 r3 r4.os r4.tape r4.output r4.size (fun k hk hk' => r4.block k hk (fun e => hk' (by simp [Res.fp, ← e])))
/-- A walk's activation under another spelling. -/
theorem x_at {c : Code} {b : Act} (e : a = b) (h : XC ρ P c Q b w) : XC ρ P c Q a w := e ▸ h
end
theorem x_ixO {ρ : Option Nat} {P : Program} {ops : Array Oper} {Q : Exit → Act → World → Prop} {a : Act} {w : World} {o : Oper} {rest : List Oper} {t : TypeId} {ad : Option Addr} {g off : Nat} (had : ad = some ⟨g, off, none⟩) (k n c : Nat) (el : TypeId) (sz m : Nat) (hk : k < n) (hm : off + k * sz = m) (h2 : (P.info? el).map (·.size) = some sz) (h1 : P.underlying t = some (.slice el)) (hw : Region.wanted o (yielded ops a.tmps) = true) (hd : opNd o = true)
    (h : (execOp a.eval o).run P w = ((Instr.indexAt t (.slice ad n c) (.int .i64 (k : Int))).bind fun v => .pure (.value v)).run P w)
    (kk : XL ρ P ops Q rest (a.put o.dst (.pointer (some ⟨g, m, none⟩))) w) : XL ρ P ops Q (o :: rest) a w := by
  subst had; exact x_ix g off k n c el sz m hk hm h2 h1 hw hd h kk
end Go.Proofs.YtjbaabffilejeaaDoor
