/- Slices of slices, an append in room, clear: rules. -/
import Derived.Test.YtjbaabffilejeaaDoorPx
namespace Go.Proofs.YtjbaabffilejeaaDoor
open Go Go.RowKit
set_option linter.unusedVariables false
set_option linter.unusedSimpArgs false
section
variable {ρ : Option Nat} {P : Program} {ops : Array Oper} {Q : Exit → Act → World → Prop} {Qf : Act → Prop} {a : Act} {w w0 : World} {o : Oper} {rest : List Oper} {M : List Nat} {L : List Res}
theorem run_sz {E : TypeId} {sz : Nat} (h : (P.info? E).map (·.size) = some sz) : (sizeOf E).run P w = .ok sz w := by
  cases hi : P.info? E with
  | none => rw [hi] at h; cases h
  | some i =>
    rw [hi] at h
    have h3 : i.size = sz := by simpa using h
    simp [sizeOf, typeInfo, Sem.run_bind, run_program, hi, Result.andThen_ok, Sem.run_pure, h3]
theorem slcL {t : TypeId} {b : Option Addr} {n c l sz : Nat} (ht : P.underlying t = some (.slice (P.elem t))) (hs : (P.info? (P.elem t)).map (·.size) = some sz) (h : l ≤ n) :
    ((Instr.sliceAt t (.slice b n c) (some (.int .i64 ((l : Nat) : Int))) none none) >>= fun v => pure (Next.value v)).run P w = .ok (.value (sliced b l n c sz)) w := by
  rw [Sem.run_bind, run_sliceAt_slice (h := ht), run_slice_l (ht := ht) (h0 := by omega) (h1 := by omega), run_sz hs, Result.andThen_ok, Int.toNat_natCast]
  rfl
theorem slcH {t : TypeId} {g n c h sz : Nat} (ht : P.underlying t = some (.slice (P.elem t))) (hs : (P.info? (P.elem t)).map (·.size) = some sz) (hh : h ≤ c) :
    ((Instr.sliceAt t (.slice (some ⟨g, 0, none⟩) n c) none (some (.int .i64 ((h : Nat) : Int))) none) >>= fun v => pure (Next.value v)).run P w = .ok (.value (.slice (some ⟨g, 0, none⟩) h c)) w := by
  rw [Sem.run_bind, run_sliceAt_slice (h := ht), run_slice_h (ht := ht) (h0 := by omega) (h2 := by omega), run_sz hs, Result.andThen_ok, Int.toNat_natCast]
  have : sliced (some (⟨g, 0, none⟩ : Addr)) 0 h c sz = .slice (some ⟨g, 0, none⟩) h c := by
    unfold sliced
    split <;> simp [add_none]
  rw [this]; rfl
theorem slcLH {t : TypeId} {g n c l h sz : Nat} (ht : P.underlying t = some (.slice (P.elem t))) (hs : (P.info? (P.elem t)).map (·.size) = some sz) (hl : l ≤ h) (hh : h ≤ c) (hc : l < c) :
    ((Instr.sliceAt t (.slice (some ⟨g, 0, none⟩) n c) (some (.int .i64 ((l : Nat) : Int))) (some (.int .i64 ((h : Nat) : Int))) none) >>= fun v => pure (Next.value v)).run P w = .ok (.value (.slice (some ⟨g, l * sz, none⟩) (h - l) (c - l))) w := by
  rw [Sem.run_bind, run_sliceAt_slice (h := ht), run_slice_lh (ht := ht) (h0 := by omega) (h1 := by omega) (h2 := by omega), run_sz hs, Result.andThen_ok, Int.toNat_natCast, Int.toNat_natCast]
  have : sliced (some (⟨g, 0, none⟩ : Addr)) l h c sz = .slice (some ⟨g, l * sz, none⟩) (h - l) (c - l) := by
    unfold sliced
    rw [if_neg (by omega)]
    simp [add_none]
  rw [this]; rfl
theorem slcLHM {t : TypeId} {b : Option Addr} {n c l h m sz : Nat} (ht : P.underlying t = some (.slice (P.elem t))) (hs : (P.info? (P.elem t)).map (·.size) = some sz) (hl : l ≤ h) (hh : h ≤ m) (hc : m ≤ c) :
    ((Instr.sliceAt t (.slice b n c) (some (.int .i64 ((l : Nat) : Int))) (some (.int .i64 ((h : Nat) : Int))) (some (.int .i64 ((m : Nat) : Int)))) >>= fun v => pure (Next.value v)).run P w = .ok (.value (sliced b l h m sz)) w := by
  rw [Sem.run_bind, run_sliceAt_slice (h := ht), run_slice_lhm (ht := ht) (h0 := by omega) (h1 := by omega) (h2 := by omega) (h3 := by omega), run_sz hs, Result.andThen_ok, Int.toNat_natCast, Int.toNat_natCast, Int.toNat_natCast]
  rfl
/-- append(s[:p], s[q:]...), in place. -/
theorem x_appendIn (H : Hs M w0 w L) (i : Nat) (t ty : TypeId) (sz g n p q cap : Nat) (xs : List Value) (hi : L[i]? = some (.row (.slice (some ⟨g, 0, none⟩) n cap) ty sz n xs)) (hu : P.underlying t = some (.slice ty)) (hs : (P.info? ty).map (·.size) = some sz)
    (h1 : ∀ u ∈ xs, u.oneCell' = true) (hpq : p ≤ q) (hq : q ≤ n) (hw : Region.wanted o (yielded ops a.tmps) = true) (hd : opNd o = true)
    (h : (execOp a.eval o).run P w = ((Builtin.append_ #[t, t] o.type #[.slice (some ⟨g, 0, none⟩) p cap, sliced (some ⟨g, 0, none⟩) q n cap sz]) >>= fun v => pure (Next.value v)).run P w)
    (k : ∀ w', Hs M w0 w' (L.set i (.row (.slice (some ⟨g, 0, none⟩) (p + (n - q)) cap) ty sz (p + (n - q)) (xs.take (p * sz) ++ xs.drop (q * sz)))) → XL ρ P ops Q rest (a.put o.dst (.slice (some ⟨g, 0, none⟩) (p + (n - q)) cap)) w') : XL ρ P ops Q (o :: rest) a w := by
  cases hinf : P.info? ty with
  | none => rw [hinf] at hs; cases hs
  | some inf =>
  have hsz : inf.size = sz := by rw [hinf] at hs; simpa using hs
  have hown : w.ownsRow 0 ty sz (.slice (some ⟨g, 0, none⟩) n cap) n xs := H.ok i _ hi
  have hxl := hown.1
  have hnc : n ≤ cap := by
    rcases hown.2 with ⟨h', _⟩ | ⟨g', cap', cur, h', hb, hg, hnc, hcm, hcs, htake⟩
    · simp at h'
    · simp only [Value.slice.injEq] at h'; omega
  have hpre : w.ownsRow 0 ty sz (.slice (some ⟨g, 0, none⟩) p cap) p (xs.take (p * sz)) := by
    refine ⟨?_, ?_⟩
    · rw [List.length_take, hxl]; exact Nat.min_eq_left (Nat.mul_le_mul_right _ (by omega))
    · rcases hown.2 with ⟨h', _⟩ | ⟨g', cap', cur, h', hb, hg, hnc', hcm, hcs, htake⟩
      · simp at h'
      · simp only [Value.slice.injEq, Option.some.injEq, Addr.mk.injEq, and_true, true_and] at h'
        obtain ⟨rfl, rfl⟩ := h'
        refine .inr ⟨g, cap, cur, rfl, hb, hg, by omega, hcm, hcs, ?_⟩
        rw [← htake, List.take_take, Nat.min_eq_left (Nat.mul_le_mul_right _ (by omega))]
  obtain ⟨A, hA, hc⟩ : ∃ A : Addr, sliced (some ⟨g, 0, none⟩) q n cap sz = .slice (some A) (n - q) (cap - q) ∧ ∀ j u, (xs.drop (q * sz))[j]? = some u → w.cell? (A.add j) = some u := by
    unfold sliced
    by_cases e : cap = q
    · refine ⟨⟨g, 0, none⟩, by rw [if_pos e], fun j u hj => ?_⟩
      have : xs.drop (q * sz) = [] := List.drop_eq_nil_of_le (by rw [hxl, show q = n by omega]; exact Nat.le_refl _)
      rw [this] at hj; simp at hj
    · refine ⟨⟨g, q * sz, none⟩, by rw [if_neg e]; simp [add_none], fun j u hj => ?_⟩
      rw [List.getElem?_drop] at hj
      have := World.ownsRow.cells hown (g := g) rfl _ u hj
      rw [add_none] at this ⊢
      simpa using this
  obtain ⟨w', r1, r2, r3⟩ := run_append_fits (P := P) w 0 t o.type ty inf sz hu hinf hsz g p cap (xs.take (p * sz)) hpre A (n - q) (cap - q) (xs.drop (q * sz))
    (by rw [List.length_drop, hxl, Nat.sub_mul]) hc (fun u hu => h1 u (List.mem_of_mem_drop hu)) (by omega)
  refine x_run hw hd (v := .slice (some ⟨g, 0, none⟩) (p + (n - q)) cap) (w' := w') ?_ (k w' ?_)
  · rw [h, hA, Sem.run_bind, r1]; rfl
  · exact H.upd i hi (r' := .row _ ty sz (p + (n - q)) _) r2 (fun g' hg' => .inl hg') r3.os r3.tape r3.output r3.size (fun k hk hk' => r3.block k hk (fun e => hk' (by simp [Res.fp, Value.ownBlock, Option.some.inj e])))
theorem run_zero {E : TypeId} {z : Value} (h : (P.info? E).map (·.zero) = some (some z)) : (zeroValue E).run P w = .ok z w := by
  cases hi : P.info? E with
  | none => rw [hi] at h; cases h
  | some i =>
    rw [hi] at h
    have h3 : i.zero = some z := by simpa using h
    simp [zeroValue, typeInfo, Sem.run_bind, run_program, hi, Result.andThen_ok, Sem.run_pure, h3]
theorem zeroOne (zs : Array Value) (h : 0 < zs.size) : (Builtin.zeroCells zs 1).toList = zs.toList := by
  unfold Builtin.zeroCells
  apply List.ext_getElem
  · simp
  · intro i h1 h2
    have : i < zs.size := by simpa using h2
    simp [Nat.mod_eq_of_lt this, this]
/-- clear(s[p:p+1]) behind a row of p elements. -/
theorem x_clear (H : Hs M w0 w L) (i : Nat) (t ty : TypeId) (sz g p cap c : Nat) (z : Value) (xs : List Value) (hi : L[i]? = some (.row (.slice (some ⟨g, 0, none⟩) p cap) ty sz p xs)) (hu : P.underlying t = some (.slice ty)) (hz : ∀ w, (zeroValue ty).run P w = .ok z w)
    (hzs : z.cells.size = sz) (hz0 : 0 < sz) (h1 : z.cells.toList.all Value.oneCell' = true) (hr : p + 1 ≤ cap) (hw : Region.wanted o (yielded ops a.tmps) = true) (hd : opNd o = true) (hdst : o.dst = none)
    (h : (execOp a.eval o).run P w = ((Builtin.clear_ #[t] o.type #[.slice (some ⟨g, p * sz, none⟩) 1 c]) >>= fun v => pure (Next.value v)).run P w)
    (k : ∀ w', Hs M w0 w' L → XL ρ P ops Q rest a w') : XL ρ P ops Q (o :: rest) a w := by
  have hown : w.ownsRow 0 ty sz (.slice (some ⟨g, 0, none⟩) p cap) p xs := H.ok i _ hi
  rcases hown.2 with ⟨h', _⟩ | ⟨g', cap', cur, h', hb, hg, hnc', hcm, hcs, htake⟩
  · simp at h'
  · simp only [Value.slice.injEq, Option.some.injEq, Addr.mk.injEq, and_true, true_and] at h'
    obtain ⟨rfl, rfl⟩ := h'
    have hlen : z.cells.toList.length = sz := by simpa using hzs
    have hle : p * sz + sz ≤ cur.size := by
      rw [hcs, ← Nat.succ_mul]; exact Nat.mul_le_mul_right _ (by omega)
    have hst := run_storeCells_at P g (p * sz) ty z.cells.toList 0 cur w hg (by omega) (fun v hv => List.all_eq_true.1 h1 v hv)
    have hrun : (Builtin.clear_ #[t] o.type #[.slice (some ⟨g, p * sz, none⟩) 1 c]).run P w = .ok (.tuple #[]) (w.setRow g (cur.toList.take (p * sz + 0) ++ z.cells.toList ++ cur.toList.drop (p * sz + 0 + z.cells.toList.length)).toArray) := by
      have hzo := zeroOne z.cells (by omega)
      simp [Builtin.clear_, run_underlying hu, hz, hzo, hst]
    refine x_run hw hd (v := .tuple #[]) (w' := w.setRow g (cur.toList.take (p * sz + 0) ++ z.cells.toList ++ cur.toList.drop (p * sz + 0 + z.cells.toList.length)).toArray) (by rw [h, Sem.run_bind, hrun]; rfl) ?_
    rw [hdst]
    have hL : L.set i (.row (.slice (some ⟨g, 0, none⟩) p cap) ty sz p xs) = L := by
      obtain ⟨hi1, hi2⟩ := List.getElem?_eq_some_iff.1 hi
      rw [← hi2]; exact List.set_getElem_self hi1
    refine k _ (hL ▸ H.upd i hi (r' := .row (.slice (some ⟨g, 0, none⟩) p cap) ty sz p xs) ?_ (fun g' hg' => .inl hg') rfl rfl rfl (by simp) (fun k hk hk' => heap_setRow_ne w g k _ (fun e => hk' (by simp [Res.fp, Value.ownBlock, e]))))
    refine ⟨hown.1, .inr ⟨g, cap, _, rfl, hb, heap_setRow w g cur _ ty (0, 0) hg, hnc', hcm, ?_, ?_⟩⟩
    · simp only [List.size_toArray, List.length_append, List.length_take, List.length_drop, Array.length_toList]; omega
    · rw [← htake]
      show List.take (p * sz) (cur.toList.take (p * sz + 0) ++ z.cells.toList ++ cur.toList.drop (p * sz + 0 + z.cells.toList.length)) = _
      rw [Nat.add_zero, List.append_assoc, List.take_append, List.take_take, Nat.min_self, List.length_take, Array.length_toList, Nat.min_eq_left (by omega), Nat.sub_self, List.take_zero, List.append_nil]
theorem flatTake {α : Type} {f : α → List Value} {sz : Nat} (hf : ∀ x, (f x).length = sz) (l : List α) : ∀ i, (List.flatMap f l).take (i * sz) = List.flatMap f (l.take i) := by
  induction l with
  | nil => simp
  | cons x l ih =>
    intro i
    cases i with
    | zero => simp
    | succ i => rw [List.flatMap_cons, List.take_append, hf, List.take_of_length_le (by rw [hf, Nat.succ_mul]; omega), Nat.succ_mul, Nat.add_sub_cancel, ih, List.take_succ_cons, List.flatMap_cons]
theorem flatDrop {α : Type} {f : α → List Value} {sz : Nat} (hf : ∀ x, (f x).length = sz) (l : List α) : ∀ i, (List.flatMap f l).drop (i * sz) = List.flatMap f (l.drop i) := by
  induction l with
  | nil => simp
  | cons x l ih =>
    intro i
    cases i with
    | zero => simp
    | succ i => rw [List.flatMap_cons, List.drop_append, hf, List.drop_eq_nil_of_le (by rw [hf, Nat.succ_mul]; omega), Nat.succ_mul, Nat.add_sub_cancel, ih, List.drop_succ_cons, List.nil_append]
theorem flatErase {α : Type} {f : α → List Value} {sz : Nat} (hf : ∀ x, (f x).length = sz) (l : List α) (i : Nat) : (List.flatMap f l).take (i * sz) ++ (List.flatMap f l).drop ((i + 1) * sz) = List.flatMap f (l.eraseIdx i) := by
  rw [flatTake hf, flatDrop hf, List.eraseIdx_eq_take_drop_succ, List.flatMap_append]
theorem flatSet {α : Type} {f : α → List Value} {sz : Nat} (hf : ∀ x, (f x).length = sz) {d : α} : ∀ (l : List α) {k : Nat} (hk : k < l.length) (sub : Nat) (v : Value) (x : α) (hx : (f (l.getD k d)).take sub ++ [v] ++ (f (l.getD k d)).drop (sub + 1) = f x) (hs : sub < sz := by decide),
    (List.flatMap f l).take (k * sz + sub) ++ [v] ++ (List.flatMap f l).drop (k * sz + sub + [v].length) = List.flatMap f (l.set k x)
  | [], k, hk, _, _, _, _, _ => by simp at hk
  | y :: l, 0, hk, sub, v, x, hx, hs => by
    have hy : (f y).length = sz := hf y
    simp only [List.getD_cons_zero] at hx
    rw [List.set_cons_zero, List.flatMap_cons, List.flatMap_cons, Nat.zero_mul, Nat.zero_add, List.take_append_of_le_length (by omega), List.drop_append_of_le_length (by simp; omega), ← hx]
    simp
  | y :: l, k + 1, hk, sub, v, x, hx, hs => by
    have hy : (f y).length = sz := hf y
    have ih := flatSet hf (d := d) l (k := k) (by simpa using hk) sub v x (by simpa using hx) hs
    rw [List.set_cons_succ, List.flatMap_cons, List.flatMap_cons, ← ih, Nat.succ_mul]
    rw [show k * sz + sz + sub = (f y).length + (k * sz + sub) by omega, List.take_length_add_append, Nat.add_assoc (f y).length, List.drop_length_add_append]
    simp
theorem oneCellFlat {α : Type} {f : α → List Value} (hf : ∀ x, ∀ v ∈ f x, v.oneCell' = true) (l : List α) : ∀ u ∈ List.flatMap f l, u.oneCell' = true := fun u hu => by
  obtain ⟨x, _, hx⟩ := List.mem_flatMap.1 hu; exact hf x u hx
/-- A row's value: nil, or a slice at the head of a block. -/
theorem rowForm {ty : TypeId} {sz n : Nat} {v : Value} {xs : List Value} (h : w.ownsRow 0 ty sz v n xs) : (v = .slice none 0 0 ∧ n = 0) ∨ ∃ g cap, v = .slice (some ⟨g, 0, none⟩) n cap ∧ n ≤ cap ∧ cap ≤ maxLen := by
  rcases h.2 with h' | ⟨g, cap, cur, hv, hb, hg, hnc, hcm, hcs, htake⟩
  · exact .inl h'
  · exact .inr ⟨g, cap, hv, hnc, hcm⟩
theorem Hs.rowForm (H : Hs M w0 w L) (i : Nat) {ty : TypeId} {sz n : Nat} {v : Value} {xs : List Value} (hi : L[i]? = some (.row v ty sz n xs)) : (v = .slice none 0 0 ∧ n = 0) ∨ ∃ g cap, v = .slice (some ⟨g, 0, none⟩) n cap ∧ n ≤ cap ∧ cap ≤ maxLen := Go.Proofs.YtjbaabffilejeaaDoor.rowForm (H.ok i _ hi)
theorem Hs.row0 (H : Hs M w0 w L) (i : Nat) {g sz : Nat} {ty : TypeId} (hi : L[i]? = some (.blk g #[] ty)) : Hs M w0 w (L.set i (.row (.slice (some ⟨g, 0, none⟩) 0 0) ty sz 0 [])) :=
  H.upd i hi ⟨by simp, .inr ⟨g, 0, #[], rfl, Nat.zero_le _, H.blk i hi, Nat.le_refl _, Nat.zero_le _, by simp, by simp⟩⟩ (fun k hk => .inl (by simpa [Res.fp, Value.ownBlock] using hk)) rfl rfl rfl (Nat.le_refl _) (fun _ _ _ => rfl)
theorem Hs.rowCel (H : Hs M w0 w L) (i : Nat) {ty : TypeId} {sz n : Nat} {v : Value} {xs : List Value} (hi : L[i]? = some (.row v ty sz n xs)) : v.cells = #[v] := by
  rcases Go.Proofs.YtjbaabffilejeaaDoor.rowForm (H.ok i _ hi) with ⟨rfl, _⟩ | ⟨g, cap, rfl, _⟩ <;> rfl
theorem Hs.rowOne (H : Hs M w0 w L) (i : Nat) {ty : TypeId} {sz n : Nat} {v : Value} {xs : List Value} (hi : L[i]? = some (.row v ty sz n xs)) : v.oneCell' = true := by
  rcases Go.Proofs.YtjbaabffilejeaaDoor.rowForm (H.ok i _ hi) with ⟨rfl, _⟩ | ⟨g, cap, rfl, _⟩ <;> rfl
theorem lenRow (H : Hs M w0 w L) (i : Nat) {v : Value} {t tt ty : TypeId} {sz n : Nat} {xs : List Value} (hi : L[i]? = some (.row v ty sz n xs)) (hu : P.underlying t = some (.slice (P.elem t))) :
    ((Builtin.len_ #[t] tt #[v]) >>= fun v => pure (Next.value v)).run P w = .ok (.value (.int .i64 ((n : Nat) : Int))) w := by
  rcases Go.Proofs.YtjbaabffilejeaaDoor.rowForm (H.ok i _ hi) with ⟨rfl, rfl⟩ | ⟨g, cap, rfl, _⟩ <;> (rw [Sem.run_bind, run_len_slice (h := hu)]; rfl)
theorem x_lenR (H : Hs M w0 w L) (i : Nat) (v : Value) (t ty : TypeId) (sz n : Nat) (xs : List Value) (hi : L[i]? = some (.row v ty sz n xs)) (hu : P.underlying t = some (.slice (P.elem t))) (hw : Region.wanted o (yielded ops a.tmps) = true) (hd : opNd o = true)
    (h : (execOp a.eval o).run P w = ((Builtin.len_ #[t] o.type #[v]) >>= fun v => pure (Next.value v)).run P w) (k : XL ρ P ops Q rest (a.put o.dst (.int .i64 ((n : Nat) : Int))) w) : XL ρ P ops Q (o :: rest) a w := x_run hw hd (h.trans (lenRow H i hi hu)) k
theorem q_lenR (i : Nat) (v : Value) (t ty : TypeId) (sz n : Nat) (xs : List Value) (hi : L[i]? = some (.row v ty sz n xs)) (hu : P.underlying t = some (.slice (P.elem t))) (hw : Region.wanted o (yielded ops a.tmps) = true)
    (h : ∀ w, (execOp a.eval o).run P w = ((Builtin.len_ #[t] o.type #[v]) >>= fun v => pure (Next.value v)).run P w) (k : XQ P ops (fun w => Hs M w0 w L) Qf rest (a.put o.dst (.int .i64 ((n : Nat) : Int)))) : XQ P ops (fun w => Hs M w0 w L) Qf (o :: rest) a := q_in _ hw (fun w H => (h w).trans (lenRow H i hi hu)) k
theorem y_lenR {o : Oper} (i : Nat) (v : Value) (t ty : TypeId) (sz n : Nat) (xs : List Value) (hi : L[i]? = some (.row v ty sz n xs)) (hu : P.underlying t = some (.slice (P.elem t))) (hw : Region.wanted o (yielded ops a.tmps) = true)
    (h : ∀ w, (execOp a.eval o).run P w = ((Builtin.len_ #[t] o.type #[v]) >>= fun v => pure (Next.value v)).run P w) : YI P ops (fun w => Hs M w0 w L) o (.int .i64 ((n : Nat) : Int)) a := y_in _ hw fun w H => (h w).trans (lenRow H i hi hu)
/-- What is appended: nothing, or cells that lie somewhere. -/
def Src (w : World) (sz : Nat) (u : Value) (m : Nat) (ys : List Value) : Prop :=
  (u = .slice none 0 0 ∧ m = 0 ∧ ys = []) ∨ (ys.length = m * sz ∧ ∃ A c, u = .slice (some A) m c ∧ ∀ j x, ys[j]? = some x → w.cell? (A.add j) = some x)
theorem src_row {ty : TypeId} {sz n : Nat} {v : Value} {xs : List Value} (h : w.ownsRow 0 ty sz v n xs) : Src w sz v n xs := by
  rcases h.2 with ⟨rfl, rfl⟩ | ⟨g, cap, cur, rfl, _⟩
  · exact .inl ⟨rfl, rfl, by have := h.1; simpa using this⟩
  · exact .inr ⟨h.1, _, _, rfl, World.ownsRow.cells h rfl⟩
theorem src_pre {ty : TypeId} {sz n g cap q : Nat} {xs : List Value} (h : w.ownsRow 0 ty sz (.slice (some ⟨g, 0, none⟩) n cap) n xs) (hq : q ≤ n) : Src w sz (.slice (some ⟨g, 0, none⟩) q cap) q (xs.take (q * sz)) := by
  refine .inr ⟨?_, _, _, rfl, fun j x hj => ?_⟩
  · rw [List.length_take, h.1]; exact Nat.min_eq_left (Nat.mul_le_mul_right _ hq)
  · rw [List.getElem?_take] at hj
    split at hj
    · exact World.ownsRow.cells h rfl j x hj
    · cases hj
theorem src_suf {ty : TypeId} {sz n g cap q : Nat} {xs : List Value} (h : w.ownsRow 0 ty sz (.slice (some ⟨g, 0, none⟩) n cap) n xs) (hq : q ≤ n) : Src w sz (sliced (some ⟨g, 0, none⟩) q n cap sz) (n - q) (xs.drop (q * sz)) := by
  have hxl := h.1
  have hnc : n ≤ cap := by
    rcases h.2 with ⟨h', _⟩ | ⟨g', cap', cur, h', hb, hg, hnc, hcm, hcs, htake⟩
    · simp at h'
    · simp only [Value.slice.injEq] at h'; omega
  refine .inr ⟨by rw [List.length_drop, hxl, Nat.sub_mul], ?_⟩
  unfold sliced
  by_cases e : cap = q
  · refine ⟨⟨g, 0, none⟩, cap - q, by rw [if_pos e], fun j u hj => ?_⟩
    have : xs.drop (q * sz) = [] := List.drop_eq_nil_of_le (by rw [hxl, show q = n by omega]; exact Nat.le_refl _)
    rw [this] at hj; simp at hj
  · refine ⟨⟨g, q * sz, none⟩, cap - q, by rw [if_neg e]; simp [add_none], fun j u hj => ?_⟩
    rw [List.getElem?_drop] at hj
    have := World.ownsRow.cells h (g := g) rfl _ u hj
    rw [add_none] at this ⊢
    simpa using this
/-- append(v, u...). -/
theorem x_appendSrc (H : Hs M w0 w L) (i : Nat) (v : Value) (t ty : TypeId) (sz bytes n : Nat) (z : Value) (xs : List Value) (u : Value) (m : Nat) (ys : List Value) (hi : L[i]? = some (.row v ty sz n xs)) (hsrc : Src w sz u m ys) (hu : P.underlying t = some (.slice ty))
    (hinf : (P.info? ty).map (fun i => (i.zero, i.size, i.bytes)) = some (some z, sz, bytes)) (hz : z.cells.size = sz) (hsz : 0 < sz)
    (h1 : ∀ u ∈ ys, u.oneCell' = true) (b1 : n + m ≤ maxLen) (b2 : (n + m) * bytes ≤ 140737488355328) (hw : Region.wanted o (yielded ops a.tmps) = true) (hd : opNd o = true)
    (h : (execOp a.eval o).run P w = ((Builtin.append_ #[t, t] o.type #[v, u]) >>= fun v => pure (Next.value v)).run P w)
    (k : ∀ w' v', Hs M w0 w' (L.set i (.row v' ty sz (n + m) (xs ++ ys))) → XL ρ P ops Q rest (a.put o.dst v') w') : XL ρ P ops Q (o :: rest) a w := by
  obtain ⟨inf, hi1, hi2, hi3, hi4⟩ := info_parts hinf
  have hown : w.ownsRow 0 ty sz v n xs := H.ok i _ hi
  have key : ∃ v' w', (Builtin.append_ #[t, t] o.type #[v, u]).run P w = .ok v' w' ∧ w'.ownsRow 0 ty sz v' (n + m) (xs ++ ys) ∧ (∀ g ∈ v'.ownBlock.toList, g ∈ v.ownBlock.toList ∨ w.heap.size ≤ g) ∧ w.grownBy w' v.ownBlock := by
    rcases hsrc with ⟨rfl, rfl, rfl⟩ | ⟨hl, A, c, rfl, hc⟩
    · refine ⟨v, w, run_append_owned_none w 0 t o.type ty inf sz hu hi1 v n xs hown, by simpa using hown, fun g hg => .inl hg, ⟨rfl, rfl, rfl, Nat.le_refl _, fun _ _ _ => rfl⟩⟩
    · rcases hown.2 with ⟨rfl, rfl⟩ | ⟨g, cap, cur, rfl, hb, hg, hnc, hcm, hcs, htake⟩
      · have hx0 : xs = [] := by have := hown.1; simpa using this
        subst hx0
        obtain ⟨v', w', r1, r2, r3, _⟩ := run_append_own (P := P) w w.heap.size t o.type ty inf z sz bytes hu hi1 hi2 hi3 hi4 hz hsz (.slice none 0 0) 0 [] (World.ownsRow_nil w _ ty sz) A m c ys hl hc h1 b1 b2 (Nat.le_refl _)
        refine ⟨v', w', r1, ⟨r2.1, ?_⟩, fun g hg => .inr (World.ownsRow.lt r2 g (by simpa using hg)).1, r3⟩
        rcases r2.2 with h0 | ⟨g, cap, cur, hv, _, r⟩
        · exact .inl h0
        · exact .inr ⟨g, cap, cur, hv, Nat.zero_le _, r⟩
      · by_cases hroom : n + m ≤ cap
        · obtain ⟨w', r1, r2, r3⟩ := run_append_fits (P := P) w 0 t o.type ty inf sz hu hi1 hi3 g n cap xs hown A m c ys hl hc h1 hroom
          exact ⟨_, w', r1, r2, fun g' hg' => .inl hg', r3⟩
        · obtain ⟨v', w', r1, r2, r3⟩ := run_append_arg_grows (P := P) w t o.type ty inf z sz bytes hu hi1 hi2 hi3 hi4 hz hsz ⟨g, 0, none⟩ n cap xs hown.1 (World.ownsRow.cells hown rfl) A m c ys hl hc (by omega) b1 b2
          refine ⟨v', w', r1, ⟨r2.1, ?_⟩, fun g' hg' => .inr (World.ownsRow.lt r2 g' (by simpa using hg')).1, ⟨r3.os, r3.tape, r3.output, r3.size, fun k hk _ => r3.block k hk (by simp)⟩⟩
          rcases r2.2 with h0 | ⟨g', cap', cur', hv, _, r⟩
          · exact .inl h0
          · exact .inr ⟨g', cap', cur', hv, Nat.zero_le _, r⟩
  obtain ⟨v', w', r1, r2, r3, r4⟩ := key
  refine x_run hw hd (v := v') (w' := w') (by rw [h, Sem.run_bind, r1]; rfl) (k w' v' ?_)
  exact H.upd i hi (r' := .row _ ty sz (n + m) (xs ++ ys)) r2 r3 r4.os r4.tape r4.output r4.size (fun k hk hk' => r4.block k hk (fun e => hk' (by simp [Res.fp, ← e])))
/-- append(v, one). -/
theorem src_blk {g : Nat} {cs : Array Value} {ty : TypeId} {sz m c : Nat} (h : w.heap[g]? = some (.cells cs ty (0, 0))) (hl : cs.toList.length = m * sz) : Src w sz (.slice (some ⟨g, 0, none⟩) m c) m cs.toList :=
  .inr ⟨hl, _, _, rfl, fun j x hj => by rw [add_none]; exact cellOf h (by simpa using hj)⟩
/-- A result that lies in one cell. -/
theorem x_rescell1 {fn : Func} (H : Hs M w0 w L) (i g off : Nat) (cs : Array Value) (ty : TypeId) (v : Value) (fin : Value → Value) (hi : L[i]? = some (.blk g cs ty)) (hv : cs[off]? = some v)
    (h : (results fn a.tmps).run P w = ((Go.load ⟨g, off, none⟩).bind fun c => .pure (fin c)).run P w) : (results fn a.tmps).run P w = .ok (fin v) w := by
  have hc : w.cell? ⟨g, off, none⟩ = some v := cellOf (H.blk i hi) hv
  rw [h]
  unfold Go.load
  simp only [Sem.bind, Sem.run, hc]
/-- A callee that takes the resources A and leaves some others. -/
theorem Hs.useE {S : Type} {A R : List Res} (A' : S → List Res) (v : S → Value) (H : Hs M w0 w (A ++ R)) {f : FuncId} {args : Array Value} (hc : Hs (fps A) w w A → Calls P f args w fun e w' => ∃ s, e = .returned (v s) ∧ Hs (fps A) w w' (A' s)) :
    Calls P f args w fun e w' => ∃ s, e = .returned (v s) ∧ Hs M w0 w' (A' s ++ R) :=
  (hc (H.front.enter fps_mem)).mono fun e w' ⟨s, he, h'⟩ => ⟨s, he, H.call h' fun g hg => mem_fps hg⟩
theorem Ro.two {K1 K2 : Res} (h1 : Ro w [K1]) (h2 : Ro w [K2]) : Ro w [K1, K2] := fun i r hi => by
  match i, hi with
  | 0, hi => exact h1 0 r hi
  | 1, hi => exact h2 0 r (by simpa using hi)
  | i + 2, hi => simp at hi
/-- A walk's activation under another spelling. -/
theorem x_at {c : Code} {b : Act} (e : a = b) (h : XC ρ P c Q b w) : XC ρ P c Q a w := e ▸ h
end
theorem x_ixE {ρ : Option Nat} {P : Program} {ops : Array Oper} {Q : Exit → Act → World → Prop} {a : Act} {w : World} {o : Oper} {rest : List Oper} {t : TypeId} {i : Int} (g off k n c : Nat) (hi : i = ((k : Nat) : Int)) (el : TypeId) (sz m : Nat) (hk : k < n) (hm : off + k * sz = m) (h2 : (P.info? el).map (·.size) = some sz) (h1 : P.underlying t = some (.slice el)) (hw : Region.wanted o (yielded ops a.tmps) = true) (hd : opNd o = true)
    (h : (execOp a.eval o).run P w = ((Instr.indexAt t (.slice (some ⟨g, off, none⟩) n c) (.int .i64 i)).bind fun v => .pure (.value v)).run P w)
    (kk : XL ρ P ops Q rest (a.put o.dst (.pointer (some ⟨g, m, none⟩))) w) : XL ρ P ops Q (o :: rest) a w := by
  subst hi; exact x_ix g off k n c el sz m hk hm h2 h1 hw hd h kk
theorem x_ixO {ρ : Option Nat} {P : Program} {ops : Array Oper} {Q : Exit → Act → World → Prop} {a : Act} {w : World} {o : Oper} {rest : List Oper} {t : TypeId} {ad : Option Addr} {g off : Nat} (had : ad = some ⟨g, off, none⟩) (k n c : Nat) (el : TypeId) (sz m : Nat) (hk : k < n) (hm : off + k * sz = m) (h2 : (P.info? el).map (·.size) = some sz) (h1 : P.underlying t = some (.slice el)) (hw : Region.wanted o (yielded ops a.tmps) = true) (hd : opNd o = true)
    (h : (execOp a.eval o).run P w = ((Instr.indexAt t (.slice ad n c) (.int .i64 (k : Int))).bind fun v => .pure (.value v)).run P w)
    (kk : XL ρ P ops Q rest (a.put o.dst (.pointer (some ⟨g, m, none⟩))) w) : XL ρ P ops Q (o :: rest) a w := by
  subst had; exact x_ix g off k n c el sz m hk hm h2 h1 hw hd h kk
end Go.Proofs.YtjbaabffilejeaaDoor
