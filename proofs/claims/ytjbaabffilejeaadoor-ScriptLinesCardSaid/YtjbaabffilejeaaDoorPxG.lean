/- Ranges over functions, where what is held moves and the loop variable's block is read late. -/
import Derived.Test.YtjbaabffilejeaaDoorPxR
import Derived.Test.YtjbaabffilejeaaDoorPxD
import Derived.Laws.CopyRow
namespace Go.Proofs.YtjbaabffilejeaaDoor
open Go Go.RowKit
set_option linter.unusedVariables false
theorem run_loadVar {P : Program} {w : World} {t : TypeId} {n : Nat} (h : aggSize P t = some n) (ad : Addr) : (loadVar t ad).run P w = ((loadCells ad n) >>= fun cs => (pure (.agg cs) : Sem Value)).run P w := by
  unfold aggSize at h
  cases hu : P.underlying t with
  | none => rw [hu] at h; cases h
  | some d =>
    cases hi : P.info? t with
    | none => rw [hu, hi] at h; cases d <;> cases h
    | some i =>
      rw [hu, hi] at h
      have hr := run_underlying hu w
      cases d <;> (simp only at h) <;> cases h
      all_goals simp only [loadVar, isAgg, Sem.run_bind, hr, Result.andThen_ok, Sem.run_pure, if_true, sizeOf, typeInfo, run_program, hi]
/-- What a function's results are, each by itself. -/
inductive AllR (P : Program) (w : World) (tmps : Array Value) : List ResultVar → List Value → Prop
  | nil : AllR P w tmps [] []
  | tmp {t : Nat} {v : Value} {rs : List ResultVar} {vs : List Value} (h : tmps.getD t undef = v) (k : AllR P w tmps rs vs) : AllR P w tmps (.tmp t :: rs) (v :: vs)
  | cell {a : Nat} {t : TypeId} {ad : Addr} {v : Value} {rs : List ResultVar} {vs : List Value} (ha : tmps.getD a undef = .pointer (some ad)) (hv : (loadVar t ad).run P w = .ok v w) (k : AllR P w tmps rs vs) : AllR P w tmps (.cell a t :: rs) (v :: vs)
theorem AllR.run {P : Program} {w : World} {tmps : Array Value} {rs : List ResultVar} {vs : List Value} (h : AllR P w tmps rs vs) :
    (rs.mapM (m := Sem) fun
      | .tmp t => pure (tmps.getD t undef)
      | .cell a t => do loadVar t (← asAddr (tmps.getD a undef))).run P w = .ok vs w := by
  induction h with
  | nil => rfl
  | tmp h k ih =>
    rw [List.mapM_cons, Sem.run_bind]
    simp only [Sem.run_pure, Result.andThen_ok, Sem.run_bind, ih, h]
  | cell ha hv k ih =>
    rename_i a t ad v rs vs
    have e1 : Sem.run P (do loadVar t (← asAddr (tmps.getD a undef))) w = .ok v w := by rw [ha]; exact hv
    rw [List.mapM_cons, Sem.run_bind]
    show (Sem.run P (do loadVar t (← asAddr (tmps.getD a undef))) w).andThen _ = _
    rw [e1]
    simp only [Result.andThen_ok, Sem.run_bind, ih, Sem.run_pure]
def oneOf : List Value → Value
  | [x] => x
  | vs => .tuple vs.toArray
theorem x_results {P : Program} {w : World} {fn : Func} {tmps : Array Value} (rs : List ResultVar) (vs : List Value) (v : Value) (hr : fn.results.toList = rs) (h : AllR P w tmps rs vs) (hv : oneOf vs = v) :
    (results fn tmps).run P w = .ok v w := by
  unfold results
  rw [Array.mapM_eq_mapM_toList, hr]
  have q := h.run
  have e : (List.toArray <$> (rs.mapM (m := Sem) fun
      | .tmp t => pure (tmps.getD t undef)
      | .cell a t => do loadVar t (← asAddr (tmps.getD a undef)))).run P w = .ok vs.toArray w := by
    rw [map_eq_pure_bind, Sem.run_bind, q]; rfl
  rw [Sem.run_bind]
  have e2 : ∀ r : Result (Array Value), r = .ok vs.toArray w → (r.andThen fun a w' => Sem.run P (pure (if h : a.size = 1 then a[0] else Value.tuple a)) w') = .ok v w := by
    rintro _ rfl
    rw [← hv]
    match vs with
    | [] => rfl
    | [x] => rfl
    | x :: y :: l => rfl
  exact e2 _ e
/-- A struct's cells as a result. -/
theorem ldR {P : Program} {M : List Nat} {w0 w : World} {L : List Res} (H : Hs M w0 w L) (i g off : Nat) (cs : Array Value) (ty : TypeId) (vs : List Value) (hi : L[i]? = some (.blk g cs ty)) (hv : (cs.toList.drop off).take vs.length = vs) {t : TypeId} (ht : aggSize P t = some vs.length) : (loadVar t ⟨g, off, none⟩).run P w = .ok (.agg vs.toArray) w := by
  rw [run_loadVar ht]
  have := run_loadCells_list (P := P) w ⟨g, off, none⟩ vs (fun j v hj => by
    rw [add_none]
    exact cellOf (H.blk i hi) (by
      rw [← hv, List.getElem?_take] at hj
      split at hj
      · rw [List.getElem?_drop] at hj; simpa using hj
      · cases hj))
  show Sem.run P ((loadCells ⟨g, off, none⟩ vs.length) >>= fun c => pure (Value.agg c)) w = _
  rw [Sem.run_bind, this]
  rfl
theorem ldR1 {P : Program} {M : List Nat} {w0 w : World} {L : List Res} (H : Hs M w0 w L) (i g off : Nat) (cs : Array Value) (ty : TypeId) (v : Value) (hi : L[i]? = some (.blk g cs ty)) (hv : cs[off]? = some v) {t : TypeId} (h : (loadVar t ⟨g, off, none⟩).run P w = (Go.load ⟨g, off, none⟩).run P w) : (loadVar t ⟨g, off, none⟩).run P w = .ok v w := by
  have hc : w.cell? ⟨g, off, none⟩ = some v := cellOf (H.blk i hi) hv
  rw [h]
  unfold Go.load
  simp only [Sem.run, hc]
end Go.Proofs.YtjbaabffilejeaaDoor
