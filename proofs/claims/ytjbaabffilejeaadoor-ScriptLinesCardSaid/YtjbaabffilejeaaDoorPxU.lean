/- Values with arrays compared; arrays of bytes told by a function. -/
import Derived.Test.YtjbaabffilejeaaDoorPxT
import Derived.ChangeKeysEq
namespace Go.Proofs.YtjbaabffilejeaaDoor
open Go Go.RowKit
set_option linter.unusedVariables false
def eqIs (P : Program) (eq : TypeId → Value → Value → Option Bool) (e : TypeId) (c : Nat) (xs ys : Array Value) : List Nat → Option Bool
  | [] => some true
  | i :: is =>
    match partV P e xs (i * c), partV P e ys (i * c) with
    | some a, some b => match eq e a b, eqIs P eq e c xs ys is with
      | some r, some r2 => some (r && r2)
      | _, _ => none
    | _, _ => none
def eqW (P : Program) : Nat → TypeId → Value → Value → Option Bool
  | 0, _, _, _ => none
  | d + 1, t, x, y =>
    match P.underlying t, x, y with
    | some .bool, .bool a, .bool b => some (a == b)
    | some (.int _), .int k a, .int k' b => if k = k' then some (a == b) else none
    | some (.struct fs), .agg xs, .agg ys => if P.stoodInHeld t then none else eqFs P (eqW P d) xs ys fs.toList
    | some (.array n e), .agg xs, .agg ys => match P.info? e with
      | some _ => eqIs P (eqW P d) e (P.cellsOf e) xs ys (List.range n)
      | none => none
    | _, _, _ => none
theorem run_eqW {P : Program} : ∀ (d : Nat) (t : TypeId) (x y : Value) (B : Bool), eqW P d t x y = some B → ∀ w, (Op.equalIn d t x y).run P w = .ok B w
  | 0, _, _, _, _, h, _ => by cases h
  | d + 1, t, x, y, B, h, w => by
    unfold eqW at h
    split at h
    · rename_i a b hu; cases h; exact run_equalIn_bool w d t a b hu
    · rename_i kk k a k' b hu
      split at h
      · rename_i e; subst e; cases h; exact run_equalIn_int w d t k kk a b hu
      · cases h
    · rename_i fs xs ys hu
      split at h
      · cases h
      · rename_i hst
        have hf : P.fieldsOf t = fs := by unfold Program.fieldsOf; rw [hu]
        rw [run_equalIn_struct w d t xs ys (by rw [hf]; exact hu) (by simpa using hst), hf]
        clear hu hf hst
        generalize fs.toList = l at h
        induction l generalizing B with
        | nil => simp only [eqFs, Option.some.injEq] at h; subst h; rfl
        | cons f fs ih =>
          unfold eqFs at h
          unfold Op.eqFields
          by_cases hn : f.name ≠ "_"
          · rw [if_pos hn] at h
            rw [if_pos hn]
            cases ha : partV P f.type xs f.offset with
            | none => rw [ha] at h; cases h
            | some a =>
              cases hb : partV P f.type ys f.offset with
              | none => rw [ha, hb] at h; cases h
              | some b =>
                rw [ha, hb] at h
                simp only at h
                cases hr : eqW P d f.type a b with
                | none => rw [hr] at h; cases h
                | some r =>
                  cases hr2 : eqFs P (eqW P d) xs ys fs with
                  | none => rw [hr, hr2] at h; cases h
                  | some r2 =>
                    rw [hr, hr2] at h
                    simp only [Option.some.injEq] at h
                    subst h
                    simp only [Sem.run_bind, run_partV ha, run_partV hb, Result.andThen_ok, run_eqW d f.type a b r hr]
                    cases r
                    · rfl
                    · simp only [Bool.not_true, Bool.false_eq_true, if_false, Bool.true_and]
                      exact ih r2 hr2
          · rw [if_neg hn] at h
            rw [if_neg hn]
            exact ih B h
    · rename_i n e xs ys hu
      split at h
      · rename_i i hi
        rw [run_equalIn_array w d xs ys hu hi]
        clear hu
        generalize List.range n = l at h
        induction l generalizing B with
        | nil => simp only [eqIs, Option.some.injEq] at h; subst h; rfl
        | cons j js ih =>
          unfold eqIs at h
          unfold Op.eqItems
          cases ha : partV P e xs (j * P.cellsOf e) with
          | none => rw [ha] at h; cases h
          | some a =>
            cases hb : partV P e ys (j * P.cellsOf e) with
            | none => rw [ha, hb] at h; cases h
            | some b =>
              rw [ha, hb] at h
              simp only at h
              cases hr : eqW P d e a b with
              | none => rw [hr] at h; cases h
              | some r =>
                cases hr2 : eqIs P (eqW P d) e (P.cellsOf e) xs ys js with
                | none => rw [hr, hr2] at h; cases h
                | some r2 =>
                  rw [hr, hr2] at h
                  simp only [Option.some.injEq] at h
                  subst h
                  simp only [Sem.run_bind, run_partV ha, run_partV hb, Result.andThen_ok, run_eqW d e a b r hr]
                  cases r
                  · rfl
                  · simp only [Bool.not_true, Bool.false_eq_true, if_false, Bool.true_and]
                    exact ih r2 hr2
      · cases h
    · cases h
theorem run_eqT {P : Program} {w : World} {o : Oper} {e : Operand → Value} {t : TypeId} {x y : Operand} {xs ys : Array Value} {B : Bool}
    (h0 : (execOp e o).run P w = ((eqGuard .eql t x y (.agg xs) (.agg ys) >>= fun _ => binOp .eql t (.agg xs) (.agg ys)) >>= fun v => pure (Next.value v)).run P w)
    (hg : P.eqGuardType P.depth t = false) (h : eqW P 10000 t (.agg xs) (.agg ys) = some B) : (execOp e o).run P w = .ok (.value (.bool B)) w := by
  rw [h0]
  simp only [Sem.run_bind, run_eqGuard_agg w .eql t x y xs ys hg, Result.andThen_ok, run_eql_struct, run_eqW _ _ _ _ _ h, Sem.run_pure]
theorem run_neT {P : Program} {w : World} {o : Oper} {e : Operand → Value} {t : TypeId} {x y : Operand} {xs ys : Array Value} {B : Bool}
    (h0 : (execOp e o).run P w = ((eqGuard .neq t x y (.agg xs) (.agg ys) >>= fun _ => binOp .neq t (.agg xs) (.agg ys)) >>= fun v => pure (Next.value v)).run P w)
    (hg : P.eqGuardType P.depth t = false) (h : eqW P 10000 t (.agg xs) (.agg ys) = some B) : (execOp e o).run P w = .ok (.value (.bool (!B))) w := by
  rw [h0]
  simp only [Sem.run_bind, run_eqGuard_agg w .neq t x y xs ys hg, Result.andThen_ok, run_neq_struct, run_eqW _ _ _ _ _ h, Sem.run_pure]
/-! ### arrays of bytes -/
def arrL (D : Nat → Nat) : Nat → Nat → List Value
  | 0, _ => []
  | n + 1, i => .int .u8 ((D i : Nat) : Int) :: arrL D n (i + 1)
theorem arrL_len (D : Nat → Nat) : ∀ n i, (arrL D n i).length = n
  | 0, _ => rfl
  | n + 1, i => by simp [arrL, arrL_len D n]
theorem arrL_get (D : Nat → Nat) : ∀ (n i k : Nat), k < n → (arrL D n i)[k]? = some (.int .u8 ((D (i + k) : Nat) : Int))
  | 0, _, _, h => by omega
  | n + 1, i, 0, _ => rfl
  | n + 1, i, k + 1, h => by
    show (arrL D n (i + 1))[k]? = _
    rw [arrL_get D n (i + 1) k (by omega), show i + 1 + k = i + (k + 1) by omega]
def upF (D : Nat → Nat) (k v : Nat) : Nat → Nat := fun i => if i = k then v else D i
theorem arrL_same {D E : Nat → Nat} : ∀ (n i : Nat), (∀ j, i ≤ j → j < i + n → D j = E j) → arrL D n i = arrL E n i
  | 0, _, _ => rfl
  | n + 1, i, h => by
    simp only [arrL]
    rw [h i (Nat.le_refl _) (by omega), arrL_same n (i + 1) fun j h1 h2 => h j (by omega) (by omega)]
theorem arrL_set (D : Nat → Nat) (v : Nat) : ∀ (n i k : Nat), k < n → (arrL D n i).take k ++ [.int .u8 ((v : Nat) : Int)] ++ (arrL D n i).drop (k + 1) = arrL (upF D (i + k) v) n i
  | 0, _, _, h => by omega
  | n + 1, i, 0, _ => by
    simp only [arrL, List.take_zero, List.nil_append, List.drop_succ_cons, List.drop_zero, List.singleton_append, Nat.add_zero]
    rw [show upF D i v i = v by simp [upF], arrL_same (D := D) (E := upF D i v) n (i + 1) fun j h1 _ => by simp [upF]; omega]
  | n + 1, i, k + 1, h => by
    simp only [arrL, List.take_succ_cons, List.drop_succ_cons, List.cons_append]
    rw [arrL_set D v n (i + 1) k (by omega), show i + 1 + k = i + (k + 1) by omega, show upF D (i + (k + 1)) v i = D i by simp [upF]]
theorem arr_get (D : Nat → Nat) {n k : Nat} (h : k < n) : (arrL D n 0).toArray[k]? = some (.int .u8 ((D k : Nat) : Int)) := by
  rw [← Array.getElem?_toList]; simpa using arrL_get D n 0 k h
section
variable {ρ : Option Nat} {P : Program} {ops : Array Oper} {Q : Exit → Act → World → Prop} {a : Act} {w w0 w' : World} {o : Oper} {rest : List Oper} {M : List Nat} {L : List Res}
/-- A byte of an array in memory. -/
theorem Hs.byte (H : Hs M w0 w L) (i : Nat) {g n : Nat} {D : Nat → Nat} {ty : TypeId} (hi : L[i]? = some (.blk g (arrL D n 0).toArray ty)) {k : Nat} (hk : k < n) : w.cell? ⟨g, k, none⟩ = some (.int .u8 ((D k : Nat) : Int)) :=
  cellOf (H.blk i hi) (arr_get D hk)
/-- A byte stored into an array. -/
theorem x_stB (H : Hs M w0 w L) (i : Nat) {g n : Nat} {D : Nat → Nat} {ty : TypeId} (k v : Nat) (L' : List Res) (hi : L[i]? = some (.blk g (arrL D n 0).toArray ty)) (hk : k < n) (hL : L.set i (.blk g (arrL (upF D k v) n 0).toArray ty) = L')
    (hw : Region.wanted o (yielded ops a.tmps) = true) (hd : opNd o = true) {t : TypeId} (h : execOp a.eval o = stV t ⟨g, k, none⟩ (.int .u8 ((v : Nat) : Int))) (ht : (P.info? t).map (·.size) = some 1)
    (kk : ∀ w', Hs M w0 w' L' → XL ρ P ops Q rest (a.put o.dst undef) w') : XL ρ P ops Q (o :: rest) a w := by
  have hs := arrL_set D v n 0 k hk
  rw [Nat.zero_add] at hs
  refine x_store (t := t) (v := .int .u8 ((v : Nat) : Int)) H i g k (arrL D n 0).toArray (arrL (upF D k v) n 0).toArray ty [.int .u8 ((v : Nat) : Int)] L' hi hd ?_ rfl ?_ hL hw h ht rfl kk
  · simp [arrL_len]; omega
  · simp only [List.length_singleton]; rw [hs]
/-- A byte of an array that is a value. -/
theorem ixB {t e : TypeId} {D : Nat → Nat} {n k : Nat} (ht : P.underlying t = some (.array n e)) (he : P.underlying e = some (.int .u8)) (hs : (P.info? e).map (·.size) = some 1) (hk : k < n) :
    ((Instr.index t (.agg (arrL D n 0).toArray) (.int .i64 ((k : Nat) : Int))) >>= fun v => pure (Next.value v)).run P w = .ok (.value (.int .u8 ((D k : Nat) : Int))) w := by
  have hc : P.cellsOf e = 1 := by
    unfold Program.cellsOf
    cases hi : P.info? e with
    | none => rw [hi] at hs; cases hs
    | some i => rw [hi] at hs; simpa using hs
  obtain ⟨inf, hi⟩ : ∃ inf, P.info? e = some inf := by
    cases hi : P.info? e with
    | none => rw [hi] at hs; cases hs
    | some i => exact ⟨i, rfl⟩
  have hp : partV P e (arrL D n 0).toArray (k * 1) = some (.int .u8 ((D k : Nat) : Int)) := by
    unfold partV; rw [hi, he]; simp only [Nat.mul_one]; exact arr_get D hk
  have hr := run_partV hp w
  rw [hc.symm] at hr
  unfold Instr.index
  simp only [Sem.run_bind, asIntOf, Sem.run_pure, Result.andThen_ok, run_underlying ht]
  rw [if_pos ⟨by omega, by omega⟩]
  simp only [Sem.run_bind, run_sizeOf w hi, Result.andThen_ok, Int.toNat_natCast, hr]
end
end Go.Proofs.YtjbaabffilejeaaDoor
