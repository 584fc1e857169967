/- More rules for px: division by what is not written out. -/
import Derived.Test.YtjbaabffilejeaaDoorPx
namespace Go.Proofs.YtjbaabffilejeaaDoor
open Go Go.RowKit
set_option linter.unusedVariables false
set_option linter.unusedSimpArgs false
section
variable {ρ : Option Nat} {P : Program} {ops : Array Oper} {Q : Exit → Act → World → Prop} {Qf : Act → Prop} {a : Act} {w : World} {o : Oper} {rest : List Oper} {C : World → Prop} {K : World → Prop}
theorem run_rem {e : Operand → Value} {A B : Int} (hb : 0 < B) (ha : 0 ≤ A) (h : (execOp e o).run P w = ((Op.intDiv .rem .i64 A B) >>= fun v => pure (Next.value v)).run P w) :
    (execOp e o).run P w = .ok (.value (.int .i64 (A % B))) w := by
  rw [h, Op.intDiv, if_neg (by omega)]
  show Result.ok (Next.value (.int .i64 (A.tmod B))) w = _
  rw [Int.tmod_eq_emod_of_nonneg ha]
theorem run_quo {e : Operand → Value} {A B : Int} (hb : 0 < B) (ha : 0 ≤ A) (ha2 : A ≤ 9223372036854775807) (h : (execOp e o).run P w = ((Op.intDiv .quo .i64 A B) >>= fun v => pure (Next.value v)).run P w) :
    (execOp e o).run P w = .ok (.value (.int .i64 (A / B))) w := by
  rw [h, Op.intDiv, if_neg (by omega)]
  show Result.ok (Next.value (.int .i64 (IntKind.i64.wrap (A.tdiv B)))) w = _
  rw [IntWalk.i64_quo A B ⟨ha, ha2, hb⟩]
theorem x_rem (A B Z : Int) (hZ : A % B = Z) (hb : 0 < B) (ha : 0 ≤ A) (hw : Region.wanted o (yielded ops a.tmps) = true) (hd : opNd o = true) (h : (execOp a.eval o).run P w = ((Op.intDiv .rem .i64 A B) >>= fun v => pure (Next.value v)).run P w)
    (k : XL ρ P ops Q rest (a.put o.dst (.int .i64 Z)) w) : XL ρ P ops Q (o :: rest) a w := x_run hw hd (hZ ▸ run_rem hb ha h) k
theorem x_quo (A B Z : Int) (hZ : A / B = Z) (hb : 0 < B) (ha : 0 ≤ A ∧ A ≤ 9223372036854775807) (hw : Region.wanted o (yielded ops a.tmps) = true) (hd : opNd o = true) (h : (execOp a.eval o).run P w = ((Op.intDiv .quo .i64 A B) >>= fun v => pure (Next.value v)).run P w)
    (k : XL ρ P ops Q rest (a.put o.dst (.int .i64 Z)) w) : XL ρ P ops Q (o :: rest) a w := x_run hw hd (hZ ▸ run_quo hb ha.1 ha.2 h) k
theorem q_rem (A B Z : Int) (hZ : A % B = Z) (hb : 0 < B) (ha : 0 ≤ A) (hw : Region.wanted o (yielded ops a.tmps) = true) (h : ∀ w, (execOp a.eval o).run P w = ((Op.intDiv .rem .i64 A B) >>= fun v => pure (Next.value v)).run P w)
    (k : XQ P ops C Qf rest (a.put o.dst (.int .i64 Z))) : XQ P ops C Qf (o :: rest) a := q_val _ hw (fun w => hZ ▸ run_rem hb ha (h w)) k
theorem q_quo (A B Z : Int) (hZ : A / B = Z) (hb : 0 < B) (ha : 0 ≤ A ∧ A ≤ 9223372036854775807) (hw : Region.wanted o (yielded ops a.tmps) = true) (h : ∀ w, (execOp a.eval o).run P w = ((Op.intDiv .quo .i64 A B) >>= fun v => pure (Next.value v)).run P w)
    (k : XQ P ops C Qf rest (a.put o.dst (.int .i64 Z))) : XQ P ops C Qf (o :: rest) a := q_val _ hw (fun w => hZ ▸ run_quo hb ha.1 ha.2 (h w)) k
theorem y_rem (A B Z : Int) (hZ : A % B = Z) (hb : 0 < B) (ha : 0 ≤ A) (hw : Region.wanted o (yielded ops a.tmps) = true) (h : ∀ w, (execOp a.eval o).run P w = ((Op.intDiv .rem .i64 A B) >>= fun v => pure (Next.value v)).run P w) :
    YI P ops K o (.int .i64 Z) a := y_in _ hw fun w _ => hZ ▸ run_rem hb ha (h w)
theorem y_quo (A B Z : Int) (hZ : A / B = Z) (hb : 0 < B) (ha : 0 ≤ A ∧ A ≤ 9223372036854775807) (hw : Region.wanted o (yielded ops a.tmps) = true) (h : ∀ w, (execOp a.eval o).run P w = ((Op.intDiv .quo .i64 A B) >>= fun v => pure (Next.value v)).run P w) :
    YI P ops K o (.int .i64 Z) a := y_in _ hw fun w _ => hZ ▸ run_quo hb ha.1 ha.2 (h w)
theorem cell_as {ad : Addr} {v v' : Value} (h : w.cell? ad = some v) (e : v = v') : w.cell? ad = some v' := e ▸ h
end
end Go.Proofs.YtjbaabffilejeaaDoor
