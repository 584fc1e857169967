/- More rules for px: division by what is not written out. -/
import Derived.Test.YtpmnnijjohlloaaPx
namespace Go.Proofs.Ytpmnnijjohlloaa
open Go Go.RowKit
set_option linter.unusedVariables false
set_option linter.unusedSimpArgs false
section
variable {ρ : Option Nat} {P : Program} {ops : Array Oper} {Q : Exit → Act → World → Prop} {Qf : Act → Prop} {a : Act} {w : World} {o : Oper} {rest : List Oper} {C : World → Prop} {K : World → Prop}
theorem run_quo {e : Operand → Value} {A B : Int} (hb : 0 < B) (ha : 0 ≤ A) (ha2 : A ≤ 9223372036854775807) (h : (execOp e o).run P w = ((Op.intDiv .quo .i64 A B) >>= fun v => pure (Next.value v)).run P w) :
    (execOp e o).run P w = .ok (.value (.int .i64 (A / B))) w := by
  rw [h, Op.intDiv, if_neg (by omega)]
  show Result.ok (Next.value (.int .i64 (IntKind.i64.wrap (A.tdiv B)))) w = _
  rw [IntWalk.i64_quo A B ⟨ha, ha2, hb⟩]
theorem q_quo (A B Z : Int) (hZ : A / B = Z) (hb : 0 < B) (ha : 0 ≤ A ∧ A ≤ 9223372036854775807) (hw : Region.wanted o (yielded ops a.tmps) = true) (h : ∀ w, (execOp a.eval o).run P w = ((Op.intDiv .quo .i64 A B) >>= fun v => pure (Next.value v)).run P w)
    (k : XQ P ops C Qf rest (a.put o.dst (.int .i64 Z))) : XQ P ops C Qf (o :: rest) a := q_val _ hw (fun w => hZ ▸ run_quo hb ha.1 ha.2 (h w)) k
end
end Go.Proofs.Ytpmnnijjohlloaa
