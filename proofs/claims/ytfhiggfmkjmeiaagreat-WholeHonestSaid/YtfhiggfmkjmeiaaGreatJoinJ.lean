import Derived.Test.YtfhiggfmkjmeiaaGreatOpenJ
set_option linter.unusedVariables false
set_option linter.unusedSimpArgs false
set_option linter.unusedSectionVars false
namespace Go.Proofs.YtfhiggfmkjmeiaaGreat
open Go Go.ChangeShapes Go.WideShapes Go.ChangeAt
theorem and_t {a b:Bool} (h1:a=true) (h2:b=true):(a && b)=true:=by rw [h1,h2]; rfl
theorem eq_t {α:Type} [BEq α] [LawfulBEq α] {a b:α} (h:b=a):(a == b)=true:=beq_iff_eq.2 h.symm
theorem kLaid:laidOutB Tryz.prog=true:=by kernel_rfl
theorem kRowed:mapsRowed Tryz.prog=true:=by kernel_rfl
theorem kHeard:Tryz.prog.stopsHeard=true:=by kernel_rfl
theorem kEnter:Tryz.prog.mayEnter=true:=by kernel_rfl
end Go.Proofs.YtfhiggfmkjmeiaaGreat
