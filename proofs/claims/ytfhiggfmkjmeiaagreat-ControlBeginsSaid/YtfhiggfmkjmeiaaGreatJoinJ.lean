import Derived.Test.YtfhiggfmkjmeiaaGreatOpenJ
set_option linter.all false
namespace Go.Proofs.YtfhiggfmkjmeiaaGreat
open Go Go.ChangeShapes Go.WideShapes Go.ChangeAt
theorem Ao {a b:Bool} (h1:a=true) (h2:b=true):(a && b)=true:=by rw [h1,h2]; rfl
theorem Ahq {α:Type} [BEq α] [LawfulBEq α] {a b:α} (h:b=a):(a == b)=true:=beq_iff_eq.2 h.symm
theorem Ub:laidOutB Tryz.prog=true:=by kernel_rfl
theorem Aca:mapsRowed Tryz.prog=true:=by kernel_rfl
theorem Ac9:Tryz.prog.stopsHeard=true:=by kernel_rfl
theorem Ac8:Tryz.prog.mayEnter=true:=by kernel_rfl
