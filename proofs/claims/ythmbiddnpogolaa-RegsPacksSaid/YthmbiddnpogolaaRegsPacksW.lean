/- The law RegsPacks, walked over its callees' contracts. -/
import Derived.Test.YthmbiddnpogolaaPx
namespace Go.Proofs.Ythmbiddnpogolaa
open Go Go.RowKit
set_option linter.unusedVariables false
set_option linter.unusedSimpArgs false

set_option maxRecDepth 100000 in
set_option maxHeartbeats 1000000 in
theorem walk_nn (r s b o c y z m l1 e1 l2 e2 rm hv lg q x r2 s2 b2 o2 c2 y2 z2 m2 : Int) (k k2 : Bool) (hA : ∀ w, Calls Try.prog 15 #[] w fun e w' => e = .returned (.bool true) ∧ Below w.heap.size w w') (hC : ∀ w, Calls Try.prog 51 #[.agg #[.int .i64 r, .int .i64 s, .int .i64 b, .int .i64 o, .int .i64 c, .int .i64 y, .int .i64 z, .int .i64 m, .int .i64 l1, .int .i64 e1, .int .i64 l2, .int .i64 e2, .int .i64 rm, .int .i64 hv, .int .i64 lg, .bool k]] w fun e w' => e = .returned (.bool false) ∧ Below w.heap.size w w') (hP : ∀ w, Calls Try.prog 50 #[.agg #[.int .i64 r, .int .i64 s, .int .i64 b, .int .i64 o, .int .i64 c, .int .i64 y, .int .i64 z, .int .i64 m, .int .i64 l1, .int .i64 e1, .int .i64 l2, .int .i64 e2, .int .i64 rm, .int .i64 hv, .int .i64 lg, .bool k]] w fun e w' => e = .returned (.tuple #[.int .u64 0, .int .i64 22]) ∧ Below w.heap.size w w') (hV : ∀ w, Calls Try.prog 52 #[.int .u64 x] w fun e w' => e = .returned (.tuple #[.agg #[.int .i64 0, .int .i64 0, .int .i64 0, .int .i64 0, .int .i64 0, .int .i64 0, .int .i64 0], .int .i64 0, .bool false, .int .i64 10]) ∧ Below w.heap.size w w') (w0 : World) :
    Calls Try.prog 14 #[.agg #[.int .i64 r, .int .i64 s, .int .i64 b, .int .i64 o, .int .i64 c, .int .i64 y, .int .i64 z, .int .i64 m, .int .i64 l1, .int .i64 e1, .int .i64 l2, .int .i64 e2, .int .i64 rm, .int .i64 hv, .int .i64 lg, .bool k], .int .u64 x] w0 fun e w' => e = .returned (.bool true) ∧ Below w0.heap.size w0 w' := by
  refine x_enter Try.func14 rfl #[.agg #[.int .i64 r, .int .i64 s, .int .i64 b, .int .i64 o, .int .i64 c, .int .i64 y, .int .i64 z, .int .i64 m, .int .i64 l1, .int .i64 e1, .int .i64 l2, .int .i64 e2, .int .i64 rm, .int .i64 hv, .int .i64 lg, .bool k], .int .u64 x, undef, undef, undef, undef, undef, undef, undef, undef, undef, undef, undef, undef, undef, undef, undef, undef, undef, undef, undef, undef, undef, undef, undef, undef, undef, undef, undef, undef, undef, undef, undef, undef, undef, undef, undef, undef, undef, undef, undef, undef, undef, undef, undef, undef, undef, undef, undef, undef, undef, undef, undef, undef, undef, undef, undef, undef, undef, undef, undef, undef, undef, undef, undef, undef, undef, undef, undef, undef, undef, undef, undef, undef, undef, undef, undef, undef, undef, undef, undef, undef, undef, undef, undef, undef, undef, undef, undef, undef, undef, undef, undef, undef, undef, undef, undef, undef, undef, undef, undef, undef, undef, undef, undef, undef, undef, undef, undef, undef, undef, undef, undef, undef, undef, undef, undef, undef, undef, undef, undef, undef] (by kernel_rfl) ?_
  have H := Hs.nil w0
  refine x_seq ?_
  refine x_region ?_
  refine x_box H #[.int .i64 r, .int .i64 s, .int .i64 b, .int .i64 o, .int .i64 c, .int .i64 y, .int .i64 z, .int .i64 m, .int .i64 l1, .int .i64 e1, .int .i64 l2, .int .i64 e2, .int .i64 rm, .int .i64 hv, .int .i64 lg, .bool k] 104 (by kernel_rfl) rfl (by kernel_rfl) ?_
  clear H
  intro v1 g1 H
  refine x_val (.bool false) (by kernel_rfl) rfl (by kernel_rfl) ?_
  refine x_nil ?_
  refine x_then ?_
  refine x_seq ?_
  refine x_seq ?_
  refine x_region ?_
  refine x_callB (.bool true) H (by kernel_rfl) rfl (by kernel_rfl) (hA _) ?_
  clear H
  intro v2 H
  refine x_val (.bool false) (by kernel_rfl) rfl (by kernel_rfl) ?_
  refine x_nil ?_
  refine x_then ?_
  refine x_f (by kernel_rfl) ?_
  refine x_skipc ?_
  refine x_then ?_
  refine x_seq ?_
  refine x_region ?_
  refine x_loadn (t := 104) H 0 g1 0 #[.int .i64 r, .int .i64 s, .int .i64 b, .int .i64 o, .int .i64 c, .int .i64 y, .int .i64 z, .int .i64 m, .int .i64 l1, .int .i64 e1, .int .i64 l2, .int .i64 e2, .int .i64 rm, .int .i64 hv, .int .i64 lg, .bool k] 104 [.int .i64 r, .int .i64 s, .int .i64 b, .int .i64 o, .int .i64 c, .int .i64 y, .int .i64 z, .int .i64 m, .int .i64 l1, .int .i64 e1, .int .i64 l2, .int .i64 e2, .int .i64 rm, .int .i64 hv, .int .i64 lg, .bool k] (by kernel_rfl) (by kernel_rfl) (by kernel_rfl) rfl (by kernel_rfl) (by kernel_rfl) ?_
  refine x_callB (.tuple #[.int .u64 0, .int .i64 22]) H (by kernel_rfl) rfl (by kernel_rfl) (hP _) ?_
  clear H
  intro v3 H
  refine x_val (.tuple #[.int .u64 0, .int .i64 22]) (by kernel_rfl) rfl (by kernel_rfl) ?_
  refine x_val (.int .u64 0) (by kernel_rfl) rfl (by kernel_rfl) ?_
  refine x_val (.int .i64 22) (by kernel_rfl) rfl (by kernel_rfl) ?_
  refine x_val (.int .u64 0) (by kernel_rfl) rfl (by kernel_rfl) ?_
  refine x_val (.int .i64 22) (by kernel_rfl) rfl (by kernel_rfl) ?_
  refine x_nil ?_
  refine x_then ?_
  refine x_seq ?_
  refine x_seq ?_
  refine x_region ?_
  refine x_loadn (t := 104) H 0 g1 0 #[.int .i64 r, .int .i64 s, .int .i64 b, .int .i64 o, .int .i64 c, .int .i64 y, .int .i64 z, .int .i64 m, .int .i64 l1, .int .i64 e1, .int .i64 l2, .int .i64 e2, .int .i64 rm, .int .i64 hv, .int .i64 lg, .bool k] 104 [.int .i64 r, .int .i64 s, .int .i64 b, .int .i64 o, .int .i64 c, .int .i64 y, .int .i64 z, .int .i64 m, .int .i64 l1, .int .i64 e1, .int .i64 l2, .int .i64 e2, .int .i64 rm, .int .i64 hv, .int .i64 lg, .bool k] (by kernel_rfl) (by kernel_rfl) (by kernel_rfl) rfl (by kernel_rfl) (by kernel_rfl) ?_
  refine x_callB (.bool false) H (by kernel_rfl) rfl (by kernel_rfl) (hC _) ?_
  clear H
  intro v4 H
  refine x_val (.bool true) (by kernel_rfl) rfl (by kernel_rfl) ?_
  refine x_nil ?_
  refine x_frame' { tmps := #[.agg #[.int .i64 r, .int .i64 s, .int .i64 b, .int .i64 o, .int .i64 c, .int .i64 y, .int .i64 z, .int .i64 m, .int .i64 l1, .int .i64 e1, .int .i64 l2, .int .i64 e2, .int .i64 rm, .int .i64 hv, .int .i64 lg, .bool k], .int .u64 x, .pointer (some ⟨g1, 0, none⟩), undef, .bool false, .int .u64 0, .int .i64 22, undef, undef, undef, undef, undef, undef, undef, undef, undef, .bool true, .bool false, .tuple #[.int .u64 0, .int .i64 22], .agg #[.int .i64 r, .int .i64 s, .int .i64 b, .int .i64 o, .int .i64 c, .int .i64 y, .int .i64 z, .int .i64 m, .int .i64 l1, .int .i64 e1, .int .i64 l2, .int .i64 e2, .int .i64 rm, .int .i64 hv, .int .i64 lg, .bool k], .tuple #[.int .u64 0, .int .i64 22], .int .u64 0, .int .i64 22, .agg #[.int .i64 r, .int .i64 s, .int .i64 b, .int .i64 o, .int .i64 c, .int .i64 y, .int .i64 z, .int .i64 m, .int .i64 l1, .int .i64 e1, .int .i64 l2, .int .i64 e2, .int .i64 rm, .int .i64 hv, .int .i64 lg, .bool k], .bool false, .bool true, undef, undef, undef, undef, undef, undef, undef, undef, undef, undef, undef, undef, undef, undef, undef, undef, undef, undef, undef, undef, undef, undef, undef, undef, undef, undef, undef, undef, undef, undef, undef, undef, undef, undef, undef, undef, undef, undef, undef, undef, undef, undef, undef, undef, undef, undef, undef, undef, undef, undef, undef, undef, undef, undef, undef, undef, undef, undef, undef, undef, undef, undef, undef, undef, undef, undef, undef, undef, undef, undef, undef, undef, undef, undef, undef, undef, undef, undef, undef, undef, undef, undef, undef, undef, undef, undef, undef, undef, undef, undef, undef, undef, undef, undef, undef, undef], defers := [] } (by kernel_rfl) ?_
  refine x_then ?_
  refine x_t (by kernel_rfl) ?_
  refine x_seq ?_
  refine x_region ?_
  refine x_val (.int .i64 22) (by kernel_rfl) rfl (by kernel_rfl) ?_
  refine x_val (.bool false) (by kernel_rfl) rfl (by kernel_rfl) ?_
  refine x_val (.bool false) (by kernel_rfl) rfl (by kernel_rfl) ?_
  refine x_val (.int .u64 0) (by kernel_rfl) rfl (by kernel_rfl) ?_
  refine x_val (.bool false) (by kernel_rfl) rfl (by kernel_rfl) ?_
  refine x_val (.bool false) (by kernel_rfl) rfl (by kernel_rfl) ?_
  refine x_nil ?_
  refine x_then ?_
  refine x_f (by kernel_rfl) ?_
  refine x_skipc ?_
  refine x_then ?_
  refine x_seq ?_
  refine x_region ?_
  refine x_val (.int .u64 x) (by kernel_rfl) rfl (by kernel_rfl) ?_
  refine x_callB (.tuple #[.agg #[.int .i64 0, .int .i64 0, .int .i64 0, .int .i64 0, .int .i64 0, .int .i64 0, .int .i64 0], .int .i64 0, .bool false, .int .i64 10]) H (by kernel_rfl) rfl (by kernel_rfl) (hV _) ?_
  clear H
  intro v5 H
  refine x_val (.tuple #[.agg #[.int .i64 0, .int .i64 0, .int .i64 0, .int .i64 0, .int .i64 0, .int .i64 0, .int .i64 0], .int .i64 0, .bool false, .int .i64 10]) (by kernel_rfl) rfl (by kernel_rfl) ?_
  refine x_val (.agg #[.int .i64 0, .int .i64 0, .int .i64 0, .int .i64 0, .int .i64 0, .int .i64 0, .int .i64 0]) (by kernel_rfl) rfl (by kernel_rfl) ?_
  refine x_val (.int .i64 0) (by kernel_rfl) rfl (by kernel_rfl) ?_
  refine x_val (.bool false) (by kernel_rfl) rfl (by kernel_rfl) ?_
  refine x_val (.int .i64 10) (by kernel_rfl) rfl (by kernel_rfl) ?_
  refine x_box H #[.int .i64 0, .int .i64 0, .int .i64 0, .int .i64 0, .int .i64 0, .int .i64 0, .int .i64 0] 100 (by kernel_rfl) rfl (by kernel_rfl) ?_
  clear H
  intro v6 g2 H
  refine x_store (t := 100) (v := .agg #[.int .i64 0, .int .i64 0, .int .i64 0, .int .i64 0, .int .i64 0, .int .i64 0, .int .i64 0]) H 0 g2 0 #[.int .i64 0, .int .i64 0, .int .i64 0, .int .i64 0, .int .i64 0, .int .i64 0, .int .i64 0] #[.int .i64 0, .int .i64 0, .int .i64 0, .int .i64 0, .int .i64 0, .int .i64 0, .int .i64 0] 100 [.int .i64 0, .int .i64 0, .int .i64 0, .int .i64 0, .int .i64 0, .int .i64 0, .int .i64 0] [.blk g2 #[.int .i64 0, .int .i64 0, .int .i64 0, .int .i64 0, .int .i64 0, .int .i64 0, .int .i64 0] 100, .blk g1 #[.int .i64 r, .int .i64 s, .int .i64 b, .int .i64 o, .int .i64 c, .int .i64 y, .int .i64 z, .int .i64 m, .int .i64 l1, .int .i64 e1, .int .i64 l2, .int .i64 e2, .int .i64 rm, .int .i64 hv, .int .i64 lg, .bool k] 104] (by kernel_rfl) rfl (by kernel_rfl) (by kernel_rfl) (by kernel_rfl) (by kernel_rfl) (by kernel_rfl) (by kernel_rfl) (by kernel_rfl) (by kernel_rfl) ?_
  clear H
  intro v7 H
  refine x_val (.int .i64 0) (by kernel_rfl) rfl (by kernel_rfl) ?_
  refine x_val (.bool false) (by kernel_rfl) rfl (by kernel_rfl) ?_
  refine x_val (.int .i64 10) (by kernel_rfl) rfl (by kernel_rfl) ?_
  refine x_nil ?_
  refine x_frame' { tmps := #[.agg #[.int .i64 r, .int .i64 s, .int .i64 b, .int .i64 o, .int .i64 c, .int .i64 y, .int .i64 z, .int .i64 m, .int .i64 l1, .int .i64 e1, .int .i64 l2, .int .i64 e2, .int .i64 rm, .int .i64 hv, .int .i64 lg, .bool k], .int .u64 x, .pointer (some ⟨g1, 0, none⟩), undef, .bool false, .int .u64 0, .int .i64 22, undef, undef, undef, undef, .pointer (some ⟨g2, 0, none⟩), .int .i64 0, .bool false, .int .i64 10, undef, .bool true, .bool false, .tuple #[.int .u64 0, .int .i64 22], .agg #[.int .i64 r, .int .i64 s, .int .i64 b, .int .i64 o, .int .i64 c, .int .i64 y, .int .i64 z, .int .i64 m, .int .i64 l1, .int .i64 e1, .int .i64 l2, .int .i64 e2, .int .i64 rm, .int .i64 hv, .int .i64 lg, .bool k], .tuple #[.int .u64 0, .int .i64 22], .int .u64 0, .int .i64 22, .agg #[.int .i64 r, .int .i64 s, .int .i64 b, .int .i64 o, .int .i64 c, .int .i64 y, .int .i64 z, .int .i64 m, .int .i64 l1, .int .i64 e1, .int .i64 l2, .int .i64 e2, .int .i64 rm, .int .i64 hv, .int .i64 lg, .bool k], .bool false, .bool true, .int .i64 22, .bool false, .bool false, .int .u64 0, .bool false, .bool false, undef, undef, undef, undef, undef, undef, undef, undef, undef, undef, undef, undef, undef, undef, undef, undef, undef, undef, undef, undef, undef, undef, undef, undef, undef, undef, undef, undef, undef, undef, undef, undef, undef, undef, undef, undef, undef, undef, undef, undef, undef, undef, .tuple #[.agg #[.int .i64 0, .int .i64 0, .int .i64 0, .int .i64 0, .int .i64 0, .int .i64 0, .int .i64 0], .int .i64 0, .bool false, .int .i64 10], .int .u64 x, .tuple #[.agg #[.int .i64 0, .int .i64 0, .int .i64 0, .int .i64 0, .int .i64 0, .int .i64 0, .int .i64 0], .int .i64 0, .bool false, .int .i64 10], .agg #[.int .i64 0, .int .i64 0, .int .i64 0, .int .i64 0, .int .i64 0, .int .i64 0, .int .i64 0], .int .i64 0, .bool false, .int .i64 10, undef, undef, undef, undef, undef, undef, undef, undef, undef, undef, undef, undef, undef, undef, undef, undef, undef, undef, undef, undef, undef, undef, undef, undef, undef, undef, undef, undef, undef, undef, undef, undef, undef, undef, undef, undef, undef, undef, undef, undef, undef], defers := [] } (by kernel_rfl) ?_
  refine x_then ?_
  refine x_seq ?_
  refine x_seq ?_
  refine x_region ?_
  refine x_val (.int .i64 10) (by kernel_rfl) rfl (by kernel_rfl) ?_
  refine x_val (.bool true) (by kernel_rfl) rfl (by kernel_rfl) ?_
  refine x_nil ?_
  refine x_then ?_
  refine x_t (by kernel_rfl) ?_
  refine x_seq ?_
  refine x_region ?_
  refine x_val (.int .i64 10) (by kernel_rfl) rfl (by kernel_rfl) ?_
  refine x_val (.bool true) (by kernel_rfl) rfl (by kernel_rfl) ?_
  refine x_val (.bool true) (by kernel_rfl) rfl (by kernel_rfl) ?_
  refine x_loadn (t := 100) H 0 g2 0 #[.int .i64 0, .int .i64 0, .int .i64 0, .int .i64 0, .int .i64 0, .int .i64 0, .int .i64 0] 100 [.int .i64 0, .int .i64 0, .int .i64 0, .int .i64 0, .int .i64 0, .int .i64 0, .int .i64 0] (by kernel_rfl) (by kernel_rfl) (by kernel_rfl) rfl (by kernel_rfl) (by kernel_rfl) ?_
  refine x_val (.agg #[.int .i64 0, .int .i64 0, .int .i64 0, .int .i64 0, .int .i64 0, .int .i64 0, .int .i64 0]) (by kernel_rfl) rfl (by kernel_rfl) ?_
  refine x_val (.bool true) (by kernel_rfl) rfl (run_eqS (t := 100) (x := .tmp 86) (y := .tmp 87) (xs := #[.int .i64 0, .int .i64 0, .int .i64 0, .int .i64 0, .int .i64 0, .int .i64 0, .int .i64 0]) (ys := #[.int .i64 0, .int .i64 0, .int .i64 0, .int .i64 0, .int .i64 0, .int .i64 0, .int .i64 0]) (B := true) (by kernel_rfl) (by kernel_rfl) (by kernel_rfl)) ?_
  refine x_val (.bool true) (by kernel_rfl) rfl (by kernel_rfl) ?_
  refine x_val (.bool true) (by kernel_rfl) rfl (by kernel_rfl) ?_
  refine x_val (.int .i64 0) (by kernel_rfl) rfl (by kernel_rfl) ?_
  refine x_val (.bool true) (by kernel_rfl) rfl (by kernel_rfl) ?_
  refine x_val (.bool true) (by kernel_rfl) rfl (by kernel_rfl) ?_
  refine x_val (.bool true) (by kernel_rfl) rfl (by kernel_rfl) ?_
  refine x_val (.bool false) (by kernel_rfl) rfl (by kernel_rfl) ?_
  refine x_val (.bool true) (by kernel_rfl) rfl (by kernel_rfl) ?_
  refine x_val (.bool true) (by kernel_rfl) rfl (by kernel_rfl) ?_
  refine x_val (.bool true) (by kernel_rfl) rfl (by kernel_rfl) ?_
  refine x_nil ?_
  refine x_frame' { tmps := #[.agg #[.int .i64 r, .int .i64 s, .int .i64 b, .int .i64 o, .int .i64 c, .int .i64 y, .int .i64 z, .int .i64 m, .int .i64 l1, .int .i64 e1, .int .i64 l2, .int .i64 e2, .int .i64 rm, .int .i64 hv, .int .i64 lg, .bool k], .int .u64 x, .pointer (some ⟨g1, 0, none⟩), undef, .bool true, .int .u64 0, .int .i64 22, undef, undef, undef, undef, .pointer (some ⟨g2, 0, none⟩), .int .i64 0, .bool false, .int .i64 10, undef, .bool true, .bool false, .tuple #[.int .u64 0, .int .i64 22], .agg #[.int .i64 r, .int .i64 s, .int .i64 b, .int .i64 o, .int .i64 c, .int .i64 y, .int .i64 z, .int .i64 m, .int .i64 l1, .int .i64 e1, .int .i64 l2, .int .i64 e2, .int .i64 rm, .int .i64 hv, .int .i64 lg, .bool k], .tuple #[.int .u64 0, .int .i64 22], .int .u64 0, .int .i64 22, .agg #[.int .i64 r, .int .i64 s, .int .i64 b, .int .i64 o, .int .i64 c, .int .i64 y, .int .i64 z, .int .i64 m, .int .i64 l1, .int .i64 e1, .int .i64 l2, .int .i64 e2, .int .i64 rm, .int .i64 hv, .int .i64 lg, .bool k], .bool false, .bool true, .int .i64 22, .bool false, .bool false, .int .u64 0, .bool false, .bool false, undef, undef, undef, undef, undef, undef, undef, undef, undef, undef, undef, undef, undef, undef, undef, undef, undef, undef, undef, undef, undef, undef, undef, undef, undef, undef, undef, undef, undef, undef, undef, undef, undef, undef, undef, undef, undef, undef, undef, undef, undef, undef, .tuple #[.agg #[.int .i64 0, .int .i64 0, .int .i64 0, .int .i64 0, .int .i64 0, .int .i64 0, .int .i64 0], .int .i64 0, .bool false, .int .i64 10], .int .u64 x, .tuple #[.agg #[.int .i64 0, .int .i64 0, .int .i64 0, .int .i64 0, .int .i64 0, .int .i64 0, .int .i64 0], .int .i64 0, .bool false, .int .i64 10], .agg #[.int .i64 0, .int .i64 0, .int .i64 0, .int .i64 0, .int .i64 0, .int .i64 0, .int .i64 0], .int .i64 0, .bool false, .int .i64 10, .int .i64 10, .bool true, .int .i64 10, .bool true, .bool true, .agg #[.int .i64 0, .int .i64 0, .int .i64 0, .int .i64 0, .int .i64 0, .int .i64 0, .int .i64 0], .agg #[.int .i64 0, .int .i64 0, .int .i64 0, .int .i64 0, .int .i64 0, .int .i64 0, .int .i64 0], .bool true, .bool true, .bool true, .int .i64 0, .bool true, .bool true, .bool true, .bool false, .bool true, .bool true, undef, undef, undef, undef, undef, undef, undef, undef, undef, undef, undef, undef, undef, undef, undef, undef, undef, undef, undef, undef, undef, undef, undef, undef], defers := [] } (by kernel_rfl) ?_
  refine x_then ?_
  refine x_retc ?_
  refine x_then_ret ?_
  refine x_ret (.bool true) (by kernel_rfl) (by kernel_rfl) ?_
  exact ⟨rfl, H.below⟩

set_option maxRecDepth 100000 in
set_option maxHeartbeats 1000000 in
theorem walk_ny (r s b o c y z m l1 e1 l2 e2 rm hv lg q x r2 s2 b2 o2 c2 y2 z2 m2 : Int) (k k2 : Bool) (hA : ∀ w, Calls Try.prog 15 #[] w fun e w' => e = .returned (.bool true) ∧ Below w.heap.size w w') (hC : ∀ w, Calls Try.prog 51 #[.agg #[.int .i64 r, .int .i64 s, .int .i64 b, .int .i64 o, .int .i64 c, .int .i64 y, .int .i64 z, .int .i64 m, .int .i64 l1, .int .i64 e1, .int .i64 l2, .int .i64 e2, .int .i64 rm, .int .i64 hv, .int .i64 lg, .bool k]] w fun e w' => e = .returned (.bool false) ∧ Below w.heap.size w w') (hP : ∀ w, Calls Try.prog 50 #[.agg #[.int .i64 r, .int .i64 s, .int .i64 b, .int .i64 o, .int .i64 c, .int .i64 y, .int .i64 z, .int .i64 m, .int .i64 l1, .int .i64 e1, .int .i64 l2, .int .i64 e2, .int .i64 rm, .int .i64 hv, .int .i64 lg, .bool k]] w fun e w' => e = .returned (.tuple #[.int .u64 0, .int .i64 22]) ∧ Below w.heap.size w w') (hV : ∀ w, Calls Try.prog 52 #[.int .u64 x] w fun e w' => e = .returned (.tuple #[.agg #[.int .i64 r2, .int .i64 s2, .int .i64 b2, .int .i64 o2, .int .i64 c2, .int .i64 y2, .int .i64 z2], .int .i64 m2, .bool k2, .int .i64 0]) ∧ Below w.heap.size w w') (hL : ∀ w, Calls Try.prog 53 #[.agg #[.int .i64 r2, .int .i64 s2, .int .i64 b2, .int .i64 o2, .int .i64 c2, .int .i64 y2, .int .i64 z2], .int .i64 m2, .bool k2] w fun e w' => e = .returned (.int .u64 x) ∧ Below w.heap.size w w') (hR : ∀ w, Calls Try.prog 54 #[.agg #[.int .i64 r2, .int .i64 s2, .int .i64 b2, .int .i64 o2, .int .i64 c2], .int .i64 y2, .int .i64 z2] w fun e w' => e = .returned (.bool true) ∧ Below w.heap.size w w') (hm : (decide (m2 = 1) || decide (m2 = 2)) = true) (w0 : World) :
    Calls Try.prog 14 #[.agg #[.int .i64 r, .int .i64 s, .int .i64 b, .int .i64 o, .int .i64 c, .int .i64 y, .int .i64 z, .int .i64 m, .int .i64 l1, .int .i64 e1, .int .i64 l2, .int .i64 e2, .int .i64 rm, .int .i64 hv, .int .i64 lg, .bool k], .int .u64 x] w0 fun e w' => e = .returned (.bool true) ∧ Below w0.heap.size w0 w' := by
  refine x_enter Try.func14 rfl #[.agg #[.int .i64 r, .int .i64 s, .int .i64 b, .int .i64 o, .int .i64 c, .int .i64 y, .int .i64 z, .int .i64 m, .int .i64 l1, .int .i64 e1, .int .i64 l2, .int .i64 e2, .int .i64 rm, .int .i64 hv, .int .i64 lg, .bool k], .int .u64 x, undef, undef, undef, undef, undef, undef, undef, undef, undef, undef, undef, undef, undef, undef, undef, undef, undef, undef, undef, undef, undef, undef, undef, undef, undef, undef, undef, undef, undef, undef, undef, undef, undef, undef, undef, undef, undef, undef, undef, undef, undef, undef, undef, undef, undef, undef, undef, undef, undef, undef, undef, undef, undef, undef, undef, undef, undef, undef, undef, undef, undef, undef, undef, undef, undef, undef, undef, undef, undef, undef, undef, undef, undef, undef, undef, undef, undef, undef, undef, undef, undef, undef, undef, undef, undef, undef, undef, undef, undef, undef, undef, undef, undef, undef, undef, undef, undef, undef, undef, undef, undef, undef, undef, undef, undef, undef, undef, undef, undef, undef, undef, undef, undef, undef, undef, undef, undef, undef, undef, undef] (by kernel_rfl) ?_
  have H := Hs.nil w0
  refine x_seq ?_
  refine x_region ?_
  refine x_box H #[.int .i64 r, .int .i64 s, .int .i64 b, .int .i64 o, .int .i64 c, .int .i64 y, .int .i64 z, .int .i64 m, .int .i64 l1, .int .i64 e1, .int .i64 l2, .int .i64 e2, .int .i64 rm, .int .i64 hv, .int .i64 lg, .bool k] 104 (by kernel_rfl) rfl (by kernel_rfl) ?_
  clear H
  intro v1 g1 H
  refine x_val (.bool false) (by kernel_rfl) rfl (by kernel_rfl) ?_
  refine x_nil ?_
  refine x_then ?_
  refine x_seq ?_
  refine x_seq ?_
  refine x_region ?_
  refine x_callB (.bool true) H (by kernel_rfl) rfl (by kernel_rfl) (hA _) ?_
  clear H
  intro v2 H
  refine x_val (.bool false) (by kernel_rfl) rfl (by kernel_rfl) ?_
  refine x_nil ?_
  refine x_then ?_
  refine x_f (by kernel_rfl) ?_
  refine x_skipc ?_
  refine x_then ?_
  refine x_seq ?_
  refine x_region ?_
  refine x_loadn (t := 104) H 0 g1 0 #[.int .i64 r, .int .i64 s, .int .i64 b, .int .i64 o, .int .i64 c, .int .i64 y, .int .i64 z, .int .i64 m, .int .i64 l1, .int .i64 e1, .int .i64 l2, .int .i64 e2, .int .i64 rm, .int .i64 hv, .int .i64 lg, .bool k] 104 [.int .i64 r, .int .i64 s, .int .i64 b, .int .i64 o, .int .i64 c, .int .i64 y, .int .i64 z, .int .i64 m, .int .i64 l1, .int .i64 e1, .int .i64 l2, .int .i64 e2, .int .i64 rm, .int .i64 hv, .int .i64 lg, .bool k] (by kernel_rfl) (by kernel_rfl) (by kernel_rfl) rfl (by kernel_rfl) (by kernel_rfl) ?_
  refine x_callB (.tuple #[.int .u64 0, .int .i64 22]) H (by kernel_rfl) rfl (by kernel_rfl) (hP _) ?_
  clear H
  intro v3 H
  refine x_val (.tuple #[.int .u64 0, .int .i64 22]) (by kernel_rfl) rfl (by kernel_rfl) ?_
  refine x_val (.int .u64 0) (by kernel_rfl) rfl (by kernel_rfl) ?_
  refine x_val (.int .i64 22) (by kernel_rfl) rfl (by kernel_rfl) ?_
  refine x_val (.int .u64 0) (by kernel_rfl) rfl (by kernel_rfl) ?_
  refine x_val (.int .i64 22) (by kernel_rfl) rfl (by kernel_rfl) ?_
  refine x_nil ?_
  refine x_then ?_
  refine x_seq ?_
  refine x_seq ?_
  refine x_region ?_
  refine x_loadn (t := 104) H 0 g1 0 #[.int .i64 r, .int .i64 s, .int .i64 b, .int .i64 o, .int .i64 c, .int .i64 y, .int .i64 z, .int .i64 m, .int .i64 l1, .int .i64 e1, .int .i64 l2, .int .i64 e2, .int .i64 rm, .int .i64 hv, .int .i64 lg, .bool k] 104 [.int .i64 r, .int .i64 s, .int .i64 b, .int .i64 o, .int .i64 c, .int .i64 y, .int .i64 z, .int .i64 m, .int .i64 l1, .int .i64 e1, .int .i64 l2, .int .i64 e2, .int .i64 rm, .int .i64 hv, .int .i64 lg, .bool k] (by kernel_rfl) (by kernel_rfl) (by kernel_rfl) rfl (by kernel_rfl) (by kernel_rfl) ?_
  refine x_callB (.bool false) H (by kernel_rfl) rfl (by kernel_rfl) (hC _) ?_
  clear H
  intro v4 H
  refine x_val (.bool true) (by kernel_rfl) rfl (by kernel_rfl) ?_
  refine x_nil ?_
  refine x_frame' { tmps := #[.agg #[.int .i64 r, .int .i64 s, .int .i64 b, .int .i64 o, .int .i64 c, .int .i64 y, .int .i64 z, .int .i64 m, .int .i64 l1, .int .i64 e1, .int .i64 l2, .int .i64 e2, .int .i64 rm, .int .i64 hv, .int .i64 lg, .bool k], .int .u64 x, .pointer (some ⟨g1, 0, none⟩), undef, .bool false, .int .u64 0, .int .i64 22, undef, undef, undef, undef, undef, undef, undef, undef, undef, .bool true, .bool false, .tuple #[.int .u64 0, .int .i64 22], .agg #[.int .i64 r, .int .i64 s, .int .i64 b, .int .i64 o, .int .i64 c, .int .i64 y, .int .i64 z, .int .i64 m, .int .i64 l1, .int .i64 e1, .int .i64 l2, .int .i64 e2, .int .i64 rm, .int .i64 hv, .int .i64 lg, .bool k], .tuple #[.int .u64 0, .int .i64 22], .int .u64 0, .int .i64 22, .agg #[.int .i64 r, .int .i64 s, .int .i64 b, .int .i64 o, .int .i64 c, .int .i64 y, .int .i64 z, .int .i64 m, .int .i64 l1, .int .i64 e1, .int .i64 l2, .int .i64 e2, .int .i64 rm, .int .i64 hv, .int .i64 lg, .bool k], .bool false, .bool true, undef, undef, undef, undef, undef, undef, undef, undef, undef, undef, undef, undef, undef, undef, undef, undef, undef, undef, undef, undef, undef, undef, undef, undef, undef, undef, undef, undef, undef, undef, undef, undef, undef, undef, undef, undef, undef, undef, undef, undef, undef, undef, undef, undef, undef, undef, undef, undef, undef, undef, undef, undef, undef, undef, undef, undef, undef, undef, undef, undef, undef, undef, undef, undef, undef, undef, undef, undef, undef, undef, undef, undef, undef, undef, undef, undef, undef, undef, undef, undef, undef, undef, undef, undef, undef, undef, undef, undef, undef, undef, undef, undef, undef, undef, undef, undef], defers := [] } (by kernel_rfl) ?_
  refine x_then ?_
  refine x_t (by kernel_rfl) ?_
  refine x_seq ?_
  refine x_region ?_
  refine x_val (.int .i64 22) (by kernel_rfl) rfl (by kernel_rfl) ?_
  refine x_val (.bool false) (by kernel_rfl) rfl (by kernel_rfl) ?_
  refine x_val (.bool false) (by kernel_rfl) rfl (by kernel_rfl) ?_
  refine x_val (.int .u64 0) (by kernel_rfl) rfl (by kernel_rfl) ?_
  refine x_val (.bool false) (by kernel_rfl) rfl (by kernel_rfl) ?_
  refine x_val (.bool false) (by kernel_rfl) rfl (by kernel_rfl) ?_
  refine x_nil ?_
  refine x_then ?_
  refine x_f (by kernel_rfl) ?_
  refine x_skipc ?_
  refine x_then ?_
  refine x_seq ?_
  refine x_region ?_
  refine x_val (.int .u64 x) (by kernel_rfl) rfl (by kernel_rfl) ?_
  refine x_callB (.tuple #[.agg #[.int .i64 r2, .int .i64 s2, .int .i64 b2, .int .i64 o2, .int .i64 c2, .int .i64 y2, .int .i64 z2], .int .i64 m2, .bool k2, .int .i64 0]) H (by kernel_rfl) rfl (by kernel_rfl) (hV _) ?_
  clear H
  intro v5 H
  refine x_val (.tuple #[.agg #[.int .i64 r2, .int .i64 s2, .int .i64 b2, .int .i64 o2, .int .i64 c2, .int .i64 y2, .int .i64 z2], .int .i64 m2, .bool k2, .int .i64 0]) (by kernel_rfl) rfl (by kernel_rfl) ?_
  refine x_val (.agg #[.int .i64 r2, .int .i64 s2, .int .i64 b2, .int .i64 o2, .int .i64 c2, .int .i64 y2, .int .i64 z2]) (by kernel_rfl) rfl (by kernel_rfl) ?_
  refine x_val (.int .i64 m2) (by kernel_rfl) rfl (by kernel_rfl) ?_
  refine x_val (.bool k2) (by kernel_rfl) rfl (by kernel_rfl) ?_
  refine x_val (.int .i64 0) (by kernel_rfl) rfl (by kernel_rfl) ?_
  refine x_box H #[.int .i64 0, .int .i64 0, .int .i64 0, .int .i64 0, .int .i64 0, .int .i64 0, .int .i64 0] 100 (by kernel_rfl) rfl (by kernel_rfl) ?_
  clear H
  intro v6 g2 H
  refine x_store (t := 100) (v := .agg #[.int .i64 r2, .int .i64 s2, .int .i64 b2, .int .i64 o2, .int .i64 c2, .int .i64 y2, .int .i64 z2]) H 0 g2 0 #[.int .i64 0, .int .i64 0, .int .i64 0, .int .i64 0, .int .i64 0, .int .i64 0, .int .i64 0] #[.int .i64 r2, .int .i64 s2, .int .i64 b2, .int .i64 o2, .int .i64 c2, .int .i64 y2, .int .i64 z2] 100 [.int .i64 r2, .int .i64 s2, .int .i64 b2, .int .i64 o2, .int .i64 c2, .int .i64 y2, .int .i64 z2] [.blk g2 #[.int .i64 r2, .int .i64 s2, .int .i64 b2, .int .i64 o2, .int .i64 c2, .int .i64 y2, .int .i64 z2] 100, .blk g1 #[.int .i64 r, .int .i64 s, .int .i64 b, .int .i64 o, .int .i64 c, .int .i64 y, .int .i64 z, .int .i64 m, .int .i64 l1, .int .i64 e1, .int .i64 l2, .int .i64 e2, .int .i64 rm, .int .i64 hv, .int .i64 lg, .bool k] 104] (by kernel_rfl) rfl (by kernel_rfl) (by kernel_rfl) (by kernel_rfl) (by kernel_rfl) (by kernel_rfl) (by kernel_rfl) (by kernel_rfl) (by kernel_rfl) ?_
  clear H
  intro v7 H
  refine x_val (.int .i64 m2) (by kernel_rfl) rfl (by kernel_rfl) ?_
  refine x_val (.bool k2) (by kernel_rfl) rfl (by kernel_rfl) ?_
  refine x_val (.int .i64 0) (by kernel_rfl) rfl (by kernel_rfl) ?_
  refine x_nil ?_
  refine x_frame' { tmps := #[.agg #[.int .i64 r, .int .i64 s, .int .i64 b, .int .i64 o, .int .i64 c, .int .i64 y, .int .i64 z, .int .i64 m, .int .i64 l1, .int .i64 e1, .int .i64 l2, .int .i64 e2, .int .i64 rm, .int .i64 hv, .int .i64 lg, .bool k], .int .u64 x, .pointer (some ⟨g1, 0, none⟩), undef, .bool false, .int .u64 0, .int .i64 22, undef, undef, undef, undef, .pointer (some ⟨g2, 0, none⟩), .int .i64 m2, .bool k2, .int .i64 0, undef, .bool true, .bool false, .tuple #[.int .u64 0, .int .i64 22], .agg #[.int .i64 r, .int .i64 s, .int .i64 b, .int .i64 o, .int .i64 c, .int .i64 y, .int .i64 z, .int .i64 m, .int .i64 l1, .int .i64 e1, .int .i64 l2, .int .i64 e2, .int .i64 rm, .int .i64 hv, .int .i64 lg, .bool k], .tuple #[.int .u64 0, .int .i64 22], .int .u64 0, .int .i64 22, .agg #[.int .i64 r, .int .i64 s, .int .i64 b, .int .i64 o, .int .i64 c, .int .i64 y, .int .i64 z, .int .i64 m, .int .i64 l1, .int .i64 e1, .int .i64 l2, .int .i64 e2, .int .i64 rm, .int .i64 hv, .int .i64 lg, .bool k], .bool false, .bool true, .int .i64 22, .bool false, .bool false, .int .u64 0, .bool false, .bool false, undef, undef, undef, undef, undef, undef, undef, undef, undef, undef, undef, undef, undef, undef, undef, undef, undef, undef, undef, undef, undef, undef, undef, undef, undef, undef, undef, undef, undef, undef, undef, undef, undef, undef, undef, undef, undef, undef, undef, undef, undef, undef, .tuple #[.agg #[.int .i64 r2, .int .i64 s2, .int .i64 b2, .int .i64 o2, .int .i64 c2, .int .i64 y2, .int .i64 z2], .int .i64 m2, .bool k2, .int .i64 0], .int .u64 x, .tuple #[.agg #[.int .i64 r2, .int .i64 s2, .int .i64 b2, .int .i64 o2, .int .i64 c2, .int .i64 y2, .int .i64 z2], .int .i64 m2, .bool k2, .int .i64 0], .agg #[.int .i64 r2, .int .i64 s2, .int .i64 b2, .int .i64 o2, .int .i64 c2, .int .i64 y2, .int .i64 z2], .int .i64 m2, .bool k2, .int .i64 0, undef, undef, undef, undef, undef, undef, undef, undef, undef, undef, undef, undef, undef, undef, undef, undef, undef, undef, undef, undef, undef, undef, undef, undef, undef, undef, undef, undef, undef, undef, undef, undef, undef, undef, undef, undef, undef, undef, undef, undef, undef], defers := [] } (by kernel_rfl) ?_
  refine x_then ?_
  refine x_seq ?_
  refine x_seq ?_
  refine x_region ?_
  refine x_val (.int .i64 0) (by kernel_rfl) rfl (by kernel_rfl) ?_
  refine x_val (.bool false) (by kernel_rfl) rfl (by kernel_rfl) ?_
  refine x_nil ?_
  refine x_then ?_
  refine x_f (by kernel_rfl) ?_
  refine x_skipc ?_
  refine x_then ?_
  refine x_seq ?_
  refine x_region ?_
  refine x_val (.pointer (some ⟨g2, 0, none⟩)) (by kernel_rfl) rfl (by kernel_rfl) ?_
  refine x_loadn (t := 98) H 0 g2 0 #[.int .i64 r2, .int .i64 s2, .int .i64 b2, .int .i64 o2, .int .i64 c2, .int .i64 y2, .int .i64 z2] 100 [.int .i64 r2, .int .i64 s2, .int .i64 b2, .int .i64 o2, .int .i64 c2] (by kernel_rfl) (by kernel_rfl) (by kernel_rfl) rfl (by kernel_rfl) (by kernel_rfl) ?_
  refine x_box H #[.int .i64 0, .int .i64 0, .int .i64 0, .int .i64 0, .int .i64 0] 109 (by kernel_rfl) rfl (by kernel_rfl) ?_
  clear H
  intro v8 g3 H
  refine x_store (t := 109) (v := .agg #[.int .i64 r2, .int .i64 s2, .int .i64 b2, .int .i64 o2, .int .i64 c2]) H 0 g3 0 #[.int .i64 0, .int .i64 0, .int .i64 0, .int .i64 0, .int .i64 0] #[.int .i64 r2, .int .i64 s2, .int .i64 b2, .int .i64 o2, .int .i64 c2] 109 [.int .i64 r2, .int .i64 s2, .int .i64 b2, .int .i64 o2, .int .i64 c2] [.blk g3 #[.int .i64 r2, .int .i64 s2, .int .i64 b2, .int .i64 o2, .int .i64 c2] 109, .blk g2 #[.int .i64 r2, .int .i64 s2, .int .i64 b2, .int .i64 o2, .int .i64 c2, .int .i64 y2, .int .i64 z2] 100, .blk g1 #[.int .i64 r, .int .i64 s, .int .i64 b, .int .i64 o, .int .i64 c, .int .i64 y, .int .i64 z, .int .i64 m, .int .i64 l1, .int .i64 e1, .int .i64 l2, .int .i64 e2, .int .i64 rm, .int .i64 hv, .int .i64 lg, .bool k] 104] (by kernel_rfl) rfl (by kernel_rfl) (by kernel_rfl) (by kernel_rfl) (by kernel_rfl) (by kernel_rfl) (by kernel_rfl) (by kernel_rfl) (by kernel_rfl) ?_
  clear H
  intro v9 H
  refine x_nil ?_
  refine x_then ?_
  refine x_seq ?_
  refine x_region ?_
  refine x_loadn (t := 100) H 1 g2 0 #[.int .i64 r2, .int .i64 s2, .int .i64 b2, .int .i64 o2, .int .i64 c2, .int .i64 y2, .int .i64 z2] 100 [.int .i64 r2, .int .i64 s2, .int .i64 b2, .int .i64 o2, .int .i64 c2, .int .i64 y2, .int .i64 z2] (by kernel_rfl) (by kernel_rfl) (by kernel_rfl) rfl (by kernel_rfl) (by kernel_rfl) ?_
  refine x_val (.int .i64 m2) (by kernel_rfl) rfl (by kernel_rfl) ?_
  refine x_val (.bool k2) (by kernel_rfl) rfl (by kernel_rfl) ?_
  refine x_callB (.int .u64 x) H (by kernel_rfl) rfl (by kernel_rfl) (hL _) ?_
  clear H
  intro v10 H
  refine x_val (.int .u64 x) (by kernel_rfl) rfl (by kernel_rfl) ?_
  refine x_eq (.bool true) (show Value.bool (decide (x = x)) = Value.bool true by simp) (by kernel_rfl) rfl (by kernel_rfl) ?_
  refine x_val (.bool true) (by kernel_rfl) rfl (by kernel_rfl) ?_
  refine x_loadn (t := 109) H 0 g3 0 #[.int .i64 r2, .int .i64 s2, .int .i64 b2, .int .i64 o2, .int .i64 c2] 109 [.int .i64 r2, .int .i64 s2, .int .i64 b2, .int .i64 o2, .int .i64 c2] (by kernel_rfl) (by kernel_rfl) (by kernel_rfl) rfl (by kernel_rfl) (by kernel_rfl) ?_
  refine x_val (.pointer (some ⟨g2, 5, none⟩)) (by kernel_rfl) rfl (by kernel_rfl) ?_
  refine x_load1 H 1 g2 5 #[.int .i64 r2, .int .i64 s2, .int .i64 b2, .int .i64 o2, .int .i64 c2, .int .i64 y2, .int .i64 z2] 100 (.int .i64 y2) (by kernel_rfl) (by kernel_rfl) (by kernel_rfl) rfl (by kernel_rfl) ?_
  refine x_val (.pointer (some ⟨g2, 6, none⟩)) (by kernel_rfl) rfl (by kernel_rfl) ?_
  refine x_load1 H 1 g2 6 #[.int .i64 r2, .int .i64 s2, .int .i64 b2, .int .i64 o2, .int .i64 c2, .int .i64 y2, .int .i64 z2] 100 (.int .i64 z2) (by kernel_rfl) (by kernel_rfl) (by kernel_rfl) rfl (by kernel_rfl) ?_
  refine x_callB (.bool true) H (by kernel_rfl) rfl (by kernel_rfl) (hR _) ?_
  clear H
  intro v11 H
  refine x_val (.bool true) (by kernel_rfl) rfl (by kernel_rfl) ?_
  refine x_val (.bool true) (by kernel_rfl) rfl (by kernel_rfl) ?_
  refine x_val (.int .i64 m2) (by kernel_rfl) rfl (by kernel_rfl) ?_
  refine x_val (.bool (decide (m2 = 1))) (by kernel_rfl) rfl (by kernel_rfl) ?_
  refine x_val (.bool (decide (m2 = 1))) (by kernel_rfl) rfl (by kernel_rfl) ?_
  cases h1 : decide (m2 = 1)
  · skip
    have h1p := of_decide_eq_false h1
    refine x_val (.int .i64 m2) (by kernel_rfl) rfl (by kernel_rfl) ?_
    refine x_val (.bool (decide (m2 = 2))) (by kernel_rfl) rfl (by kernel_rfl) ?_
    refine x_val (.bool (decide (m2 = 2))) (by kernel_rfl) rfl (by kernel_rfl) ?_
    refine x_val (.bool (decide (m2 = 2))) (by kernel_rfl) rfl (by kernel_rfl) ?_
    refine x_val (.bool (decide (m2 = 2))) (by kernel_rfl) rfl (by kernel_rfl) ?_
    refine x_nil ?_
    refine x_frame' { tmps := #[.agg #[.int .i64 r, .int .i64 s, .int .i64 b, .int .i64 o, .int .i64 c, .int .i64 y, .int .i64 z, .int .i64 m, .int .i64 l1, .int .i64 e1, .int .i64 l2, .int .i64 e2, .int .i64 rm, .int .i64 hv, .int .i64 lg, .bool k], .int .u64 x, .pointer (some ⟨g1, 0, none⟩), undef, .bool (decide (m2 = 2)), .int .u64 0, .int .i64 22, undef, undef, undef, undef, .pointer (some ⟨g2, 0, none⟩), .int .i64 m2, .bool k2, .int .i64 0, .pointer (some ⟨g3, 0, none⟩), .bool true, .bool false, .tuple #[.int .u64 0, .int .i64 22], .agg #[.int .i64 r, .int .i64 s, .int .i64 b, .int .i64 o, .int .i64 c, .int .i64 y, .int .i64 z, .int .i64 m, .int .i64 l1, .int .i64 e1, .int .i64 l2, .int .i64 e2, .int .i64 rm, .int .i64 hv, .int .i64 lg, .bool k], .tuple #[.int .u64 0, .int .i64 22], .int .u64 0, .int .i64 22, .agg #[.int .i64 r, .int .i64 s, .int .i64 b, .int .i64 o, .int .i64 c, .int .i64 y, .int .i64 z, .int .i64 m, .int .i64 l1, .int .i64 e1, .int .i64 l2, .int .i64 e2, .int .i64 rm, .int .i64 hv, .int .i64 lg, .bool k], .bool false, .bool true, .int .i64 22, .bool false, .bool false, .int .u64 0, .bool false, .bool false, undef, undef, undef, undef, undef, undef, undef, undef, undef, undef, undef, undef, undef, undef, undef, undef, undef, undef, undef, undef, undef, undef, undef, undef, undef, undef, undef, undef, undef, undef, undef, undef, undef, undef, undef, undef, undef, undef, undef, undef, undef, undef, .tuple #[.agg #[.int .i64 r2, .int .i64 s2, .int .i64 b2, .int .i64 o2, .int .i64 c2, .int .i64 y2, .int .i64 z2], .int .i64 m2, .bool k2, .int .i64 0], .int .u64 x, .tuple #[.agg #[.int .i64 r2, .int .i64 s2, .int .i64 b2, .int .i64 o2, .int .i64 c2, .int .i64 y2, .int .i64 z2], .int .i64 m2, .bool k2, .int .i64 0], .agg #[.int .i64 r2, .int .i64 s2, .int .i64 b2, .int .i64 o2, .int .i64 c2, .int .i64 y2, .int .i64 z2], .int .i64 m2, .bool k2, .int .i64 0, .int .i64 0, .bool false, undef, undef, undef, undef, undef, undef, undef, undef, undef, undef, undef, undef, undef, undef, undef, .pointer (some ⟨g2, 0, none⟩), .agg #[.int .i64 r2, .int .i64 s2, .int .i64 b2, .int .i64 o2, .int .i64 c2], .agg #[.int .i64 r2, .int .i64 s2, .int .i64 b2, .int .i64 o2, .int .i64 c2, .int .i64 y2, .int .i64 z2], .int .i64 m2, .bool k2, .int .u64 x, .int .u64 x, .bool true, .bool true, .agg #[.int .i64 r2, .int .i64 s2, .int .i64 b2, .int .i64 o2, .int .i64 c2], .pointer (some ⟨g2, 5, none⟩), .int .i64 y2, .pointer (some ⟨g2, 6, none⟩), .int .i64 z2, .bool true, .bool true, .bool true, .int .i64 m2, .bool false, .bool false, .int .i64 m2, .bool (decide (m2 = 2)), .bool (decide (m2 = 2)), .bool (decide (m2 = 2))], defers := [] } (by kernel_rfl) ?_
    refine x_then ?_
    refine x_retc ?_
    refine x_ret (.bool (decide (m2 = 2))) (by kernel_rfl) (by kernel_rfl) ?_
    exact ⟨by rw [show (decide (m2 = 2)) = true by simpa [h1] using hm], H.below⟩
  · skip
    have h1p := of_decide_eq_true h1
    refine x_skip (by kernel_rfl) ?_
    refine x_skip (by kernel_rfl) ?_
    refine x_val (.bool true) (by kernel_rfl) rfl (by kernel_rfl) ?_
    refine x_val (.bool true) (by kernel_rfl) rfl (by kernel_rfl) ?_
    refine x_val (.bool true) (by kernel_rfl) rfl (by kernel_rfl) ?_
    refine x_nil ?_
    refine x_frame' { tmps := #[.agg #[.int .i64 r, .int .i64 s, .int .i64 b, .int .i64 o, .int .i64 c, .int .i64 y, .int .i64 z, .int .i64 m, .int .i64 l1, .int .i64 e1, .int .i64 l2, .int .i64 e2, .int .i64 rm, .int .i64 hv, .int .i64 lg, .bool k], .int .u64 x, .pointer (some ⟨g1, 0, none⟩), undef, .bool true, .int .u64 0, .int .i64 22, undef, undef, undef, undef, .pointer (some ⟨g2, 0, none⟩), .int .i64 m2, .bool k2, .int .i64 0, .pointer (some ⟨g3, 0, none⟩), .bool true, .bool false, .tuple #[.int .u64 0, .int .i64 22], .agg #[.int .i64 r, .int .i64 s, .int .i64 b, .int .i64 o, .int .i64 c, .int .i64 y, .int .i64 z, .int .i64 m, .int .i64 l1, .int .i64 e1, .int .i64 l2, .int .i64 e2, .int .i64 rm, .int .i64 hv, .int .i64 lg, .bool k], .tuple #[.int .u64 0, .int .i64 22], .int .u64 0, .int .i64 22, .agg #[.int .i64 r, .int .i64 s, .int .i64 b, .int .i64 o, .int .i64 c, .int .i64 y, .int .i64 z, .int .i64 m, .int .i64 l1, .int .i64 e1, .int .i64 l2, .int .i64 e2, .int .i64 rm, .int .i64 hv, .int .i64 lg, .bool k], .bool false, .bool true, .int .i64 22, .bool false, .bool false, .int .u64 0, .bool false, .bool false, undef, undef, undef, undef, undef, undef, undef, undef, undef, undef, undef, undef, undef, undef, undef, undef, undef, undef, undef, undef, undef, undef, undef, undef, undef, undef, undef, undef, undef, undef, undef, undef, undef, undef, undef, undef, undef, undef, undef, undef, undef, undef, .tuple #[.agg #[.int .i64 r2, .int .i64 s2, .int .i64 b2, .int .i64 o2, .int .i64 c2, .int .i64 y2, .int .i64 z2], .int .i64 m2, .bool k2, .int .i64 0], .int .u64 x, .tuple #[.agg #[.int .i64 r2, .int .i64 s2, .int .i64 b2, .int .i64 o2, .int .i64 c2, .int .i64 y2, .int .i64 z2], .int .i64 m2, .bool k2, .int .i64 0], .agg #[.int .i64 r2, .int .i64 s2, .int .i64 b2, .int .i64 o2, .int .i64 c2, .int .i64 y2, .int .i64 z2], .int .i64 m2, .bool k2, .int .i64 0, .int .i64 0, .bool false, undef, undef, undef, undef, undef, undef, undef, undef, undef, undef, undef, undef, undef, undef, undef, .pointer (some ⟨g2, 0, none⟩), .agg #[.int .i64 r2, .int .i64 s2, .int .i64 b2, .int .i64 o2, .int .i64 c2], .agg #[.int .i64 r2, .int .i64 s2, .int .i64 b2, .int .i64 o2, .int .i64 c2, .int .i64 y2, .int .i64 z2], .int .i64 m2, .bool k2, .int .u64 x, .int .u64 x, .bool true, .bool true, .agg #[.int .i64 r2, .int .i64 s2, .int .i64 b2, .int .i64 o2, .int .i64 c2], .pointer (some ⟨g2, 5, none⟩), .int .i64 y2, .pointer (some ⟨g2, 6, none⟩), .int .i64 z2, .bool true, .bool true, .bool true, .int .i64 m2, .bool true, .bool true, undef, undef, .bool true, .bool true], defers := [] } (by kernel_rfl) ?_
    refine x_then ?_
    refine x_retc ?_
    refine x_ret (.bool true) (by kernel_rfl) (by kernel_rfl) ?_
    exact ⟨rfl, H.below⟩

set_option maxRecDepth 100000 in
set_option maxHeartbeats 1000000 in
theorem walk_yn (r s b o c y z m l1 e1 l2 e2 rm hv lg q x r2 s2 b2 o2 c2 y2 z2 m2 : Int) (k k2 : Bool) (hA : ∀ w, Calls Try.prog 15 #[] w fun e w' => e = .returned (.bool true) ∧ Below w.heap.size w w') (hC : ∀ w, Calls Try.prog 51 #[.agg #[.int .i64 r, .int .i64 s, .int .i64 b, .int .i64 o, .int .i64 c, .int .i64 y, .int .i64 z, .int .i64 m, .int .i64 l1, .int .i64 e1, .int .i64 l2, .int .i64 e2, .int .i64 rm, .int .i64 hv, .int .i64 lg, .bool k]] w fun e w' => e = .returned (.bool true) ∧ Below w.heap.size w w') (hP : ∀ w, Calls Try.prog 50 #[.agg #[.int .i64 r, .int .i64 s, .int .i64 b, .int .i64 o, .int .i64 c, .int .i64 y, .int .i64 z, .int .i64 m, .int .i64 l1, .int .i64 e1, .int .i64 l2, .int .i64 e2, .int .i64 rm, .int .i64 hv, .int .i64 lg, .bool k]] w fun e w' => e = .returned (.tuple #[.int .u64 q, .int .i64 0]) ∧ Below w.heap.size w w') (hU : ∀ w, Calls Try.prog 52 #[.int .u64 q] w fun e w' => e = .returned (.tuple #[.agg #[.int .i64 r, .int .i64 s, .int .i64 b, .int .i64 o, .int .i64 c, .int .i64 y, .int .i64 z], .int .i64 m, .bool k, .int .i64 0]) ∧ Below w.heap.size w w') (hK : ∀ w, Calls Try.prog 53 #[.agg #[.int .i64 r, .int .i64 s, .int .i64 b, .int .i64 o, .int .i64 c, .int .i64 y, .int .i64 z], .int .i64 m, .bool k] w fun e w' => e = .returned (.int .u64 q) ∧ Below w.heap.size w w') (hV : ∀ w, Calls Try.prog 52 #[.int .u64 x] w fun e w' => e = .returned (.tuple #[.agg #[.int .i64 0, .int .i64 0, .int .i64 0, .int .i64 0, .int .i64 0, .int .i64 0, .int .i64 0], .int .i64 0, .bool false, .int .i64 10]) ∧ Below w.heap.size w w') (w0 : World) :
    Calls Try.prog 14 #[.agg #[.int .i64 r, .int .i64 s, .int .i64 b, .int .i64 o, .int .i64 c, .int .i64 y, .int .i64 z, .int .i64 m, .int .i64 l1, .int .i64 e1, .int .i64 l2, .int .i64 e2, .int .i64 rm, .int .i64 hv, .int .i64 lg, .bool k], .int .u64 x] w0 fun e w' => e = .returned (.bool true) ∧ Below w0.heap.size w0 w' := by
  refine x_enter Try.func14 rfl #[.agg #[.int .i64 r, .int .i64 s, .int .i64 b, .int .i64 o, .int .i64 c, .int .i64 y, .int .i64 z, .int .i64 m, .int .i64 l1, .int .i64 e1, .int .i64 l2, .int .i64 e2, .int .i64 rm, .int .i64 hv, .int .i64 lg, .bool k], .int .u64 x, undef, undef, undef, undef, undef, undef, undef, undef, undef, undef, undef, undef, undef, undef, undef, undef, undef, undef, undef, undef, undef, undef, undef, undef, undef, undef, undef, undef, undef, undef, undef, undef, undef, undef, undef, undef, undef, undef, undef, undef, undef, undef, undef, undef, undef, undef, undef, undef, undef, undef, undef, undef, undef, undef, undef, undef, undef, undef, undef, undef, undef, undef, undef, undef, undef, undef, undef, undef, undef, undef, undef, undef, undef, undef, undef, undef, undef, undef, undef, undef, undef, undef, undef, undef, undef, undef, undef, undef, undef, undef, undef, undef, undef, undef, undef, undef, undef, undef, undef, undef, undef, undef, undef, undef, undef, undef, undef, undef, undef, undef, undef, undef, undef, undef, undef, undef, undef, undef, undef, undef] (by kernel_rfl) ?_
  have H := Hs.nil w0
  refine x_seq ?_
  refine x_region ?_
  refine x_box H #[.int .i64 r, .int .i64 s, .int .i64 b, .int .i64 o, .int .i64 c, .int .i64 y, .int .i64 z, .int .i64 m, .int .i64 l1, .int .i64 e1, .int .i64 l2, .int .i64 e2, .int .i64 rm, .int .i64 hv, .int .i64 lg, .bool k] 104 (by kernel_rfl) rfl (by kernel_rfl) ?_
  clear H
  intro v1 g1 H
  refine x_val (.bool false) (by kernel_rfl) rfl (by kernel_rfl) ?_
  refine x_nil ?_
  refine x_then ?_
  refine x_seq ?_
  refine x_seq ?_
  refine x_region ?_
  refine x_callB (.bool true) H (by kernel_rfl) rfl (by kernel_rfl) (hA _) ?_
  clear H
  intro v2 H
  refine x_val (.bool false) (by kernel_rfl) rfl (by kernel_rfl) ?_
  refine x_nil ?_
  refine x_then ?_
  refine x_f (by kernel_rfl) ?_
  refine x_skipc ?_
  refine x_then ?_
  refine x_seq ?_
  refine x_region ?_
  refine x_loadn (t := 104) H 0 g1 0 #[.int .i64 r, .int .i64 s, .int .i64 b, .int .i64 o, .int .i64 c, .int .i64 y, .int .i64 z, .int .i64 m, .int .i64 l1, .int .i64 e1, .int .i64 l2, .int .i64 e2, .int .i64 rm, .int .i64 hv, .int .i64 lg, .bool k] 104 [.int .i64 r, .int .i64 s, .int .i64 b, .int .i64 o, .int .i64 c, .int .i64 y, .int .i64 z, .int .i64 m, .int .i64 l1, .int .i64 e1, .int .i64 l2, .int .i64 e2, .int .i64 rm, .int .i64 hv, .int .i64 lg, .bool k] (by kernel_rfl) (by kernel_rfl) (by kernel_rfl) rfl (by kernel_rfl) (by kernel_rfl) ?_
  refine x_callB (.tuple #[.int .u64 q, .int .i64 0]) H (by kernel_rfl) rfl (by kernel_rfl) (hP _) ?_
  clear H
  intro v3 H
  refine x_val (.tuple #[.int .u64 q, .int .i64 0]) (by kernel_rfl) rfl (by kernel_rfl) ?_
  refine x_val (.int .u64 q) (by kernel_rfl) rfl (by kernel_rfl) ?_
  refine x_val (.int .i64 0) (by kernel_rfl) rfl (by kernel_rfl) ?_
  refine x_val (.int .u64 q) (by kernel_rfl) rfl (by kernel_rfl) ?_
  refine x_val (.int .i64 0) (by kernel_rfl) rfl (by kernel_rfl) ?_
  refine x_nil ?_
  refine x_then ?_
  refine x_seq ?_
  refine x_seq ?_
  refine x_region ?_
  refine x_loadn (t := 104) H 0 g1 0 #[.int .i64 r, .int .i64 s, .int .i64 b, .int .i64 o, .int .i64 c, .int .i64 y, .int .i64 z, .int .i64 m, .int .i64 l1, .int .i64 e1, .int .i64 l2, .int .i64 e2, .int .i64 rm, .int .i64 hv, .int .i64 lg, .bool k] 104 [.int .i64 r, .int .i64 s, .int .i64 b, .int .i64 o, .int .i64 c, .int .i64 y, .int .i64 z, .int .i64 m, .int .i64 l1, .int .i64 e1, .int .i64 l2, .int .i64 e2, .int .i64 rm, .int .i64 hv, .int .i64 lg, .bool k] (by kernel_rfl) (by kernel_rfl) (by kernel_rfl) rfl (by kernel_rfl) (by kernel_rfl) ?_
  refine x_callB (.bool true) H (by kernel_rfl) rfl (by kernel_rfl) (hC _) ?_
  clear H
  intro v4 H
  refine x_val (.bool false) (by kernel_rfl) rfl (by kernel_rfl) ?_
  refine x_nil ?_
  refine x_frame' { tmps := #[.agg #[.int .i64 r, .int .i64 s, .int .i64 b, .int .i64 o, .int .i64 c, .int .i64 y, .int .i64 z, .int .i64 m, .int .i64 l1, .int .i64 e1, .int .i64 l2, .int .i64 e2, .int .i64 rm, .int .i64 hv, .int .i64 lg, .bool k], .int .u64 x, .pointer (some ⟨g1, 0, none⟩), undef, .bool false, .int .u64 q, .int .i64 0, undef, undef, undef, undef, undef, undef, undef, undef, undef, .bool true, .bool false, .tuple #[.int .u64 q, .int .i64 0], .agg #[.int .i64 r, .int .i64 s, .int .i64 b, .int .i64 o, .int .i64 c, .int .i64 y, .int .i64 z, .int .i64 m, .int .i64 l1, .int .i64 e1, .int .i64 l2, .int .i64 e2, .int .i64 rm, .int .i64 hv, .int .i64 lg, .bool k], .tuple #[.int .u64 q, .int .i64 0], .int .u64 q, .int .i64 0, .agg #[.int .i64 r, .int .i64 s, .int .i64 b, .int .i64 o, .int .i64 c, .int .i64 y, .int .i64 z, .int .i64 m, .int .i64 l1, .int .i64 e1, .int .i64 l2, .int .i64 e2, .int .i64 rm, .int .i64 hv, .int .i64 lg, .bool k], .bool true, .bool false, undef, undef, undef, undef, undef, undef, undef, undef, undef, undef, undef, undef, undef, undef, undef, undef, undef, undef, undef, undef, undef, undef, undef, undef, undef, undef, undef, undef, undef, undef, undef, undef, undef, undef, undef, undef, undef, undef, undef, undef, undef, undef, undef, undef, undef, undef, undef, undef, undef, undef, undef, undef, undef, undef, undef, undef, undef, undef, undef, undef, undef, undef, undef, undef, undef, undef, undef, undef, undef, undef, undef, undef, undef, undef, undef, undef, undef, undef, undef, undef, undef, undef, undef, undef, undef, undef, undef, undef, undef, undef, undef, undef, undef, undef, undef, undef], defers := [] } (by kernel_rfl) ?_
  refine x_then ?_
  refine x_f (by kernel_rfl) ?_
  refine x_seq ?_
  refine x_region ?_
  refine x_val (.int .u64 q) (by kernel_rfl) rfl (by kernel_rfl) ?_
  refine x_callB (.tuple #[.agg #[.int .i64 r, .int .i64 s, .int .i64 b, .int .i64 o, .int .i64 c, .int .i64 y, .int .i64 z], .int .i64 m, .bool k, .int .i64 0]) H (by kernel_rfl) rfl (by kernel_rfl) (hU _) ?_
  clear H
  intro v5 H
  refine x_val (.tuple #[.agg #[.int .i64 r, .int .i64 s, .int .i64 b, .int .i64 o, .int .i64 c, .int .i64 y, .int .i64 z], .int .i64 m, .bool k, .int .i64 0]) (by kernel_rfl) rfl (by kernel_rfl) ?_
  refine x_val (.agg #[.int .i64 r, .int .i64 s, .int .i64 b, .int .i64 o, .int .i64 c, .int .i64 y, .int .i64 z]) (by kernel_rfl) rfl (by kernel_rfl) ?_
  refine x_val (.int .i64 m) (by kernel_rfl) rfl (by kernel_rfl) ?_
  refine x_val (.bool k) (by kernel_rfl) rfl (by kernel_rfl) ?_
  refine x_val (.int .i64 0) (by kernel_rfl) rfl (by kernel_rfl) ?_
  refine x_box H #[.int .i64 0, .int .i64 0, .int .i64 0, .int .i64 0, .int .i64 0, .int .i64 0, .int .i64 0] 100 (by kernel_rfl) rfl (by kernel_rfl) ?_
  clear H
  intro v6 g2 H
  refine x_store (t := 100) (v := .agg #[.int .i64 r, .int .i64 s, .int .i64 b, .int .i64 o, .int .i64 c, .int .i64 y, .int .i64 z]) H 0 g2 0 #[.int .i64 0, .int .i64 0, .int .i64 0, .int .i64 0, .int .i64 0, .int .i64 0, .int .i64 0] #[.int .i64 r, .int .i64 s, .int .i64 b, .int .i64 o, .int .i64 c, .int .i64 y, .int .i64 z] 100 [.int .i64 r, .int .i64 s, .int .i64 b, .int .i64 o, .int .i64 c, .int .i64 y, .int .i64 z] [.blk g2 #[.int .i64 r, .int .i64 s, .int .i64 b, .int .i64 o, .int .i64 c, .int .i64 y, .int .i64 z] 100, .blk g1 #[.int .i64 r, .int .i64 s, .int .i64 b, .int .i64 o, .int .i64 c, .int .i64 y, .int .i64 z, .int .i64 m, .int .i64 l1, .int .i64 e1, .int .i64 l2, .int .i64 e2, .int .i64 rm, .int .i64 hv, .int .i64 lg, .bool k] 104] (by kernel_rfl) rfl (by kernel_rfl) (by kernel_rfl) (by kernel_rfl) (by kernel_rfl) (by kernel_rfl) (by kernel_rfl) (by kernel_rfl) (by kernel_rfl) ?_
  clear H
  intro v7 H
  refine x_val (.int .i64 m) (by kernel_rfl) rfl (by kernel_rfl) ?_
  refine x_val (.bool k) (by kernel_rfl) rfl (by kernel_rfl) ?_
  refine x_val (.int .i64 0) (by kernel_rfl) rfl (by kernel_rfl) ?_
  refine x_nil ?_
  refine x_frame' { tmps := #[.agg #[.int .i64 r, .int .i64 s, .int .i64 b, .int .i64 o, .int .i64 c, .int .i64 y, .int .i64 z, .int .i64 m, .int .i64 l1, .int .i64 e1, .int .i64 l2, .int .i64 e2, .int .i64 rm, .int .i64 hv, .int .i64 lg, .bool k], .int .u64 x, .pointer (some ⟨g1, 0, none⟩), undef, .bool false, .int .u64 q, .int .i64 0, .pointer (some ⟨g2, 0, none⟩), .int .i64 m, .bool k, .int .i64 0, undef, undef, undef, undef, undef, .bool true, .bool false, .tuple #[.int .u64 q, .int .i64 0], .agg #[.int .i64 r, .int .i64 s, .int .i64 b, .int .i64 o, .int .i64 c, .int .i64 y, .int .i64 z, .int .i64 m, .int .i64 l1, .int .i64 e1, .int .i64 l2, .int .i64 e2, .int .i64 rm, .int .i64 hv, .int .i64 lg, .bool k], .tuple #[.int .u64 q, .int .i64 0], .int .u64 q, .int .i64 0, .agg #[.int .i64 r, .int .i64 s, .int .i64 b, .int .i64 o, .int .i64 c, .int .i64 y, .int .i64 z, .int .i64 m, .int .i64 l1, .int .i64 e1, .int .i64 l2, .int .i64 e2, .int .i64 rm, .int .i64 hv, .int .i64 lg, .bool k], .bool true, .bool false, undef, undef, undef, undef, undef, undef, .tuple #[.agg #[.int .i64 r, .int .i64 s, .int .i64 b, .int .i64 o, .int .i64 c, .int .i64 y, .int .i64 z], .int .i64 m, .bool k, .int .i64 0], .int .u64 q, .tuple #[.agg #[.int .i64 r, .int .i64 s, .int .i64 b, .int .i64 o, .int .i64 c, .int .i64 y, .int .i64 z], .int .i64 m, .bool k, .int .i64 0], .agg #[.int .i64 r, .int .i64 s, .int .i64 b, .int .i64 o, .int .i64 c, .int .i64 y, .int .i64 z], .int .i64 m, .bool k, .int .i64 0, undef, undef, undef, undef, undef, undef, undef, undef, undef, undef, undef, undef, undef, undef, undef, undef, undef, undef, undef, undef, undef, undef, undef, undef, undef, undef, undef, undef, undef, undef, undef, undef, undef, undef, undef, undef, undef, undef, undef, undef, undef, undef, undef, undef, undef, undef, undef, undef, undef, undef, undef, undef, undef, undef, undef, undef, undef, undef, undef, undef, undef, undef, undef, undef, undef, undef, undef, undef, undef, undef, undef, undef, undef, undef, undef, undef, undef, undef, undef, undef, undef, undef, undef], defers := [] } (by kernel_rfl) ?_
  refine x_then ?_
  refine x_seq ?_
  refine x_region ?_
  refine x_val (.int .i64 0) (by kernel_rfl) rfl (by kernel_rfl) ?_
  refine x_val (.bool false) (by kernel_rfl) rfl (by kernel_rfl) ?_
  refine x_val (.bool false) (by kernel_rfl) rfl (by kernel_rfl) ?_
  refine x_val (.int .u64 q) (by kernel_rfl) rfl (by kernel_rfl) ?_
  refine x_val (.pointer (some ⟨g1, 0, none⟩)) (by kernel_rfl) rfl (by kernel_rfl) ?_
  refine x_loadn (t := 100) H 1 g1 0 #[.int .i64 r, .int .i64 s, .int .i64 b, .int .i64 o, .int .i64 c, .int .i64 y, .int .i64 z, .int .i64 m, .int .i64 l1, .int .i64 e1, .int .i64 l2, .int .i64 e2, .int .i64 rm, .int .i64 hv, .int .i64 lg, .bool k] 104 [.int .i64 r, .int .i64 s, .int .i64 b, .int .i64 o, .int .i64 c, .int .i64 y, .int .i64 z] (by kernel_rfl) (by kernel_rfl) (by kernel_rfl) rfl (by kernel_rfl) (by kernel_rfl) ?_
  refine x_val (.pointer (some ⟨g1, 7, none⟩)) (by kernel_rfl) rfl (by kernel_rfl) ?_
  refine x_load1 H 1 g1 7 #[.int .i64 r, .int .i64 s, .int .i64 b, .int .i64 o, .int .i64 c, .int .i64 y, .int .i64 z, .int .i64 m, .int .i64 l1, .int .i64 e1, .int .i64 l2, .int .i64 e2, .int .i64 rm, .int .i64 hv, .int .i64 lg, .bool k] 104 (.int .i64 m) (by kernel_rfl) (by kernel_rfl) (by kernel_rfl) rfl (by kernel_rfl) ?_
  refine x_val (.pointer (some ⟨g1, 15, none⟩)) (by kernel_rfl) rfl (by kernel_rfl) ?_
  refine x_load1 H 1 g1 15 #[.int .i64 r, .int .i64 s, .int .i64 b, .int .i64 o, .int .i64 c, .int .i64 y, .int .i64 z, .int .i64 m, .int .i64 l1, .int .i64 e1, .int .i64 l2, .int .i64 e2, .int .i64 rm, .int .i64 hv, .int .i64 lg, .bool k] 104 (.bool k) (by kernel_rfl) (by kernel_rfl) (by kernel_rfl) rfl (by kernel_rfl) ?_
  refine x_callB (.int .u64 q) H (by kernel_rfl) rfl (by kernel_rfl) (hK _) ?_
  clear H
  intro v8 H
  refine x_eq (.bool false) (show Value.bool (!decide (q = q)) = Value.bool false by simp) (by kernel_rfl) rfl (by kernel_rfl) ?_
  refine x_val (.bool false) (by kernel_rfl) rfl (by kernel_rfl) ?_
  refine x_val (.bool false) (by kernel_rfl) rfl (by kernel_rfl) ?_
  refine x_val (.int .i64 0) (by kernel_rfl) rfl (by kernel_rfl) ?_
  refine x_val (.bool false) (by kernel_rfl) rfl (by kernel_rfl) ?_
  refine x_val (.bool false) (by kernel_rfl) rfl (by kernel_rfl) ?_
  refine x_val (.bool false) (by kernel_rfl) rfl (by kernel_rfl) ?_
  refine x_loadn (t := 100) H 0 g2 0 #[.int .i64 r, .int .i64 s, .int .i64 b, .int .i64 o, .int .i64 c, .int .i64 y, .int .i64 z] 100 [.int .i64 r, .int .i64 s, .int .i64 b, .int .i64 o, .int .i64 c, .int .i64 y, .int .i64 z] (by kernel_rfl) (by kernel_rfl) (by kernel_rfl) rfl (by kernel_rfl) (by kernel_rfl) ?_
  refine x_val (.pointer (some ⟨g1, 0, none⟩)) (by kernel_rfl) rfl (by kernel_rfl) ?_
  refine x_loadn (t := 100) H 1 g1 0 #[.int .i64 r, .int .i64 s, .int .i64 b, .int .i64 o, .int .i64 c, .int .i64 y, .int .i64 z, .int .i64 m, .int .i64 l1, .int .i64 e1, .int .i64 l2, .int .i64 e2, .int .i64 rm, .int .i64 hv, .int .i64 lg, .bool k] 104 [.int .i64 r, .int .i64 s, .int .i64 b, .int .i64 o, .int .i64 c, .int .i64 y, .int .i64 z] (by kernel_rfl) (by kernel_rfl) (by kernel_rfl) rfl (by kernel_rfl) (by kernel_rfl) ?_
  have h1 : ((decide ((r : Int) = r) && (decide ((s : Int) = s) && (decide ((b : Int) = b) && (decide ((o : Int) = o) && (decide ((c : Int) = c) && true))))) && (decide ((y : Int) = y) && (decide ((z : Int) = z) && true))) = true := by simp
  refine x_val (.bool false) (by kernel_rfl) rfl ((run_neS (t := 100) (x := .tmp 57) (y := .tmp 59) (xs := #[.int .i64 r, .int .i64 s, .int .i64 b, .int .i64 o, .int .i64 c, .int .i64 y, .int .i64 z]) (ys := #[.int .i64 r, .int .i64 s, .int .i64 b, .int .i64 o, .int .i64 c, .int .i64 y, .int .i64 z]) (B := (decide ((r : Int) = r) && (decide ((s : Int) = s) && (decide ((b : Int) = b) && (decide ((o : Int) = o) && (decide ((c : Int) = c) && true))))) && (decide ((y : Int) = y) && (decide ((z : Int) = z) && true))) (by kernel_rfl) (by kernel_rfl) (by kernel_rfl)).trans (by rw [h1]; rfl)) ?_
  refine x_val (.bool false) (by kernel_rfl) rfl (by kernel_rfl) ?_
  refine x_val (.bool false) (by kernel_rfl) rfl (by kernel_rfl) ?_
  refine x_val (.int .i64 m) (by kernel_rfl) rfl (by kernel_rfl) ?_
  refine x_val (.pointer (some ⟨g1, 7, none⟩)) (by kernel_rfl) rfl (by kernel_rfl) ?_
  refine x_load1 H 1 g1 7 #[.int .i64 r, .int .i64 s, .int .i64 b, .int .i64 o, .int .i64 c, .int .i64 y, .int .i64 z, .int .i64 m, .int .i64 l1, .int .i64 e1, .int .i64 l2, .int .i64 e2, .int .i64 rm, .int .i64 hv, .int .i64 lg, .bool k] 104 (.int .i64 m) (by kernel_rfl) (by kernel_rfl) (by kernel_rfl) rfl (by kernel_rfl) ?_
  refine x_eq (.bool false) (show Value.bool (!decide (m = m)) = Value.bool false by simp) (by kernel_rfl) rfl (by kernel_rfl) ?_
  refine x_val (.bool false) (by kernel_rfl) rfl (by kernel_rfl) ?_
  refine x_val (.bool false) (by kernel_rfl) rfl (by kernel_rfl) ?_
  refine x_val (.bool k) (by kernel_rfl) rfl (by kernel_rfl) ?_
  refine x_val (.pointer (some ⟨g1, 15, none⟩)) (by kernel_rfl) rfl (by kernel_rfl) ?_
  refine x_load1 H 1 g1 15 #[.int .i64 r, .int .i64 s, .int .i64 b, .int .i64 o, .int .i64 c, .int .i64 y, .int .i64 z, .int .i64 m, .int .i64 l1, .int .i64 e1, .int .i64 l2, .int .i64 e2, .int .i64 rm, .int .i64 hv, .int .i64 lg, .bool k] 104 (.bool k) (by kernel_rfl) (by kernel_rfl) (by kernel_rfl) rfl (by kernel_rfl) ?_
  refine x_eq (.bool false) (show Value.bool (k != k) = Value.bool false by simp) (by kernel_rfl) rfl (by kernel_rfl) ?_
  refine x_val (.bool false) (by kernel_rfl) rfl (by kernel_rfl) ?_
  refine x_nil ?_
  refine x_frame' { tmps := #[.agg #[.int .i64 r, .int .i64 s, .int .i64 b, .int .i64 o, .int .i64 c, .int .i64 y, .int .i64 z, .int .i64 m, .int .i64 l1, .int .i64 e1, .int .i64 l2, .int .i64 e2, .int .i64 rm, .int .i64 hv, .int .i64 lg, .bool k], .int .u64 x, .pointer (some ⟨g1, 0, none⟩), undef, .bool false, .int .u64 q, .int .i64 0, .pointer (some ⟨g2, 0, none⟩), .int .i64 m, .bool k, .int .i64 0, undef, undef, undef, undef, undef, .bool true, .bool false, .tuple #[.int .u64 q, .int .i64 0], .agg #[.int .i64 r, .int .i64 s, .int .i64 b, .int .i64 o, .int .i64 c, .int .i64 y, .int .i64 z, .int .i64 m, .int .i64 l1, .int .i64 e1, .int .i64 l2, .int .i64 e2, .int .i64 rm, .int .i64 hv, .int .i64 lg, .bool k], .tuple #[.int .u64 q, .int .i64 0], .int .u64 q, .int .i64 0, .agg #[.int .i64 r, .int .i64 s, .int .i64 b, .int .i64 o, .int .i64 c, .int .i64 y, .int .i64 z, .int .i64 m, .int .i64 l1, .int .i64 e1, .int .i64 l2, .int .i64 e2, .int .i64 rm, .int .i64 hv, .int .i64 lg, .bool k], .bool true, .bool false, undef, undef, undef, undef, undef, undef, .tuple #[.agg #[.int .i64 r, .int .i64 s, .int .i64 b, .int .i64 o, .int .i64 c, .int .i64 y, .int .i64 z], .int .i64 m, .bool k, .int .i64 0], .int .u64 q, .tuple #[.agg #[.int .i64 r, .int .i64 s, .int .i64 b, .int .i64 o, .int .i64 c, .int .i64 y, .int .i64 z], .int .i64 m, .bool k, .int .i64 0], .agg #[.int .i64 r, .int .i64 s, .int .i64 b, .int .i64 o, .int .i64 c, .int .i64 y, .int .i64 z], .int .i64 m, .bool k, .int .i64 0, .int .i64 0, .bool false, .bool false, .int .u64 q, .pointer (some ⟨g1, 0, none⟩), .agg #[.int .i64 r, .int .i64 s, .int .i64 b, .int .i64 o, .int .i64 c, .int .i64 y, .int .i64 z], .pointer (some ⟨g1, 7, none⟩), .int .i64 m, .pointer (some ⟨g1, 15, none⟩), .bool k, .int .u64 q, .bool false, .bool false, .bool false, .int .i64 0, .bool false, .bool false, .bool false, .agg #[.int .i64 r, .int .i64 s, .int .i64 b, .int .i64 o, .int .i64 c, .int .i64 y, .int .i64 z], .pointer (some ⟨g1, 0, none⟩), .agg #[.int .i64 r, .int .i64 s, .int .i64 b, .int .i64 o, .int .i64 c, .int .i64 y, .int .i64 z], .bool false, .bool false, .bool false, .int .i64 m, .pointer (some ⟨g1, 7, none⟩), .int .i64 m, .bool false, .bool false, .bool false, .bool k, .pointer (some ⟨g1, 15, none⟩), .bool k, .bool false, .bool false, undef, undef, undef, undef, undef, undef, undef, undef, undef, undef, undef, undef, undef, undef, undef, undef, undef, undef, undef, undef, undef, undef, undef, undef, undef, undef, undef, undef, undef, undef, undef, undef, undef, undef, undef, undef, undef, undef, undef, undef, undef, undef, undef, undef, undef, undef, undef, undef], defers := [] } (by kernel_rfl) ?_
  refine x_then ?_
  refine x_f (by kernel_rfl) ?_
  refine x_skipc ?_
  refine x_then ?_
  refine x_seq ?_
  refine x_region ?_
  refine x_val (.int .u64 x) (by kernel_rfl) rfl (by kernel_rfl) ?_
  refine x_callB (.tuple #[.agg #[.int .i64 0, .int .i64 0, .int .i64 0, .int .i64 0, .int .i64 0, .int .i64 0, .int .i64 0], .int .i64 0, .bool false, .int .i64 10]) H (by kernel_rfl) rfl (by kernel_rfl) (hV _) ?_
  clear H
  intro v9 H
  refine x_val (.tuple #[.agg #[.int .i64 0, .int .i64 0, .int .i64 0, .int .i64 0, .int .i64 0, .int .i64 0, .int .i64 0], .int .i64 0, .bool false, .int .i64 10]) (by kernel_rfl) rfl (by kernel_rfl) ?_
  refine x_val (.agg #[.int .i64 0, .int .i64 0, .int .i64 0, .int .i64 0, .int .i64 0, .int .i64 0, .int .i64 0]) (by kernel_rfl) rfl (by kernel_rfl) ?_
  refine x_val (.int .i64 0) (by kernel_rfl) rfl (by kernel_rfl) ?_
  refine x_val (.bool false) (by kernel_rfl) rfl (by kernel_rfl) ?_
  refine x_val (.int .i64 10) (by kernel_rfl) rfl (by kernel_rfl) ?_
  refine x_box H #[.int .i64 0, .int .i64 0, .int .i64 0, .int .i64 0, .int .i64 0, .int .i64 0, .int .i64 0] 100 (by kernel_rfl) rfl (by kernel_rfl) ?_
  clear H
  intro v10 g3 H
  refine x_store (t := 100) (v := .agg #[.int .i64 0, .int .i64 0, .int .i64 0, .int .i64 0, .int .i64 0, .int .i64 0, .int .i64 0]) H 0 g3 0 #[.int .i64 0, .int .i64 0, .int .i64 0, .int .i64 0, .int .i64 0, .int .i64 0, .int .i64 0] #[.int .i64 0, .int .i64 0, .int .i64 0, .int .i64 0, .int .i64 0, .int .i64 0, .int .i64 0] 100 [.int .i64 0, .int .i64 0, .int .i64 0, .int .i64 0, .int .i64 0, .int .i64 0, .int .i64 0] [.blk g3 #[.int .i64 0, .int .i64 0, .int .i64 0, .int .i64 0, .int .i64 0, .int .i64 0, .int .i64 0] 100, .blk g2 #[.int .i64 r, .int .i64 s, .int .i64 b, .int .i64 o, .int .i64 c, .int .i64 y, .int .i64 z] 100, .blk g1 #[.int .i64 r, .int .i64 s, .int .i64 b, .int .i64 o, .int .i64 c, .int .i64 y, .int .i64 z, .int .i64 m, .int .i64 l1, .int .i64 e1, .int .i64 l2, .int .i64 e2, .int .i64 rm, .int .i64 hv, .int .i64 lg, .bool k] 104] (by kernel_rfl) rfl (by kernel_rfl) (by kernel_rfl) (by kernel_rfl) (by kernel_rfl) (by kernel_rfl) (by kernel_rfl) (by kernel_rfl) (by kernel_rfl) ?_
  clear H
  intro v11 H
  refine x_val (.int .i64 0) (by kernel_rfl) rfl (by kernel_rfl) ?_
  refine x_val (.bool false) (by kernel_rfl) rfl (by kernel_rfl) ?_
  refine x_val (.int .i64 10) (by kernel_rfl) rfl (by kernel_rfl) ?_
  refine x_nil ?_
  refine x_frame' { tmps := #[.agg #[.int .i64 r, .int .i64 s, .int .i64 b, .int .i64 o, .int .i64 c, .int .i64 y, .int .i64 z, .int .i64 m, .int .i64 l1, .int .i64 e1, .int .i64 l2, .int .i64 e2, .int .i64 rm, .int .i64 hv, .int .i64 lg, .bool k], .int .u64 x, .pointer (some ⟨g1, 0, none⟩), undef, .bool false, .int .u64 q, .int .i64 0, .pointer (some ⟨g2, 0, none⟩), .int .i64 m, .bool k, .int .i64 0, .pointer (some ⟨g3, 0, none⟩), .int .i64 0, .bool false, .int .i64 10, undef, .bool true, .bool false, .tuple #[.int .u64 q, .int .i64 0], .agg #[.int .i64 r, .int .i64 s, .int .i64 b, .int .i64 o, .int .i64 c, .int .i64 y, .int .i64 z, .int .i64 m, .int .i64 l1, .int .i64 e1, .int .i64 l2, .int .i64 e2, .int .i64 rm, .int .i64 hv, .int .i64 lg, .bool k], .tuple #[.int .u64 q, .int .i64 0], .int .u64 q, .int .i64 0, .agg #[.int .i64 r, .int .i64 s, .int .i64 b, .int .i64 o, .int .i64 c, .int .i64 y, .int .i64 z, .int .i64 m, .int .i64 l1, .int .i64 e1, .int .i64 l2, .int .i64 e2, .int .i64 rm, .int .i64 hv, .int .i64 lg, .bool k], .bool true, .bool false, undef, undef, undef, undef, undef, undef, .tuple #[.agg #[.int .i64 r, .int .i64 s, .int .i64 b, .int .i64 o, .int .i64 c, .int .i64 y, .int .i64 z], .int .i64 m, .bool k, .int .i64 0], .int .u64 q, .tuple #[.agg #[.int .i64 r, .int .i64 s, .int .i64 b, .int .i64 o, .int .i64 c, .int .i64 y, .int .i64 z], .int .i64 m, .bool k, .int .i64 0], .agg #[.int .i64 r, .int .i64 s, .int .i64 b, .int .i64 o, .int .i64 c, .int .i64 y, .int .i64 z], .int .i64 m, .bool k, .int .i64 0, .int .i64 0, .bool false, .bool false, .int .u64 q, .pointer (some ⟨g1, 0, none⟩), .agg #[.int .i64 r, .int .i64 s, .int .i64 b, .int .i64 o, .int .i64 c, .int .i64 y, .int .i64 z], .pointer (some ⟨g1, 7, none⟩), .int .i64 m, .pointer (some ⟨g1, 15, none⟩), .bool k, .int .u64 q, .bool false, .bool false, .bool false, .int .i64 0, .bool false, .bool false, .bool false, .agg #[.int .i64 r, .int .i64 s, .int .i64 b, .int .i64 o, .int .i64 c, .int .i64 y, .int .i64 z], .pointer (some ⟨g1, 0, none⟩), .agg #[.int .i64 r, .int .i64 s, .int .i64 b, .int .i64 o, .int .i64 c, .int .i64 y, .int .i64 z], .bool false, .bool false, .bool false, .int .i64 m, .pointer (some ⟨g1, 7, none⟩), .int .i64 m, .bool false, .bool false, .bool false, .bool k, .pointer (some ⟨g1, 15, none⟩), .bool k, .bool false, .bool false, .tuple #[.agg #[.int .i64 0, .int .i64 0, .int .i64 0, .int .i64 0, .int .i64 0, .int .i64 0, .int .i64 0], .int .i64 0, .bool false, .int .i64 10], .int .u64 x, .tuple #[.agg #[.int .i64 0, .int .i64 0, .int .i64 0, .int .i64 0, .int .i64 0, .int .i64 0, .int .i64 0], .int .i64 0, .bool false, .int .i64 10], .agg #[.int .i64 0, .int .i64 0, .int .i64 0, .int .i64 0, .int .i64 0, .int .i64 0, .int .i64 0], .int .i64 0, .bool false, .int .i64 10, undef, undef, undef, undef, undef, undef, undef, undef, undef, undef, undef, undef, undef, undef, undef, undef, undef, undef, undef, undef, undef, undef, undef, undef, undef, undef, undef, undef, undef, undef, undef, undef, undef, undef, undef, undef, undef, undef, undef, undef, undef], defers := [] } (by kernel_rfl) ?_
  refine x_then ?_
  refine x_seq ?_
  refine x_seq ?_
  refine x_region ?_
  refine x_val (.int .i64 10) (by kernel_rfl) rfl (by kernel_rfl) ?_
  refine x_val (.bool true) (by kernel_rfl) rfl (by kernel_rfl) ?_
  refine x_nil ?_
  refine x_then ?_
  refine x_t (by kernel_rfl) ?_
  refine x_seq ?_
  refine x_region ?_
  refine x_val (.int .i64 10) (by kernel_rfl) rfl (by kernel_rfl) ?_
  refine x_val (.bool true) (by kernel_rfl) rfl (by kernel_rfl) ?_
  refine x_val (.bool true) (by kernel_rfl) rfl (by kernel_rfl) ?_
  refine x_loadn (t := 100) H 0 g3 0 #[.int .i64 0, .int .i64 0, .int .i64 0, .int .i64 0, .int .i64 0, .int .i64 0, .int .i64 0] 100 [.int .i64 0, .int .i64 0, .int .i64 0, .int .i64 0, .int .i64 0, .int .i64 0, .int .i64 0] (by kernel_rfl) (by kernel_rfl) (by kernel_rfl) rfl (by kernel_rfl) (by kernel_rfl) ?_
  refine x_val (.agg #[.int .i64 0, .int .i64 0, .int .i64 0, .int .i64 0, .int .i64 0, .int .i64 0, .int .i64 0]) (by kernel_rfl) rfl (by kernel_rfl) ?_
  refine x_val (.bool true) (by kernel_rfl) rfl (run_eqS (t := 100) (x := .tmp 86) (y := .tmp 87) (xs := #[.int .i64 0, .int .i64 0, .int .i64 0, .int .i64 0, .int .i64 0, .int .i64 0, .int .i64 0]) (ys := #[.int .i64 0, .int .i64 0, .int .i64 0, .int .i64 0, .int .i64 0, .int .i64 0, .int .i64 0]) (B := true) (by kernel_rfl) (by kernel_rfl) (by kernel_rfl)) ?_
  refine x_val (.bool true) (by kernel_rfl) rfl (by kernel_rfl) ?_
  refine x_val (.bool true) (by kernel_rfl) rfl (by kernel_rfl) ?_
  refine x_val (.int .i64 0) (by kernel_rfl) rfl (by kernel_rfl) ?_
  refine x_val (.bool true) (by kernel_rfl) rfl (by kernel_rfl) ?_
  refine x_val (.bool true) (by kernel_rfl) rfl (by kernel_rfl) ?_
  refine x_val (.bool true) (by kernel_rfl) rfl (by kernel_rfl) ?_
  refine x_val (.bool false) (by kernel_rfl) rfl (by kernel_rfl) ?_
  refine x_val (.bool true) (by kernel_rfl) rfl (by kernel_rfl) ?_
  refine x_val (.bool true) (by kernel_rfl) rfl (by kernel_rfl) ?_
  refine x_val (.bool true) (by kernel_rfl) rfl (by kernel_rfl) ?_
  refine x_nil ?_
  refine x_frame' { tmps := #[.agg #[.int .i64 r, .int .i64 s, .int .i64 b, .int .i64 o, .int .i64 c, .int .i64 y, .int .i64 z, .int .i64 m, .int .i64 l1, .int .i64 e1, .int .i64 l2, .int .i64 e2, .int .i64 rm, .int .i64 hv, .int .i64 lg, .bool k], .int .u64 x, .pointer (some ⟨g1, 0, none⟩), undef, .bool true, .int .u64 q, .int .i64 0, .pointer (some ⟨g2, 0, none⟩), .int .i64 m, .bool k, .int .i64 0, .pointer (some ⟨g3, 0, none⟩), .int .i64 0, .bool false, .int .i64 10, undef, .bool true, .bool false, .tuple #[.int .u64 q, .int .i64 0], .agg #[.int .i64 r, .int .i64 s, .int .i64 b, .int .i64 o, .int .i64 c, .int .i64 y, .int .i64 z, .int .i64 m, .int .i64 l1, .int .i64 e1, .int .i64 l2, .int .i64 e2, .int .i64 rm, .int .i64 hv, .int .i64 lg, .bool k], .tuple #[.int .u64 q, .int .i64 0], .int .u64 q, .int .i64 0, .agg #[.int .i64 r, .int .i64 s, .int .i64 b, .int .i64 o, .int .i64 c, .int .i64 y, .int .i64 z, .int .i64 m, .int .i64 l1, .int .i64 e1, .int .i64 l2, .int .i64 e2, .int .i64 rm, .int .i64 hv, .int .i64 lg, .bool k], .bool true, .bool false, undef, undef, undef, undef, undef, undef, .tuple #[.agg #[.int .i64 r, .int .i64 s, .int .i64 b, .int .i64 o, .int .i64 c, .int .i64 y, .int .i64 z], .int .i64 m, .bool k, .int .i64 0], .int .u64 q, .tuple #[.agg #[.int .i64 r, .int .i64 s, .int .i64 b, .int .i64 o, .int .i64 c, .int .i64 y, .int .i64 z], .int .i64 m, .bool k, .int .i64 0], .agg #[.int .i64 r, .int .i64 s, .int .i64 b, .int .i64 o, .int .i64 c, .int .i64 y, .int .i64 z], .int .i64 m, .bool k, .int .i64 0, .int .i64 0, .bool false, .bool false, .int .u64 q, .pointer (some ⟨g1, 0, none⟩), .agg #[.int .i64 r, .int .i64 s, .int .i64 b, .int .i64 o, .int .i64 c, .int .i64 y, .int .i64 z], .pointer (some ⟨g1, 7, none⟩), .int .i64 m, .pointer (some ⟨g1, 15, none⟩), .bool k, .int .u64 q, .bool false, .bool false, .bool false, .int .i64 0, .bool false, .bool false, .bool false, .agg #[.int .i64 r, .int .i64 s, .int .i64 b, .int .i64 o, .int .i64 c, .int .i64 y, .int .i64 z], .pointer (some ⟨g1, 0, none⟩), .agg #[.int .i64 r, .int .i64 s, .int .i64 b, .int .i64 o, .int .i64 c, .int .i64 y, .int .i64 z], .bool false, .bool false, .bool false, .int .i64 m, .pointer (some ⟨g1, 7, none⟩), .int .i64 m, .bool false, .bool false, .bool false, .bool k, .pointer (some ⟨g1, 15, none⟩), .bool k, .bool false, .bool false, .tuple #[.agg #[.int .i64 0, .int .i64 0, .int .i64 0, .int .i64 0, .int .i64 0, .int .i64 0, .int .i64 0], .int .i64 0, .bool false, .int .i64 10], .int .u64 x, .tuple #[.agg #[.int .i64 0, .int .i64 0, .int .i64 0, .int .i64 0, .int .i64 0, .int .i64 0, .int .i64 0], .int .i64 0, .bool false, .int .i64 10], .agg #[.int .i64 0, .int .i64 0, .int .i64 0, .int .i64 0, .int .i64 0, .int .i64 0, .int .i64 0], .int .i64 0, .bool false, .int .i64 10, .int .i64 10, .bool true, .int .i64 10, .bool true, .bool true, .agg #[.int .i64 0, .int .i64 0, .int .i64 0, .int .i64 0, .int .i64 0, .int .i64 0, .int .i64 0], .agg #[.int .i64 0, .int .i64 0, .int .i64 0, .int .i64 0, .int .i64 0, .int .i64 0, .int .i64 0], .bool true, .bool true, .bool true, .int .i64 0, .bool true, .bool true, .bool true, .bool false, .bool true, .bool true, undef, undef, undef, undef, undef, undef, undef, undef, undef, undef, undef, undef, undef, undef, undef, undef, undef, undef, undef, undef, undef, undef, undef, undef], defers := [] } (by kernel_rfl) ?_
  refine x_then ?_
  refine x_retc ?_
  refine x_then_ret ?_
  refine x_ret (.bool true) (by kernel_rfl) (by kernel_rfl) ?_
  exact ⟨rfl, H.below⟩

set_option maxRecDepth 100000 in
set_option maxHeartbeats 1000000 in
theorem walk_yy (r s b o c y z m l1 e1 l2 e2 rm hv lg q x r2 s2 b2 o2 c2 y2 z2 m2 : Int) (k k2 : Bool) (hA : ∀ w, Calls Try.prog 15 #[] w fun e w' => e = .returned (.bool true) ∧ Below w.heap.size w w') (hC : ∀ w, Calls Try.prog 51 #[.agg #[.int .i64 r, .int .i64 s, .int .i64 b, .int .i64 o, .int .i64 c, .int .i64 y, .int .i64 z, .int .i64 m, .int .i64 l1, .int .i64 e1, .int .i64 l2, .int .i64 e2, .int .i64 rm, .int .i64 hv, .int .i64 lg, .bool k]] w fun e w' => e = .returned (.bool true) ∧ Below w.heap.size w w') (hP : ∀ w, Calls Try.prog 50 #[.agg #[.int .i64 r, .int .i64 s, .int .i64 b, .int .i64 o, .int .i64 c, .int .i64 y, .int .i64 z, .int .i64 m, .int .i64 l1, .int .i64 e1, .int .i64 l2, .int .i64 e2, .int .i64 rm, .int .i64 hv, .int .i64 lg, .bool k]] w fun e w' => e = .returned (.tuple #[.int .u64 q, .int .i64 0]) ∧ Below w.heap.size w w') (hU : ∀ w, Calls Try.prog 52 #[.int .u64 q] w fun e w' => e = .returned (.tuple #[.agg #[.int .i64 r, .int .i64 s, .int .i64 b, .int .i64 o, .int .i64 c, .int .i64 y, .int .i64 z], .int .i64 m, .bool k, .int .i64 0]) ∧ Below w.heap.size w w') (hK : ∀ w, Calls Try.prog 53 #[.agg #[.int .i64 r, .int .i64 s, .int .i64 b, .int .i64 o, .int .i64 c, .int .i64 y, .int .i64 z], .int .i64 m, .bool k] w fun e w' => e = .returned (.int .u64 q) ∧ Below w.heap.size w w') (hV : ∀ w, Calls Try.prog 52 #[.int .u64 x] w fun e w' => e = .returned (.tuple #[.agg #[.int .i64 r2, .int .i64 s2, .int .i64 b2, .int .i64 o2, .int .i64 c2, .int .i64 y2, .int .i64 z2], .int .i64 m2, .bool k2, .int .i64 0]) ∧ Below w.heap.size w w') (hL : ∀ w, Calls Try.prog 53 #[.agg #[.int .i64 r2, .int .i64 s2, .int .i64 b2, .int .i64 o2, .int .i64 c2, .int .i64 y2, .int .i64 z2], .int .i64 m2, .bool k2] w fun e w' => e = .returned (.int .u64 x) ∧ Below w.heap.size w w') (hR : ∀ w, Calls Try.prog 54 #[.agg #[.int .i64 r2, .int .i64 s2, .int .i64 b2, .int .i64 o2, .int .i64 c2], .int .i64 y2, .int .i64 z2] w fun e w' => e = .returned (.bool true) ∧ Below w.heap.size w w') (hm : (decide (m2 = 1) || decide (m2 = 2)) = true) (w0 : World) :
    Calls Try.prog 14 #[.agg #[.int .i64 r, .int .i64 s, .int .i64 b, .int .i64 o, .int .i64 c, .int .i64 y, .int .i64 z, .int .i64 m, .int .i64 l1, .int .i64 e1, .int .i64 l2, .int .i64 e2, .int .i64 rm, .int .i64 hv, .int .i64 lg, .bool k], .int .u64 x] w0 fun e w' => e = .returned (.bool true) ∧ Below w0.heap.size w0 w' := by
  refine x_enter Try.func14 rfl #[.agg #[.int .i64 r, .int .i64 s, .int .i64 b, .int .i64 o, .int .i64 c, .int .i64 y, .int .i64 z, .int .i64 m, .int .i64 l1, .int .i64 e1, .int .i64 l2, .int .i64 e2, .int .i64 rm, .int .i64 hv, .int .i64 lg, .bool k], .int .u64 x, undef, undef, undef, undef, undef, undef, undef, undef, undef, undef, undef, undef, undef, undef, undef, undef, undef, undef, undef, undef, undef, undef, undef, undef, undef, undef, undef, undef, undef, undef, undef, undef, undef, undef, undef, undef, undef, undef, undef, undef, undef, undef, undef, undef, undef, undef, undef, undef, undef, undef, undef, undef, undef, undef, undef, undef, undef, undef, undef, undef, undef, undef, undef, undef, undef, undef, undef, undef, undef, undef, undef, undef, undef, undef, undef, undef, undef, undef, undef, undef, undef, undef, undef, undef, undef, undef, undef, undef, undef, undef, undef, undef, undef, undef, undef, undef, undef, undef, undef, undef, undef, undef, undef, undef, undef, undef, undef, undef, undef, undef, undef, undef, undef, undef, undef, undef, undef, undef, undef, undef] (by kernel_rfl) ?_
  have H := Hs.nil w0
  refine x_seq ?_
  refine x_region ?_
  refine x_box H #[.int .i64 r, .int .i64 s, .int .i64 b, .int .i64 o, .int .i64 c, .int .i64 y, .int .i64 z, .int .i64 m, .int .i64 l1, .int .i64 e1, .int .i64 l2, .int .i64 e2, .int .i64 rm, .int .i64 hv, .int .i64 lg, .bool k] 104 (by kernel_rfl) rfl (by kernel_rfl) ?_
  clear H
  intro v1 g1 H
  refine x_val (.bool false) (by kernel_rfl) rfl (by kernel_rfl) ?_
  refine x_nil ?_
  refine x_then ?_
  refine x_seq ?_
  refine x_seq ?_
  refine x_region ?_
  refine x_callB (.bool true) H (by kernel_rfl) rfl (by kernel_rfl) (hA _) ?_
  clear H
  intro v2 H
  refine x_val (.bool false) (by kernel_rfl) rfl (by kernel_rfl) ?_
  refine x_nil ?_
  refine x_then ?_
  refine x_f (by kernel_rfl) ?_
  refine x_skipc ?_
  refine x_then ?_
  refine x_seq ?_
  refine x_region ?_
  refine x_loadn (t := 104) H 0 g1 0 #[.int .i64 r, .int .i64 s, .int .i64 b, .int .i64 o, .int .i64 c, .int .i64 y, .int .i64 z, .int .i64 m, .int .i64 l1, .int .i64 e1, .int .i64 l2, .int .i64 e2, .int .i64 rm, .int .i64 hv, .int .i64 lg, .bool k] 104 [.int .i64 r, .int .i64 s, .int .i64 b, .int .i64 o, .int .i64 c, .int .i64 y, .int .i64 z, .int .i64 m, .int .i64 l1, .int .i64 e1, .int .i64 l2, .int .i64 e2, .int .i64 rm, .int .i64 hv, .int .i64 lg, .bool k] (by kernel_rfl) (by kernel_rfl) (by kernel_rfl) rfl (by kernel_rfl) (by kernel_rfl) ?_
  refine x_callB (.tuple #[.int .u64 q, .int .i64 0]) H (by kernel_rfl) rfl (by kernel_rfl) (hP _) ?_
  clear H
  intro v3 H
  refine x_val (.tuple #[.int .u64 q, .int .i64 0]) (by kernel_rfl) rfl (by kernel_rfl) ?_
  refine x_val (.int .u64 q) (by kernel_rfl) rfl (by kernel_rfl) ?_
  refine x_val (.int .i64 0) (by kernel_rfl) rfl (by kernel_rfl) ?_
  refine x_val (.int .u64 q) (by kernel_rfl) rfl (by kernel_rfl) ?_
  refine x_val (.int .i64 0) (by kernel_rfl) rfl (by kernel_rfl) ?_
  refine x_nil ?_
  refine x_then ?_
  refine x_seq ?_
  refine x_seq ?_
  refine x_region ?_
  refine x_loadn (t := 104) H 0 g1 0 #[.int .i64 r, .int .i64 s, .int .i64 b, .int .i64 o, .int .i64 c, .int .i64 y, .int .i64 z, .int .i64 m, .int .i64 l1, .int .i64 e1, .int .i64 l2, .int .i64 e2, .int .i64 rm, .int .i64 hv, .int .i64 lg, .bool k] 104 [.int .i64 r, .int .i64 s, .int .i64 b, .int .i64 o, .int .i64 c, .int .i64 y, .int .i64 z, .int .i64 m, .int .i64 l1, .int .i64 e1, .int .i64 l2, .int .i64 e2, .int .i64 rm, .int .i64 hv, .int .i64 lg, .bool k] (by kernel_rfl) (by kernel_rfl) (by kernel_rfl) rfl (by kernel_rfl) (by kernel_rfl) ?_
  refine x_callB (.bool true) H (by kernel_rfl) rfl (by kernel_rfl) (hC _) ?_
  clear H
  intro v4 H
  refine x_val (.bool false) (by kernel_rfl) rfl (by kernel_rfl) ?_
  refine x_nil ?_
  refine x_frame' { tmps := #[.agg #[.int .i64 r, .int .i64 s, .int .i64 b, .int .i64 o, .int .i64 c, .int .i64 y, .int .i64 z, .int .i64 m, .int .i64 l1, .int .i64 e1, .int .i64 l2, .int .i64 e2, .int .i64 rm, .int .i64 hv, .int .i64 lg, .bool k], .int .u64 x, .pointer (some ⟨g1, 0, none⟩), undef, .bool false, .int .u64 q, .int .i64 0, undef, undef, undef, undef, undef, undef, undef, undef, undef, .bool true, .bool false, .tuple #[.int .u64 q, .int .i64 0], .agg #[.int .i64 r, .int .i64 s, .int .i64 b, .int .i64 o, .int .i64 c, .int .i64 y, .int .i64 z, .int .i64 m, .int .i64 l1, .int .i64 e1, .int .i64 l2, .int .i64 e2, .int .i64 rm, .int .i64 hv, .int .i64 lg, .bool k], .tuple #[.int .u64 q, .int .i64 0], .int .u64 q, .int .i64 0, .agg #[.int .i64 r, .int .i64 s, .int .i64 b, .int .i64 o, .int .i64 c, .int .i64 y, .int .i64 z, .int .i64 m, .int .i64 l1, .int .i64 e1, .int .i64 l2, .int .i64 e2, .int .i64 rm, .int .i64 hv, .int .i64 lg, .bool k], .bool true, .bool false, undef, undef, undef, undef, undef, undef, undef, undef, undef, undef, undef, undef, undef, undef, undef, undef, undef, undef, undef, undef, undef, undef, undef, undef, undef, undef, undef, undef, undef, undef, undef, undef, undef, undef, undef, undef, undef, undef, undef, undef, undef, undef, undef, undef, undef, undef, undef, undef, undef, undef, undef, undef, undef, undef, undef, undef, undef, undef, undef, undef, undef, undef, undef, undef, undef, undef, undef, undef, undef, undef, undef, undef, undef, undef, undef, undef, undef, undef, undef, undef, undef, undef, undef, undef, undef, undef, undef, undef, undef, undef, undef, undef, undef, undef, undef, undef], defers := [] } (by kernel_rfl) ?_
  refine x_then ?_
  refine x_f (by kernel_rfl) ?_
  refine x_seq ?_
  refine x_region ?_
  refine x_val (.int .u64 q) (by kernel_rfl) rfl (by kernel_rfl) ?_
  refine x_callB (.tuple #[.agg #[.int .i64 r, .int .i64 s, .int .i64 b, .int .i64 o, .int .i64 c, .int .i64 y, .int .i64 z], .int .i64 m, .bool k, .int .i64 0]) H (by kernel_rfl) rfl (by kernel_rfl) (hU _) ?_
  clear H
  intro v5 H
  refine x_val (.tuple #[.agg #[.int .i64 r, .int .i64 s, .int .i64 b, .int .i64 o, .int .i64 c, .int .i64 y, .int .i64 z], .int .i64 m, .bool k, .int .i64 0]) (by kernel_rfl) rfl (by kernel_rfl) ?_
  refine x_val (.agg #[.int .i64 r, .int .i64 s, .int .i64 b, .int .i64 o, .int .i64 c, .int .i64 y, .int .i64 z]) (by kernel_rfl) rfl (by kernel_rfl) ?_
  refine x_val (.int .i64 m) (by kernel_rfl) rfl (by kernel_rfl) ?_
  refine x_val (.bool k) (by kernel_rfl) rfl (by kernel_rfl) ?_
  refine x_val (.int .i64 0) (by kernel_rfl) rfl (by kernel_rfl) ?_
  refine x_box H #[.int .i64 0, .int .i64 0, .int .i64 0, .int .i64 0, .int .i64 0, .int .i64 0, .int .i64 0] 100 (by kernel_rfl) rfl (by kernel_rfl) ?_
  clear H
  intro v6 g2 H
  refine x_store (t := 100) (v := .agg #[.int .i64 r, .int .i64 s, .int .i64 b, .int .i64 o, .int .i64 c, .int .i64 y, .int .i64 z]) H 0 g2 0 #[.int .i64 0, .int .i64 0, .int .i64 0, .int .i64 0, .int .i64 0, .int .i64 0, .int .i64 0] #[.int .i64 r, .int .i64 s, .int .i64 b, .int .i64 o, .int .i64 c, .int .i64 y, .int .i64 z] 100 [.int .i64 r, .int .i64 s, .int .i64 b, .int .i64 o, .int .i64 c, .int .i64 y, .int .i64 z] [.blk g2 #[.int .i64 r, .int .i64 s, .int .i64 b, .int .i64 o, .int .i64 c, .int .i64 y, .int .i64 z] 100, .blk g1 #[.int .i64 r, .int .i64 s, .int .i64 b, .int .i64 o, .int .i64 c, .int .i64 y, .int .i64 z, .int .i64 m, .int .i64 l1, .int .i64 e1, .int .i64 l2, .int .i64 e2, .int .i64 rm, .int .i64 hv, .int .i64 lg, .bool k] 104] (by kernel_rfl) rfl (by kernel_rfl) (by kernel_rfl) (by kernel_rfl) (by kernel_rfl) (by kernel_rfl) (by kernel_rfl) (by kernel_rfl) (by kernel_rfl) ?_
  clear H
  intro v7 H
  refine x_val (.int .i64 m) (by kernel_rfl) rfl (by kernel_rfl) ?_
  refine x_val (.bool k) (by kernel_rfl) rfl (by kernel_rfl) ?_
  refine x_val (.int .i64 0) (by kernel_rfl) rfl (by kernel_rfl) ?_
  refine x_nil ?_
  refine x_frame' { tmps := #[.agg #[.int .i64 r, .int .i64 s, .int .i64 b, .int .i64 o, .int .i64 c, .int .i64 y, .int .i64 z, .int .i64 m, .int .i64 l1, .int .i64 e1, .int .i64 l2, .int .i64 e2, .int .i64 rm, .int .i64 hv, .int .i64 lg, .bool k], .int .u64 x, .pointer (some ⟨g1, 0, none⟩), undef, .bool false, .int .u64 q, .int .i64 0, .pointer (some ⟨g2, 0, none⟩), .int .i64 m, .bool k, .int .i64 0, undef, undef, undef, undef, undef, .bool true, .bool false, .tuple #[.int .u64 q, .int .i64 0], .agg #[.int .i64 r, .int .i64 s, .int .i64 b, .int .i64 o, .int .i64 c, .int .i64 y, .int .i64 z, .int .i64 m, .int .i64 l1, .int .i64 e1, .int .i64 l2, .int .i64 e2, .int .i64 rm, .int .i64 hv, .int .i64 lg, .bool k], .tuple #[.int .u64 q, .int .i64 0], .int .u64 q, .int .i64 0, .agg #[.int .i64 r, .int .i64 s, .int .i64 b, .int .i64 o, .int .i64 c, .int .i64 y, .int .i64 z, .int .i64 m, .int .i64 l1, .int .i64 e1, .int .i64 l2, .int .i64 e2, .int .i64 rm, .int .i64 hv, .int .i64 lg, .bool k], .bool true, .bool false, undef, undef, undef, undef, undef, undef, .tuple #[.agg #[.int .i64 r, .int .i64 s, .int .i64 b, .int .i64 o, .int .i64 c, .int .i64 y, .int .i64 z], .int .i64 m, .bool k, .int .i64 0], .int .u64 q, .tuple #[.agg #[.int .i64 r, .int .i64 s, .int .i64 b, .int .i64 o, .int .i64 c, .int .i64 y, .int .i64 z], .int .i64 m, .bool k, .int .i64 0], .agg #[.int .i64 r, .int .i64 s, .int .i64 b, .int .i64 o, .int .i64 c, .int .i64 y, .int .i64 z], .int .i64 m, .bool k, .int .i64 0, undef, undef, undef, undef, undef, undef, undef, undef, undef, undef, undef, undef, undef, undef, undef, undef, undef, undef, undef, undef, undef, undef, undef, undef, undef, undef, undef, undef, undef, undef, undef, undef, undef, undef, undef, undef, undef, undef, undef, undef, undef, undef, undef, undef, undef, undef, undef, undef, undef, undef, undef, undef, undef, undef, undef, undef, undef, undef, undef, undef, undef, undef, undef, undef, undef, undef, undef, undef, undef, undef, undef, undef, undef, undef, undef, undef, undef, undef, undef, undef, undef, undef, undef], defers := [] } (by kernel_rfl) ?_
  refine x_then ?_
  refine x_seq ?_
  refine x_region ?_
  refine x_val (.int .i64 0) (by kernel_rfl) rfl (by kernel_rfl) ?_
  refine x_val (.bool false) (by kernel_rfl) rfl (by kernel_rfl) ?_
  refine x_val (.bool false) (by kernel_rfl) rfl (by kernel_rfl) ?_
  refine x_val (.int .u64 q) (by kernel_rfl) rfl (by kernel_rfl) ?_
  refine x_val (.pointer (some ⟨g1, 0, none⟩)) (by kernel_rfl) rfl (by kernel_rfl) ?_
  refine x_loadn (t := 100) H 1 g1 0 #[.int .i64 r, .int .i64 s, .int .i64 b, .int .i64 o, .int .i64 c, .int .i64 y, .int .i64 z, .int .i64 m, .int .i64 l1, .int .i64 e1, .int .i64 l2, .int .i64 e2, .int .i64 rm, .int .i64 hv, .int .i64 lg, .bool k] 104 [.int .i64 r, .int .i64 s, .int .i64 b, .int .i64 o, .int .i64 c, .int .i64 y, .int .i64 z] (by kernel_rfl) (by kernel_rfl) (by kernel_rfl) rfl (by kernel_rfl) (by kernel_rfl) ?_
  refine x_val (.pointer (some ⟨g1, 7, none⟩)) (by kernel_rfl) rfl (by kernel_rfl) ?_
  refine x_load1 H 1 g1 7 #[.int .i64 r, .int .i64 s, .int .i64 b, .int .i64 o, .int .i64 c, .int .i64 y, .int .i64 z, .int .i64 m, .int .i64 l1, .int .i64 e1, .int .i64 l2, .int .i64 e2, .int .i64 rm, .int .i64 hv, .int .i64 lg, .bool k] 104 (.int .i64 m) (by kernel_rfl) (by kernel_rfl) (by kernel_rfl) rfl (by kernel_rfl) ?_
  refine x_val (.pointer (some ⟨g1, 15, none⟩)) (by kernel_rfl) rfl (by kernel_rfl) ?_
  refine x_load1 H 1 g1 15 #[.int .i64 r, .int .i64 s, .int .i64 b, .int .i64 o, .int .i64 c, .int .i64 y, .int .i64 z, .int .i64 m, .int .i64 l1, .int .i64 e1, .int .i64 l2, .int .i64 e2, .int .i64 rm, .int .i64 hv, .int .i64 lg, .bool k] 104 (.bool k) (by kernel_rfl) (by kernel_rfl) (by kernel_rfl) rfl (by kernel_rfl) ?_
  refine x_callB (.int .u64 q) H (by kernel_rfl) rfl (by kernel_rfl) (hK _) ?_
  clear H
  intro v8 H
  refine x_eq (.bool false) (show Value.bool (!decide (q = q)) = Value.bool false by simp) (by kernel_rfl) rfl (by kernel_rfl) ?_
  refine x_val (.bool false) (by kernel_rfl) rfl (by kernel_rfl) ?_
  refine x_val (.bool false) (by kernel_rfl) rfl (by kernel_rfl) ?_
  refine x_val (.int .i64 0) (by kernel_rfl) rfl (by kernel_rfl) ?_
  refine x_val (.bool false) (by kernel_rfl) rfl (by kernel_rfl) ?_
  refine x_val (.bool false) (by kernel_rfl) rfl (by kernel_rfl) ?_
  refine x_val (.bool false) (by kernel_rfl) rfl (by kernel_rfl) ?_
  refine x_loadn (t := 100) H 0 g2 0 #[.int .i64 r, .int .i64 s, .int .i64 b, .int .i64 o, .int .i64 c, .int .i64 y, .int .i64 z] 100 [.int .i64 r, .int .i64 s, .int .i64 b, .int .i64 o, .int .i64 c, .int .i64 y, .int .i64 z] (by kernel_rfl) (by kernel_rfl) (by kernel_rfl) rfl (by kernel_rfl) (by kernel_rfl) ?_
  refine x_val (.pointer (some ⟨g1, 0, none⟩)) (by kernel_rfl) rfl (by kernel_rfl) ?_
  refine x_loadn (t := 100) H 1 g1 0 #[.int .i64 r, .int .i64 s, .int .i64 b, .int .i64 o, .int .i64 c, .int .i64 y, .int .i64 z, .int .i64 m, .int .i64 l1, .int .i64 e1, .int .i64 l2, .int .i64 e2, .int .i64 rm, .int .i64 hv, .int .i64 lg, .bool k] 104 [.int .i64 r, .int .i64 s, .int .i64 b, .int .i64 o, .int .i64 c, .int .i64 y, .int .i64 z] (by kernel_rfl) (by kernel_rfl) (by kernel_rfl) rfl (by kernel_rfl) (by kernel_rfl) ?_
  have h1 : ((decide ((r : Int) = r) && (decide ((s : Int) = s) && (decide ((b : Int) = b) && (decide ((o : Int) = o) && (decide ((c : Int) = c) && true))))) && (decide ((y : Int) = y) && (decide ((z : Int) = z) && true))) = true := by simp
  refine x_val (.bool false) (by kernel_rfl) rfl ((run_neS (t := 100) (x := .tmp 57) (y := .tmp 59) (xs := #[.int .i64 r, .int .i64 s, .int .i64 b, .int .i64 o, .int .i64 c, .int .i64 y, .int .i64 z]) (ys := #[.int .i64 r, .int .i64 s, .int .i64 b, .int .i64 o, .int .i64 c, .int .i64 y, .int .i64 z]) (B := (decide ((r : Int) = r) && (decide ((s : Int) = s) && (decide ((b : Int) = b) && (decide ((o : Int) = o) && (decide ((c : Int) = c) && true))))) && (decide ((y : Int) = y) && (decide ((z : Int) = z) && true))) (by kernel_rfl) (by kernel_rfl) (by kernel_rfl)).trans (by rw [h1]; rfl)) ?_
  refine x_val (.bool false) (by kernel_rfl) rfl (by kernel_rfl) ?_
  refine x_val (.bool false) (by kernel_rfl) rfl (by kernel_rfl) ?_
  refine x_val (.int .i64 m) (by kernel_rfl) rfl (by kernel_rfl) ?_
  refine x_val (.pointer (some ⟨g1, 7, none⟩)) (by kernel_rfl) rfl (by kernel_rfl) ?_
  refine x_load1 H 1 g1 7 #[.int .i64 r, .int .i64 s, .int .i64 b, .int .i64 o, .int .i64 c, .int .i64 y, .int .i64 z, .int .i64 m, .int .i64 l1, .int .i64 e1, .int .i64 l2, .int .i64 e2, .int .i64 rm, .int .i64 hv, .int .i64 lg, .bool k] 104 (.int .i64 m) (by kernel_rfl) (by kernel_rfl) (by kernel_rfl) rfl (by kernel_rfl) ?_
  refine x_eq (.bool false) (show Value.bool (!decide (m = m)) = Value.bool false by simp) (by kernel_rfl) rfl (by kernel_rfl) ?_
  refine x_val (.bool false) (by kernel_rfl) rfl (by kernel_rfl) ?_
  refine x_val (.bool false) (by kernel_rfl) rfl (by kernel_rfl) ?_
  refine x_val (.bool k) (by kernel_rfl) rfl (by kernel_rfl) ?_
  refine x_val (.pointer (some ⟨g1, 15, none⟩)) (by kernel_rfl) rfl (by kernel_rfl) ?_
  refine x_load1 H 1 g1 15 #[.int .i64 r, .int .i64 s, .int .i64 b, .int .i64 o, .int .i64 c, .int .i64 y, .int .i64 z, .int .i64 m, .int .i64 l1, .int .i64 e1, .int .i64 l2, .int .i64 e2, .int .i64 rm, .int .i64 hv, .int .i64 lg, .bool k] 104 (.bool k) (by kernel_rfl) (by kernel_rfl) (by kernel_rfl) rfl (by kernel_rfl) ?_
  refine x_eq (.bool false) (show Value.bool (k != k) = Value.bool false by simp) (by kernel_rfl) rfl (by kernel_rfl) ?_
  refine x_val (.bool false) (by kernel_rfl) rfl (by kernel_rfl) ?_
  refine x_nil ?_
  refine x_frame' { tmps := #[.agg #[.int .i64 r, .int .i64 s, .int .i64 b, .int .i64 o, .int .i64 c, .int .i64 y, .int .i64 z, .int .i64 m, .int .i64 l1, .int .i64 e1, .int .i64 l2, .int .i64 e2, .int .i64 rm, .int .i64 hv, .int .i64 lg, .bool k], .int .u64 x, .pointer (some ⟨g1, 0, none⟩), undef, .bool false, .int .u64 q, .int .i64 0, .pointer (some ⟨g2, 0, none⟩), .int .i64 m, .bool k, .int .i64 0, undef, undef, undef, undef, undef, .bool true, .bool false, .tuple #[.int .u64 q, .int .i64 0], .agg #[.int .i64 r, .int .i64 s, .int .i64 b, .int .i64 o, .int .i64 c, .int .i64 y, .int .i64 z, .int .i64 m, .int .i64 l1, .int .i64 e1, .int .i64 l2, .int .i64 e2, .int .i64 rm, .int .i64 hv, .int .i64 lg, .bool k], .tuple #[.int .u64 q, .int .i64 0], .int .u64 q, .int .i64 0, .agg #[.int .i64 r, .int .i64 s, .int .i64 b, .int .i64 o, .int .i64 c, .int .i64 y, .int .i64 z, .int .i64 m, .int .i64 l1, .int .i64 e1, .int .i64 l2, .int .i64 e2, .int .i64 rm, .int .i64 hv, .int .i64 lg, .bool k], .bool true, .bool false, undef, undef, undef, undef, undef, undef, .tuple #[.agg #[.int .i64 r, .int .i64 s, .int .i64 b, .int .i64 o, .int .i64 c, .int .i64 y, .int .i64 z], .int .i64 m, .bool k, .int .i64 0], .int .u64 q, .tuple #[.agg #[.int .i64 r, .int .i64 s, .int .i64 b, .int .i64 o, .int .i64 c, .int .i64 y, .int .i64 z], .int .i64 m, .bool k, .int .i64 0], .agg #[.int .i64 r, .int .i64 s, .int .i64 b, .int .i64 o, .int .i64 c, .int .i64 y, .int .i64 z], .int .i64 m, .bool k, .int .i64 0, .int .i64 0, .bool false, .bool false, .int .u64 q, .pointer (some ⟨g1, 0, none⟩), .agg #[.int .i64 r, .int .i64 s, .int .i64 b, .int .i64 o, .int .i64 c, .int .i64 y, .int .i64 z], .pointer (some ⟨g1, 7, none⟩), .int .i64 m, .pointer (some ⟨g1, 15, none⟩), .bool k, .int .u64 q, .bool false, .bool false, .bool false, .int .i64 0, .bool false, .bool false, .bool false, .agg #[.int .i64 r, .int .i64 s, .int .i64 b, .int .i64 o, .int .i64 c, .int .i64 y, .int .i64 z], .pointer (some ⟨g1, 0, none⟩), .agg #[.int .i64 r, .int .i64 s, .int .i64 b, .int .i64 o, .int .i64 c, .int .i64 y, .int .i64 z], .bool false, .bool false, .bool false, .int .i64 m, .pointer (some ⟨g1, 7, none⟩), .int .i64 m, .bool false, .bool false, .bool false, .bool k, .pointer (some ⟨g1, 15, none⟩), .bool k, .bool false, .bool false, undef, undef, undef, undef, undef, undef, undef, undef, undef, undef, undef, undef, undef, undef, undef, undef, undef, undef, undef, undef, undef, undef, undef, undef, undef, undef, undef, undef, undef, undef, undef, undef, undef, undef, undef, undef, undef, undef, undef, undef, undef, undef, undef, undef, undef, undef, undef, undef], defers := [] } (by kernel_rfl) ?_
  refine x_then ?_
  refine x_f (by kernel_rfl) ?_
  refine x_skipc ?_
  refine x_then ?_
  refine x_seq ?_
  refine x_region ?_
  refine x_val (.int .u64 x) (by kernel_rfl) rfl (by kernel_rfl) ?_
  refine x_callB (.tuple #[.agg #[.int .i64 r2, .int .i64 s2, .int .i64 b2, .int .i64 o2, .int .i64 c2, .int .i64 y2, .int .i64 z2], .int .i64 m2, .bool k2, .int .i64 0]) H (by kernel_rfl) rfl (by kernel_rfl) (hV _) ?_
  clear H
  intro v9 H
  refine x_val (.tuple #[.agg #[.int .i64 r2, .int .i64 s2, .int .i64 b2, .int .i64 o2, .int .i64 c2, .int .i64 y2, .int .i64 z2], .int .i64 m2, .bool k2, .int .i64 0]) (by kernel_rfl) rfl (by kernel_rfl) ?_
  refine x_val (.agg #[.int .i64 r2, .int .i64 s2, .int .i64 b2, .int .i64 o2, .int .i64 c2, .int .i64 y2, .int .i64 z2]) (by kernel_rfl) rfl (by kernel_rfl) ?_
  refine x_val (.int .i64 m2) (by kernel_rfl) rfl (by kernel_rfl) ?_
  refine x_val (.bool k2) (by kernel_rfl) rfl (by kernel_rfl) ?_
  refine x_val (.int .i64 0) (by kernel_rfl) rfl (by kernel_rfl) ?_
  refine x_box H #[.int .i64 0, .int .i64 0, .int .i64 0, .int .i64 0, .int .i64 0, .int .i64 0, .int .i64 0] 100 (by kernel_rfl) rfl (by kernel_rfl) ?_
  clear H
  intro v10 g3 H
  refine x_store (t := 100) (v := .agg #[.int .i64 r2, .int .i64 s2, .int .i64 b2, .int .i64 o2, .int .i64 c2, .int .i64 y2, .int .i64 z2]) H 0 g3 0 #[.int .i64 0, .int .i64 0, .int .i64 0, .int .i64 0, .int .i64 0, .int .i64 0, .int .i64 0] #[.int .i64 r2, .int .i64 s2, .int .i64 b2, .int .i64 o2, .int .i64 c2, .int .i64 y2, .int .i64 z2] 100 [.int .i64 r2, .int .i64 s2, .int .i64 b2, .int .i64 o2, .int .i64 c2, .int .i64 y2, .int .i64 z2] [.blk g3 #[.int .i64 r2, .int .i64 s2, .int .i64 b2, .int .i64 o2, .int .i64 c2, .int .i64 y2, .int .i64 z2] 100, .blk g2 #[.int .i64 r, .int .i64 s, .int .i64 b, .int .i64 o, .int .i64 c, .int .i64 y, .int .i64 z] 100, .blk g1 #[.int .i64 r, .int .i64 s, .int .i64 b, .int .i64 o, .int .i64 c, .int .i64 y, .int .i64 z, .int .i64 m, .int .i64 l1, .int .i64 e1, .int .i64 l2, .int .i64 e2, .int .i64 rm, .int .i64 hv, .int .i64 lg, .bool k] 104] (by kernel_rfl) rfl (by kernel_rfl) (by kernel_rfl) (by kernel_rfl) (by kernel_rfl) (by kernel_rfl) (by kernel_rfl) (by kernel_rfl) (by kernel_rfl) ?_
  clear H
  intro v11 H
  refine x_val (.int .i64 m2) (by kernel_rfl) rfl (by kernel_rfl) ?_
  refine x_val (.bool k2) (by kernel_rfl) rfl (by kernel_rfl) ?_
  refine x_val (.int .i64 0) (by kernel_rfl) rfl (by kernel_rfl) ?_
  refine x_nil ?_
  refine x_frame' { tmps := #[.agg #[.int .i64 r, .int .i64 s, .int .i64 b, .int .i64 o, .int .i64 c, .int .i64 y, .int .i64 z, .int .i64 m, .int .i64 l1, .int .i64 e1, .int .i64 l2, .int .i64 e2, .int .i64 rm, .int .i64 hv, .int .i64 lg, .bool k], .int .u64 x, .pointer (some ⟨g1, 0, none⟩), undef, .bool false, .int .u64 q, .int .i64 0, .pointer (some ⟨g2, 0, none⟩), .int .i64 m, .bool k, .int .i64 0, .pointer (some ⟨g3, 0, none⟩), .int .i64 m2, .bool k2, .int .i64 0, undef, .bool true, .bool false, .tuple #[.int .u64 q, .int .i64 0], .agg #[.int .i64 r, .int .i64 s, .int .i64 b, .int .i64 o, .int .i64 c, .int .i64 y, .int .i64 z, .int .i64 m, .int .i64 l1, .int .i64 e1, .int .i64 l2, .int .i64 e2, .int .i64 rm, .int .i64 hv, .int .i64 lg, .bool k], .tuple #[.int .u64 q, .int .i64 0], .int .u64 q, .int .i64 0, .agg #[.int .i64 r, .int .i64 s, .int .i64 b, .int .i64 o, .int .i64 c, .int .i64 y, .int .i64 z, .int .i64 m, .int .i64 l1, .int .i64 e1, .int .i64 l2, .int .i64 e2, .int .i64 rm, .int .i64 hv, .int .i64 lg, .bool k], .bool true, .bool false, undef, undef, undef, undef, undef, undef, .tuple #[.agg #[.int .i64 r, .int .i64 s, .int .i64 b, .int .i64 o, .int .i64 c, .int .i64 y, .int .i64 z], .int .i64 m, .bool k, .int .i64 0], .int .u64 q, .tuple #[.agg #[.int .i64 r, .int .i64 s, .int .i64 b, .int .i64 o, .int .i64 c, .int .i64 y, .int .i64 z], .int .i64 m, .bool k, .int .i64 0], .agg #[.int .i64 r, .int .i64 s, .int .i64 b, .int .i64 o, .int .i64 c, .int .i64 y, .int .i64 z], .int .i64 m, .bool k, .int .i64 0, .int .i64 0, .bool false, .bool false, .int .u64 q, .pointer (some ⟨g1, 0, none⟩), .agg #[.int .i64 r, .int .i64 s, .int .i64 b, .int .i64 o, .int .i64 c, .int .i64 y, .int .i64 z], .pointer (some ⟨g1, 7, none⟩), .int .i64 m, .pointer (some ⟨g1, 15, none⟩), .bool k, .int .u64 q, .bool false, .bool false, .bool false, .int .i64 0, .bool false, .bool false, .bool false, .agg #[.int .i64 r, .int .i64 s, .int .i64 b, .int .i64 o, .int .i64 c, .int .i64 y, .int .i64 z], .pointer (some ⟨g1, 0, none⟩), .agg #[.int .i64 r, .int .i64 s, .int .i64 b, .int .i64 o, .int .i64 c, .int .i64 y, .int .i64 z], .bool false, .bool false, .bool false, .int .i64 m, .pointer (some ⟨g1, 7, none⟩), .int .i64 m, .bool false, .bool false, .bool false, .bool k, .pointer (some ⟨g1, 15, none⟩), .bool k, .bool false, .bool false, .tuple #[.agg #[.int .i64 r2, .int .i64 s2, .int .i64 b2, .int .i64 o2, .int .i64 c2, .int .i64 y2, .int .i64 z2], .int .i64 m2, .bool k2, .int .i64 0], .int .u64 x, .tuple #[.agg #[.int .i64 r2, .int .i64 s2, .int .i64 b2, .int .i64 o2, .int .i64 c2, .int .i64 y2, .int .i64 z2], .int .i64 m2, .bool k2, .int .i64 0], .agg #[.int .i64 r2, .int .i64 s2, .int .i64 b2, .int .i64 o2, .int .i64 c2, .int .i64 y2, .int .i64 z2], .int .i64 m2, .bool k2, .int .i64 0, undef, undef, undef, undef, undef, undef, undef, undef, undef, undef, undef, undef, undef, undef, undef, undef, undef, undef, undef, undef, undef, undef, undef, undef, undef, undef, undef, undef, undef, undef, undef, undef, undef, undef, undef, undef, undef, undef, undef, undef, undef], defers := [] } (by kernel_rfl) ?_
  refine x_then ?_
  refine x_seq ?_
  refine x_seq ?_
  refine x_region ?_
  refine x_val (.int .i64 0) (by kernel_rfl) rfl (by kernel_rfl) ?_
  refine x_val (.bool false) (by kernel_rfl) rfl (by kernel_rfl) ?_
  refine x_nil ?_
  refine x_then ?_
  refine x_f (by kernel_rfl) ?_
  refine x_skipc ?_
  refine x_then ?_
  refine x_seq ?_
  refine x_region ?_
  refine x_val (.pointer (some ⟨g3, 0, none⟩)) (by kernel_rfl) rfl (by kernel_rfl) ?_
  refine x_loadn (t := 98) H 0 g3 0 #[.int .i64 r2, .int .i64 s2, .int .i64 b2, .int .i64 o2, .int .i64 c2, .int .i64 y2, .int .i64 z2] 100 [.int .i64 r2, .int .i64 s2, .int .i64 b2, .int .i64 o2, .int .i64 c2] (by kernel_rfl) (by kernel_rfl) (by kernel_rfl) rfl (by kernel_rfl) (by kernel_rfl) ?_
  refine x_box H #[.int .i64 0, .int .i64 0, .int .i64 0, .int .i64 0, .int .i64 0] 109 (by kernel_rfl) rfl (by kernel_rfl) ?_
  clear H
  intro v12 g4 H
  refine x_store (t := 109) (v := .agg #[.int .i64 r2, .int .i64 s2, .int .i64 b2, .int .i64 o2, .int .i64 c2]) H 0 g4 0 #[.int .i64 0, .int .i64 0, .int .i64 0, .int .i64 0, .int .i64 0] #[.int .i64 r2, .int .i64 s2, .int .i64 b2, .int .i64 o2, .int .i64 c2] 109 [.int .i64 r2, .int .i64 s2, .int .i64 b2, .int .i64 o2, .int .i64 c2] [.blk g4 #[.int .i64 r2, .int .i64 s2, .int .i64 b2, .int .i64 o2, .int .i64 c2] 109, .blk g3 #[.int .i64 r2, .int .i64 s2, .int .i64 b2, .int .i64 o2, .int .i64 c2, .int .i64 y2, .int .i64 z2] 100, .blk g2 #[.int .i64 r, .int .i64 s, .int .i64 b, .int .i64 o, .int .i64 c, .int .i64 y, .int .i64 z] 100, .blk g1 #[.int .i64 r, .int .i64 s, .int .i64 b, .int .i64 o, .int .i64 c, .int .i64 y, .int .i64 z, .int .i64 m, .int .i64 l1, .int .i64 e1, .int .i64 l2, .int .i64 e2, .int .i64 rm, .int .i64 hv, .int .i64 lg, .bool k] 104] (by kernel_rfl) rfl (by kernel_rfl) (by kernel_rfl) (by kernel_rfl) (by kernel_rfl) (by kernel_rfl) (by kernel_rfl) (by kernel_rfl) (by kernel_rfl) ?_
  clear H
  intro v13 H
  refine x_nil ?_
  refine x_then ?_
  refine x_seq ?_
  refine x_region ?_
  refine x_loadn (t := 100) H 1 g3 0 #[.int .i64 r2, .int .i64 s2, .int .i64 b2, .int .i64 o2, .int .i64 c2, .int .i64 y2, .int .i64 z2] 100 [.int .i64 r2, .int .i64 s2, .int .i64 b2, .int .i64 o2, .int .i64 c2, .int .i64 y2, .int .i64 z2] (by kernel_rfl) (by kernel_rfl) (by kernel_rfl) rfl (by kernel_rfl) (by kernel_rfl) ?_
  refine x_val (.int .i64 m2) (by kernel_rfl) rfl (by kernel_rfl) ?_
  refine x_val (.bool k2) (by kernel_rfl) rfl (by kernel_rfl) ?_
  refine x_callB (.int .u64 x) H (by kernel_rfl) rfl (by kernel_rfl) (hL _) ?_
  clear H
  intro v14 H
  refine x_val (.int .u64 x) (by kernel_rfl) rfl (by kernel_rfl) ?_
  refine x_eq (.bool true) (show Value.bool (decide (x = x)) = Value.bool true by simp) (by kernel_rfl) rfl (by kernel_rfl) ?_
  refine x_val (.bool true) (by kernel_rfl) rfl (by kernel_rfl) ?_
  refine x_loadn (t := 109) H 0 g4 0 #[.int .i64 r2, .int .i64 s2, .int .i64 b2, .int .i64 o2, .int .i64 c2] 109 [.int .i64 r2, .int .i64 s2, .int .i64 b2, .int .i64 o2, .int .i64 c2] (by kernel_rfl) (by kernel_rfl) (by kernel_rfl) rfl (by kernel_rfl) (by kernel_rfl) ?_
  refine x_val (.pointer (some ⟨g3, 5, none⟩)) (by kernel_rfl) rfl (by kernel_rfl) ?_
  refine x_load1 H 1 g3 5 #[.int .i64 r2, .int .i64 s2, .int .i64 b2, .int .i64 o2, .int .i64 c2, .int .i64 y2, .int .i64 z2] 100 (.int .i64 y2) (by kernel_rfl) (by kernel_rfl) (by kernel_rfl) rfl (by kernel_rfl) ?_
  refine x_val (.pointer (some ⟨g3, 6, none⟩)) (by kernel_rfl) rfl (by kernel_rfl) ?_
  refine x_load1 H 1 g3 6 #[.int .i64 r2, .int .i64 s2, .int .i64 b2, .int .i64 o2, .int .i64 c2, .int .i64 y2, .int .i64 z2] 100 (.int .i64 z2) (by kernel_rfl) (by kernel_rfl) (by kernel_rfl) rfl (by kernel_rfl) ?_
  refine x_callB (.bool true) H (by kernel_rfl) rfl (by kernel_rfl) (hR _) ?_
  clear H
  intro v15 H
  refine x_val (.bool true) (by kernel_rfl) rfl (by kernel_rfl) ?_
  refine x_val (.bool true) (by kernel_rfl) rfl (by kernel_rfl) ?_
  refine x_val (.int .i64 m2) (by kernel_rfl) rfl (by kernel_rfl) ?_
  refine x_val (.bool (decide (m2 = 1))) (by kernel_rfl) rfl (by kernel_rfl) ?_
  refine x_val (.bool (decide (m2 = 1))) (by kernel_rfl) rfl (by kernel_rfl) ?_
  cases h2 : decide (m2 = 1)
  · skip
    have h2p := of_decide_eq_false h2
    refine x_val (.int .i64 m2) (by kernel_rfl) rfl (by kernel_rfl) ?_
    refine x_val (.bool (decide (m2 = 2))) (by kernel_rfl) rfl (by kernel_rfl) ?_
    refine x_val (.bool (decide (m2 = 2))) (by kernel_rfl) rfl (by kernel_rfl) ?_
    refine x_val (.bool (decide (m2 = 2))) (by kernel_rfl) rfl (by kernel_rfl) ?_
    refine x_val (.bool (decide (m2 = 2))) (by kernel_rfl) rfl (by kernel_rfl) ?_
    refine x_nil ?_
    refine x_frame' { tmps := #[.agg #[.int .i64 r, .int .i64 s, .int .i64 b, .int .i64 o, .int .i64 c, .int .i64 y, .int .i64 z, .int .i64 m, .int .i64 l1, .int .i64 e1, .int .i64 l2, .int .i64 e2, .int .i64 rm, .int .i64 hv, .int .i64 lg, .bool k], .int .u64 x, .pointer (some ⟨g1, 0, none⟩), undef, .bool (decide (m2 = 2)), .int .u64 q, .int .i64 0, .pointer (some ⟨g2, 0, none⟩), .int .i64 m, .bool k, .int .i64 0, .pointer (some ⟨g3, 0, none⟩), .int .i64 m2, .bool k2, .int .i64 0, .pointer (some ⟨g4, 0, none⟩), .bool true, .bool false, .tuple #[.int .u64 q, .int .i64 0], .agg #[.int .i64 r, .int .i64 s, .int .i64 b, .int .i64 o, .int .i64 c, .int .i64 y, .int .i64 z, .int .i64 m, .int .i64 l1, .int .i64 e1, .int .i64 l2, .int .i64 e2, .int .i64 rm, .int .i64 hv, .int .i64 lg, .bool k], .tuple #[.int .u64 q, .int .i64 0], .int .u64 q, .int .i64 0, .agg #[.int .i64 r, .int .i64 s, .int .i64 b, .int .i64 o, .int .i64 c, .int .i64 y, .int .i64 z, .int .i64 m, .int .i64 l1, .int .i64 e1, .int .i64 l2, .int .i64 e2, .int .i64 rm, .int .i64 hv, .int .i64 lg, .bool k], .bool true, .bool false, undef, undef, undef, undef, undef, undef, .tuple #[.agg #[.int .i64 r, .int .i64 s, .int .i64 b, .int .i64 o, .int .i64 c, .int .i64 y, .int .i64 z], .int .i64 m, .bool k, .int .i64 0], .int .u64 q, .tuple #[.agg #[.int .i64 r, .int .i64 s, .int .i64 b, .int .i64 o, .int .i64 c, .int .i64 y, .int .i64 z], .int .i64 m, .bool k, .int .i64 0], .agg #[.int .i64 r, .int .i64 s, .int .i64 b, .int .i64 o, .int .i64 c, .int .i64 y, .int .i64 z], .int .i64 m, .bool k, .int .i64 0, .int .i64 0, .bool false, .bool false, .int .u64 q, .pointer (some ⟨g1, 0, none⟩), .agg #[.int .i64 r, .int .i64 s, .int .i64 b, .int .i64 o, .int .i64 c, .int .i64 y, .int .i64 z], .pointer (some ⟨g1, 7, none⟩), .int .i64 m, .pointer (some ⟨g1, 15, none⟩), .bool k, .int .u64 q, .bool false, .bool false, .bool false, .int .i64 0, .bool false, .bool false, .bool false, .agg #[.int .i64 r, .int .i64 s, .int .i64 b, .int .i64 o, .int .i64 c, .int .i64 y, .int .i64 z], .pointer (some ⟨g1, 0, none⟩), .agg #[.int .i64 r, .int .i64 s, .int .i64 b, .int .i64 o, .int .i64 c, .int .i64 y, .int .i64 z], .bool false, .bool false, .bool false, .int .i64 m, .pointer (some ⟨g1, 7, none⟩), .int .i64 m, .bool false, .bool false, .bool false, .bool k, .pointer (some ⟨g1, 15, none⟩), .bool k, .bool false, .bool false, .tuple #[.agg #[.int .i64 r2, .int .i64 s2, .int .i64 b2, .int .i64 o2, .int .i64 c2, .int .i64 y2, .int .i64 z2], .int .i64 m2, .bool k2, .int .i64 0], .int .u64 x, .tuple #[.agg #[.int .i64 r2, .int .i64 s2, .int .i64 b2, .int .i64 o2, .int .i64 c2, .int .i64 y2, .int .i64 z2], .int .i64 m2, .bool k2, .int .i64 0], .agg #[.int .i64 r2, .int .i64 s2, .int .i64 b2, .int .i64 o2, .int .i64 c2, .int .i64 y2, .int .i64 z2], .int .i64 m2, .bool k2, .int .i64 0, .int .i64 0, .bool false, undef, undef, undef, undef, undef, undef, undef, undef, undef, undef, undef, undef, undef, undef, undef, .pointer (some ⟨g3, 0, none⟩), .agg #[.int .i64 r2, .int .i64 s2, .int .i64 b2, .int .i64 o2, .int .i64 c2], .agg #[.int .i64 r2, .int .i64 s2, .int .i64 b2, .int .i64 o2, .int .i64 c2, .int .i64 y2, .int .i64 z2], .int .i64 m2, .bool k2, .int .u64 x, .int .u64 x, .bool true, .bool true, .agg #[.int .i64 r2, .int .i64 s2, .int .i64 b2, .int .i64 o2, .int .i64 c2], .pointer (some ⟨g3, 5, none⟩), .int .i64 y2, .pointer (some ⟨g3, 6, none⟩), .int .i64 z2, .bool true, .bool true, .bool true, .int .i64 m2, .bool false, .bool false, .int .i64 m2, .bool (decide (m2 = 2)), .bool (decide (m2 = 2)), .bool (decide (m2 = 2))], defers := [] } (by kernel_rfl) ?_
    refine x_then ?_
    refine x_retc ?_
    refine x_ret (.bool (decide (m2 = 2))) (by kernel_rfl) (by kernel_rfl) ?_
    exact ⟨by rw [show (decide (m2 = 2)) = true by simpa [h2] using hm], H.below⟩
  · skip
    have h2p := of_decide_eq_true h2
    refine x_skip (by kernel_rfl) ?_
    refine x_skip (by kernel_rfl) ?_
    refine x_val (.bool true) (by kernel_rfl) rfl (by kernel_rfl) ?_
    refine x_val (.bool true) (by kernel_rfl) rfl (by kernel_rfl) ?_
    refine x_val (.bool true) (by kernel_rfl) rfl (by kernel_rfl) ?_
    refine x_nil ?_
    refine x_frame' { tmps := #[.agg #[.int .i64 r, .int .i64 s, .int .i64 b, .int .i64 o, .int .i64 c, .int .i64 y, .int .i64 z, .int .i64 m, .int .i64 l1, .int .i64 e1, .int .i64 l2, .int .i64 e2, .int .i64 rm, .int .i64 hv, .int .i64 lg, .bool k], .int .u64 x, .pointer (some ⟨g1, 0, none⟩), undef, .bool true, .int .u64 q, .int .i64 0, .pointer (some ⟨g2, 0, none⟩), .int .i64 m, .bool k, .int .i64 0, .pointer (some ⟨g3, 0, none⟩), .int .i64 m2, .bool k2, .int .i64 0, .pointer (some ⟨g4, 0, none⟩), .bool true, .bool false, .tuple #[.int .u64 q, .int .i64 0], .agg #[.int .i64 r, .int .i64 s, .int .i64 b, .int .i64 o, .int .i64 c, .int .i64 y, .int .i64 z, .int .i64 m, .int .i64 l1, .int .i64 e1, .int .i64 l2, .int .i64 e2, .int .i64 rm, .int .i64 hv, .int .i64 lg, .bool k], .tuple #[.int .u64 q, .int .i64 0], .int .u64 q, .int .i64 0, .agg #[.int .i64 r, .int .i64 s, .int .i64 b, .int .i64 o, .int .i64 c, .int .i64 y, .int .i64 z, .int .i64 m, .int .i64 l1, .int .i64 e1, .int .i64 l2, .int .i64 e2, .int .i64 rm, .int .i64 hv, .int .i64 lg, .bool k], .bool true, .bool false, undef, undef, undef, undef, undef, undef, .tuple #[.agg #[.int .i64 r, .int .i64 s, .int .i64 b, .int .i64 o, .int .i64 c, .int .i64 y, .int .i64 z], .int .i64 m, .bool k, .int .i64 0], .int .u64 q, .tuple #[.agg #[.int .i64 r, .int .i64 s, .int .i64 b, .int .i64 o, .int .i64 c, .int .i64 y, .int .i64 z], .int .i64 m, .bool k, .int .i64 0], .agg #[.int .i64 r, .int .i64 s, .int .i64 b, .int .i64 o, .int .i64 c, .int .i64 y, .int .i64 z], .int .i64 m, .bool k, .int .i64 0, .int .i64 0, .bool false, .bool false, .int .u64 q, .pointer (some ⟨g1, 0, none⟩), .agg #[.int .i64 r, .int .i64 s, .int .i64 b, .int .i64 o, .int .i64 c, .int .i64 y, .int .i64 z], .pointer (some ⟨g1, 7, none⟩), .int .i64 m, .pointer (some ⟨g1, 15, none⟩), .bool k, .int .u64 q, .bool false, .bool false, .bool false, .int .i64 0, .bool false, .bool false, .bool false, .agg #[.int .i64 r, .int .i64 s, .int .i64 b, .int .i64 o, .int .i64 c, .int .i64 y, .int .i64 z], .pointer (some ⟨g1, 0, none⟩), .agg #[.int .i64 r, .int .i64 s, .int .i64 b, .int .i64 o, .int .i64 c, .int .i64 y, .int .i64 z], .bool false, .bool false, .bool false, .int .i64 m, .pointer (some ⟨g1, 7, none⟩), .int .i64 m, .bool false, .bool false, .bool false, .bool k, .pointer (some ⟨g1, 15, none⟩), .bool k, .bool false, .bool false, .tuple #[.agg #[.int .i64 r2, .int .i64 s2, .int .i64 b2, .int .i64 o2, .int .i64 c2, .int .i64 y2, .int .i64 z2], .int .i64 m2, .bool k2, .int .i64 0], .int .u64 x, .tuple #[.agg #[.int .i64 r2, .int .i64 s2, .int .i64 b2, .int .i64 o2, .int .i64 c2, .int .i64 y2, .int .i64 z2], .int .i64 m2, .bool k2, .int .i64 0], .agg #[.int .i64 r2, .int .i64 s2, .int .i64 b2, .int .i64 o2, .int .i64 c2, .int .i64 y2, .int .i64 z2], .int .i64 m2, .bool k2, .int .i64 0, .int .i64 0, .bool false, undef, undef, undef, undef, undef, undef, undef, undef, undef, undef, undef, undef, undef, undef, undef, .pointer (some ⟨g3, 0, none⟩), .agg #[.int .i64 r2, .int .i64 s2, .int .i64 b2, .int .i64 o2, .int .i64 c2], .agg #[.int .i64 r2, .int .i64 s2, .int .i64 b2, .int .i64 o2, .int .i64 c2, .int .i64 y2, .int .i64 z2], .int .i64 m2, .bool k2, .int .u64 x, .int .u64 x, .bool true, .bool true, .agg #[.int .i64 r2, .int .i64 s2, .int .i64 b2, .int .i64 o2, .int .i64 c2], .pointer (some ⟨g3, 5, none⟩), .int .i64 y2, .pointer (some ⟨g3, 6, none⟩), .int .i64 z2, .bool true, .bool true, .bool true, .int .i64 m2, .bool true, .bool true, undef, undef, .bool true, .bool true], defers := [] } (by kernel_rfl) ?_
    refine x_then ?_
    refine x_retc ?_
    refine x_ret (.bool true) (by kernel_rfl) (by kernel_rfl) ?_
    exact ⟨rfl, H.below⟩

end Go.Proofs.Ythmbiddnpogolaa
