/- Steps of a walk, many at once; what a call holds, and a frame, told by what is reckoned. -/
import Derived.Test.YtjbaabffilejeaaDoorPxG
import Derived.Test.YtjbaabffilejeaaDoorPxR
import Derived.Test.YtjbaabffilejeaaDoorPxD
import Derived.Test.YtjbaabffilejeaaDoorPx
import Derived.Test.YtjbaabffilejeaaDoorOpen
import Derived.Test.YtjbaabffilejeaaDoorBase
namespace Go.Proofs.YtjbaabffilejeaaDoor
open Go Go.RowKit
set_option linter.unusedVariables false
/-- A quiet step: a value told, a value as it is reckoned, one that is passed over, a cell that is loaded, some cells. -/
inductive Bq where
  | v (x : Value)
  | m
  | k
  | l (i off : Nat)
  | n (i off len : Nat) (t : TypeId)
structure Cmp where
  b : Bool
  r : World → Result Next
  s : Sem Next
  z : Option Nat
def gOf (L : List Res) (i : Nat) : Nat := match L[i]? with | some (.blk g _ _) => g | _ => 0
def csOf (L : List Res) (i : Nat) : Array Value := match L[i]? with | some (.blk _ cs _) => cs | _ => #[]
def dumR : World → Result Next := fun w => .ok .skip w
def dumS : Sem Next := .pure .skip
def bval (P : Program) (w0 : World) (L : List Res) (a : Act) (o : Oper) : Bq → Value
  | .v x => x
  | .m => match (execOp a.eval o).run P w0 with | .ok (.value v) _ => v | _ => undef
  | .k => undef
  | .l i off => (csOf L i).getD off undef
  | .n i off len _ => .agg (((csOf L i).toList.drop off).take len).toArray
def bGot (P : Program) (ops : Array Oper) (L : List Res) (a : Act) (o : Oper) : Bq → Cmp
  | .v _ => ⟨Region.wanted o (yielded ops a.tmps) && opNd o, fun w => (execOp a.eval o).run P w, dumS, none⟩
  | .m => ⟨Region.wanted o (yielded ops a.tmps) && opNd o, fun w => (execOp a.eval o).run P w, dumS, none⟩
  | .k => ⟨!(Region.wanted o (yielded ops a.tmps)), dumR, dumS, none⟩
  | .l i off => ⟨Region.wanted o (yielded ops a.tmps) && opNd o && decide (off < (csOf L i).size), fun w => (execOp a.eval o).run P w, dumS, none⟩
  | .n i off len t => ⟨Region.wanted o (yielded ops a.tmps) && opNd o && decide (off + len ≤ (csOf L i).size) && decide (0 < len), dumR, execOp a.eval o, aggSize P t⟩
def bWant (P : Program) (w0 : World) (L : List Res) (a : Act) (o : Oper) : Bq → Cmp
  | .v x => ⟨true, fun w => .ok (.value x) w, dumS, none⟩
  | .m => ⟨true, fun w => .ok (.value (bval P w0 L a o .m)) w, dumS, none⟩
  | .k => ⟨true, dumR, dumS, none⟩
  | .l i off => ⟨true, fun w => (ldS ⟨gOf L i, off, none⟩).run P w, dumS, none⟩
  | .n i off len t => ⟨true, dumR, ldV t ⟨gOf L i, off, none⟩, some len⟩
def bGots (P : Program) (ops : Array Oper) (w0 : World) (L : List Res) : List Bq → List Oper → Act → List Cmp
  | [], _, _ => []
  | _ :: _, [], _ => [⟨false, dumR, dumS, none⟩]
  | q :: qs, o :: os, a => bGot P ops L a o q :: bGots P ops w0 L qs os (a.put o.dst (bval P w0 L a o q))
def bWants (P : Program) (w0 : World) (L : List Res) : List Bq → List Oper → Act → List Cmp
  | [], _, _ => []
  | _ :: _, [], _ => []
  | q :: qs, o :: os, a => bWant P w0 L a o q :: bWants P w0 L qs os (a.put o.dst (bval P w0 L a o q))
def bEnd (P : Program) (w0 : World) (L : List Res) : List Bq → List Oper → Act → Act
  | q :: qs, o :: os, a => bEnd P w0 L qs os (a.put o.dst (bval P w0 L a o q))
  | _, _, a => a
theorem csOf_some {L : List Res} {i off : Nat} (h : off < (csOf L i).size) : ∃ ty, L[i]? = some (.blk (gOf L i) (csOf L i) ty) := by
  unfold csOf gOf at *
  cases hi : L[i]? with
  | none => rw [hi] at h; simp at h
  | some r =>
    rw [hi] at h
    cases r with
    | blk g cs ty => exact ⟨ty, rfl⟩
    | row => simp at h
    | obj => simp at h
section
variable {ρ : Option Nat} {P : Program} {ops : Array Oper} {Q : Exit → Act → World → Prop} {a : Act} {w w' w0 : World} {o : Oper} {M : List Nat} {L L' : List Res}
theorem bq_ok {q : Bq} (e : bGot P ops L a o q = bWant P w0 L a o q) : (Region.wanted o (yielded ops a.tmps) = false ∧ bval P w0 L a o q = undef) ∨
    (Region.wanted o (yielded ops a.tmps) = true ∧ opNd o = true ∧ ∀ w, Hs M w0 w L → (execOp a.eval o).run P w = .ok (.value (bval P w0 L a o q)) w) := by
  cases q with
  | v x =>
    simp only [bGot, bWant, Cmp.mk.injEq, Bool.and_eq_true] at e
    exact .inr ⟨e.1.1, e.1.2, fun w _ => congrFun e.2.1 w⟩
  | m =>
    simp only [bGot, bWant, Cmp.mk.injEq, Bool.and_eq_true] at e
    exact .inr ⟨e.1.1, e.1.2, fun w _ => congrFun e.2.1 w⟩
  | k =>
    simp only [bGot, bWant, Cmp.mk.injEq] at e
    exact .inl ⟨by simpa using e.1, rfl⟩
  | l i off =>
    simp only [bGot, bWant, Cmp.mk.injEq, Bool.and_eq_true, decide_eq_true_eq] at e
    obtain ⟨⟨⟨e1, e2⟩, e3⟩, e4, -⟩ := e
    refine .inr ⟨e1, e2, fun w H => ?_⟩
    obtain ⟨ty, hi⟩ := csOf_some e3
    refine (congrFun e4 w).trans (run_ldS (cellOf (H.blk i hi) ?_))
    rw [Array.getElem?_eq_getElem e3]
    simp [bval, Array.getD, e3]
  | n i off len t =>
    simp only [bGot, bWant, Cmp.mk.injEq, Bool.and_eq_true, decide_eq_true_eq] at e
    obtain ⟨⟨⟨⟨e1, e2⟩, e3⟩, e5⟩, -, e4, e6⟩ := e
    refine .inr ⟨e1, e2, fun w H => ?_⟩
    obtain ⟨ty, hi⟩ := csOf_some (L := L) (i := i) (off := off) (by omega)
    have hl : (((csOf L i).toList.drop off).take len).length = len := by simp; omega
    have q := ldn_ok (P := P) (w := w) (vs := ((csOf L i).toList.drop off).take len) (H.blk i hi) (by rw [hl])
    rw [hl] at q
    rw [e4, run_ldV (by rw [e6])]
    exact q
/-- Quiet steps, all at once. -/
theorem x_b (H : Hs M w0 w L) (qs : List Bq) {l : List Oper} (k : XL ρ P ops Q (l.drop qs.length) (bEnd P w0 L qs l a) w) (e : bGots P ops w0 L qs l a = bWants P w0 L qs l a := by kernel_rfl) : XL ρ P ops Q l a w := by
  induction qs generalizing l a with
  | nil => cases l <;> exact k
  | cons q qs ih =>
    cases l with
    | nil => simp only [bGots, bWants] at e; cases e
    | cons o os =>
      simp only [bGots, bWants, List.cons.injEq] at e
      have k2 := ih k e.2
      rcases bq_ok (M := M) e.1 with ⟨h1, h2⟩ | ⟨h1, h2, h3⟩
      · rw [h2] at k2; exact x_skip h1 k2
      · exact x_run h1 h2 (h3 w H) k2
theorem q_b {Qf : Act → Prop} (qs : List Bq) {l : List Oper} (k : XQ P ops (fun w => Hs M w0 w L) Qf (l.drop qs.length) (bEnd P w0 L qs l a)) (e : bGots P ops w0 L qs l a = bWants P w0 L qs l a := by kernel_rfl) : XQ P ops (fun w => Hs M w0 w L) Qf l a := by
  induction qs generalizing l a with
  | nil => cases l <;> exact k
  | cons q qs ih =>
    cases l with
    | nil => simp only [bGots, bWants] at e; cases e
    | cons o os =>
      simp only [bGots, bWants, List.cons.injEq] at e
      have k2 := ih k e.2
      rcases bq_ok (M := M) e.1 with ⟨h1, h2⟩ | ⟨h1, h2, h3⟩
      · rw [h2] at k2; exact q_skip h1 k2
      · exact q_in _ h1 (fun w H => h3 w H) k2
/-- The same, where operations come up in any order. -/
def opAt (ops : Array Oper) (i : Nat) : Oper := ops.getD i ⟨none, .nilCheck (.const undef), 0, "", #[], none⟩
def yB (ops : Array Oper) (listed : Array Bool) (i : Nat) : Bool := decide (i < ops.size) && (Region.noSelect ops && Region.free .any ops listed i && (Region.ready .any ops listed).contains i)
def yGots (P : Program) (ops : Array Oper) (w0 : World) (L : List Res) : List (Nat × Bq) → Array Bool → Act → List (Bool × Cmp)
  | [], _, _ => []
  | (i, q) :: qs, ls, a => (yB ops ls i, bGot P ops L a (opAt ops i) q) :: yGots P ops w0 L qs (ls.setIfInBounds i true) (a.put (opAt ops i).dst (bval P w0 L a (opAt ops i) q))
def yWants (P : Program) (ops : Array Oper) (w0 : World) (L : List Res) : List (Nat × Bq) → Act → List (Bool × Cmp)
  | [], _ => []
  | (i, q) :: qs, a => (true, bWant P w0 L a (opAt ops i) q) :: yWants P ops w0 L qs (a.put (opAt ops i).dst (bval P w0 L a (opAt ops i) q))
def yEnd (P : Program) (ops : Array Oper) (w0 : World) (L : List Res) : List (Nat × Bq) → Act → Act
  | [], a => a
  | (i, q) :: qs, a => yEnd P ops w0 L qs (a.put (opAt ops i).dst (bval P w0 L a (opAt ops i) q))
def yList : List (Nat × Bq) → Array Bool → Array Bool
  | [], ls => ls
  | (i, _) :: qs, ls => yList qs (ls.setIfInBounds i true)
theorem opAt_get {i : Nat} (h : i < ops.size) : ops[i]? = some (opAt ops i) := by
  rw [Array.getElem?_eq_getElem h]; simp [opAt, Array.getD, h]
theorem s_b {C : World → Prop} (qs : List (Nat × Bq)) (f : Nat) {F : Nat} {listed : Array Bool} (k : XS ρ P ops Q f (yList qs listed) (yEnd P ops w0 L qs a) (fun w => Hs M w0 w L) C)
    (hF : F = f + qs.length := by rfl) (e : yGots P ops w0 L qs listed a = yWants P ops w0 L qs a := by kernel_rfl) : XS ρ P ops Q F listed a (fun w => Hs M w0 w L) C := by
  subst hF
  induction qs generalizing listed a with
  | nil => exact k
  | cons q qs ih =>
    obtain ⟨i, q⟩ := q
    simp only [yGots, yWants, List.cons.injEq, Prod.mk.injEq] at e
    obtain ⟨⟨e1, e2⟩, e3⟩ := e
    have k2 := ih k e3
    unfold yB at e1
    rw [Bool.and_eq_true, decide_eq_true_eq] at e1
    refine s_quiet i (opAt_get e1.1) e1.2 ?_ k2
    rcases bq_ok (M := M) e2 with ⟨h1, h2⟩ | ⟨h1, h2, h3⟩
    · rw [h2]; exact y_skip h1
    · exact y_in _ h1 (fun w H => h3 w H)
theorem s_c {K C : World → Prop} {f : Nat} {listed : Array Bool} {fi : FuncId} {args : Array Value} (i : Nat) {v : Value} (hc : ∀ w, K w → Calls P fi args w fun e w' => e = .returned v ∧ Below w.heap.size w w')
    (k : XS ρ P ops Q f (listed.setIfInBounds i true) (a.put (opAt ops i).dst v) K C) (hB : yB ops listed i = true := by kernel_rfl) (hw : Region.wanted (opAt ops i) (yielded ops a.tmps) = true := by kernel_rfl)
    (h : ∀ w, (execOp a.eval (opAt ops i)).run P w = .ok (.enter fi args) w := by intro _; kernel_rfl) : XS ρ P ops Q (f + 1) listed a K C := by
  unfold yB at hB
  rw [Bool.and_eq_true, decide_eq_true_eq] at hB
  exact s_quiet i (opAt_get hB.1) hB.2 (y_callK v hw h hc) k
theorem s_y {K C : World → Prop} {f : Nat} {listed : Array Bool} (i : Nat) {v : Value} (hy : YI P ops K (opAt ops i) v a) (k : XS ρ P ops Q f (listed.setIfInBounds i true) (a.put (opAt ops i).dst v) K C) (hB : yB ops listed i = true := by kernel_rfl) : XS ρ P ops Q (f + 1) listed a K C := by
  unfold yB at hB
  rw [Bool.and_eq_true, decide_eq_true_eq] at hB
  exact s_quiet i (opAt_get hB.1) hB.2 hy k
/-! ### what is held -/
def pkL (L : List Res) (ix : List Nat) : List Res := ix.filterMap fun i => L[i]?
def okIx (L : List Res) (ix : List Nat) : Bool := ix.all fun i => decide (i < L.length)
theorem pkL_map {L : List Res} : ∀ {ix : List Nat}, okIx L ix = true → ix.map (fun i => L[i]?) = (pkL L ix).map some
  | [], _ => rfl
  | i :: ix, h => by
    simp only [okIx, List.all_cons, Bool.and_eq_true, decide_eq_true_eq] at h
    have e : L[i]? = some (L[i]'h.1) := List.getElem?_eq_getElem h.1
    have := pkL_map (ix := ix) h.2
    simp only [pkL, List.map_cons, List.filterMap_cons, e] at this ⊢
    rw [this]
theorem Hs.pk (H : Hs M w0 w L) (ix : List Nat) (hn : ix.Nodup := by decide) (ho : okIx L ix = true := by kernel_rfl) : Hs M w0 w (pkL L ix) := H.pick ix _ hn (pkL_map ho)
theorem z_enter {f : FuncId} {fn : Func} {c : Code} {args : Array Value} {R : Ending → World → Prop} (hf : P.funcs[f]? = some fn) (hb : fn.body = some c) (h : XC none P c (bodyPost P fn R) { tmps := args ++ Array.replicate (fn.ntmps - args.size) undef, defers := [] } w) : Calls P f args w R := x_enter hf hb _ rfl h
theorem z_callB {f : FuncId} {args : Array Value} {v : Value} {rest : List Oper} (H : Hs M w0 w L) (hc : Calls P f args w fun e w' => e = .returned v ∧ Below w.heap.size w w') (k : ∀ w', Hs M w0 w' L → XL ρ P ops Q rest (a.put o.dst v) w')
    (hw : Region.wanted o (yielded ops a.tmps) = true := by kernel_rfl) (hd : opNd o = true := by rfl) (h : (execOp a.eval o).run P w = .ok (.enter f args) w := by kernel_rfl) : XL ρ P ops Q (o :: rest) a w := x_callB v H hw hd h hc k
theorem z_callH {f : FuncId} {args : Array Value} {v : Value} {rest : List Oper} (hc : Calls P f args w fun e w' => e = .returned v ∧ Hs M w0 w' L') (k : ∀ w', Hs M w0 w' L' → XL ρ P ops Q rest (a.put o.dst v) w')
    (hw : Region.wanted o (yielded ops a.tmps) = true := by kernel_rfl) (hd : opNd o = true := by rfl) (h : (execOp a.eval o).run P w = .ok (.enter f args) w := by kernel_rfl) : XL ρ P ops Q (o :: rest) a w := x_callH v L' hw hd h hc k
theorem z_call {f : FuncId} {args : Array Value} {R : Ending → World → Prop} {rest : List Oper} (hc : Calls P f args w R) (k : ∀ e w', R e w' → ∃ v, e = .returned v ∧ XL ρ P ops Q rest (a.put o.dst v) w')
    (hw : Region.wanted o (yielded ops a.tmps) = true := by kernel_rfl) (hd : opNd o = true := by rfl) (h : (execOp a.eval o).run P w = .ok (.enter f args) w := by kernel_rfl) : XL ρ P ops Q (o :: rest) a w := x_call hw hd h hc k
theorem z_ar {rest : List Oper} (z : Int) (k : XL ρ P ops Q rest (a.put o.dst (.int .i64 z)) w) (hz : -9223372036854775808 ≤ z ∧ z ≤ 9223372036854775807 := by omega) (hw : Region.wanted o (yielded ops a.tmps) = true := by kernel_rfl) (hd : opNd o = true := by rfl)
    (h : (execOp a.eval o).run P w = .ok (.value (.int .i64 (IntKind.i64.wrap z))) w := by kernel_rfl) : XL ρ P ops Q (o :: rest) a w := x_ar z hz hw hd h k
theorem z_box {rest : List Oper} (H : Hs M w0 w L) (cs : Array Value) (ty : TypeId) (k : ∀ w' g, Hs M w0 w' (.blk g cs ty :: L) → XL ρ P ops Q rest (a.put o.dst (.pointer (some ⟨g, 0, none⟩))) w')
    (hw : Region.wanted o (yielded ops a.tmps) = true := by kernel_rfl) (hd : opNd o = true := by rfl) (h : (execOp a.eval o).run P w = .ok (.value (.pointer (some ⟨w.heap.size, 0, none⟩))) (w.alloc (.cells cs ty)) := by kernel_rfl) : XL ρ P ops Q (o :: rest) a w := x_box H cs ty hw hd h k
def updL (L : List Res) (i off : Nat) (vs : List Value) : List Res := match L[i]? with | some (.blk g cs ty) => L.set i (.blk g (cs.toList.take off ++ vs ++ cs.toList.drop (off + vs.length)).toArray ty) | _ => L
def stT (o : Oper) : TypeId := match o.op with | .store t _ _ => t | _ => 0
def stO (a : Act) (o : Oper) : Value := match o.op with | .store _ _ x => a.eval x | _ => undef
theorem z_store {rest : List Oper} (H : Hs M w0 w L) (i off : Nat) (vs : List Value) (k : ∀ w', Hs M w0 w' (updL L i off vs) → XL ρ P ops Q rest (a.put o.dst undef) w')
    (hv : (stO a o).cells.toList = vs := by kernel_rfl) (h1 : vs.all Value.oneCell' = true := by kernel_rfl) (hl2 : decide (off + vs.length ≤ (csOf L i).size) = true := by kernel_rfl) (h0 : decide (0 < vs.length) = true := by rfl)
    (hw : Region.wanted o (yielded ops a.tmps) = true := by kernel_rfl) (hd : opNd o = true := by rfl) (h : execOp a.eval o = stV (stT o) ⟨gOf L i, off, none⟩ (stO a o) := by kernel_rfl)
    (ht : (P.info? (stT o)).map (·.size) = some vs.length := by kernel_rfl) : XL ρ P ops Q (o :: rest) a w := by
  obtain ⟨ty, hi⟩ := csOf_some (L := L) (i := i) (off := off) (by have := of_decide_eq_true hl2; have := of_decide_eq_true h0; omega)
  refine x_store H i (gOf L i) off (csOf L i) _ ty vs _ hi hd hl2 h1 rfl rfl hw h ht hv fun w' H' => k w' ?_
  have e : updL L i off vs = L.set i (.blk (gOf L i) ((csOf L i).toList.take off ++ vs ++ (csOf L i).toList.drop (off + vs.length)).toArray ty) := by unfold updL; rw [hi]
  rw [e]; exact H'
theorem Hs.ro1 (H : Hs M w0 w L) (ix : List Nat) (h : okIx L ix = true := by kernel_rfl) : Ro w (pkL L ix) := H.roOf ix _ (pkL_map h)
/-! ### frames -/
def frmL (uf : Nat → Value) : Nat → Nat → List (Nat × Value) → List Value
  | 0, _, _ => []
  | n + 1, i, [] => uf i :: frmL uf n (i + 1) []
  | n + 1, i, (j, v) :: l => match Nat.beq j i with
    | true => v :: frmL uf n (i + 1) l
    | false => uf i :: frmL uf n (i + 1) ((j, v) :: l)
/-- A frame: what is told of it. -/
def frm (n : Nat) (uf : Nat → Value) (l : List (Nat × Value)) (df : List Deferred) : Act := { tmps := (frmL uf n 0 l).toArray, defers := df }
def incr : Nat → List (Nat × Value) → Bool
  | _, [] => true
  | i, (j, _) :: l => decide (i ≤ j) && incr (j + 1) l
theorem frmL_eq (ts : List Value) : ∀ (n i : Nat) (l : List (Nat × Value)), incr i l = true → l.map (fun p => (ts[p.1]?).getD undef) = l.map (·.2) → i + n = ts.length → frmL (fun i => (ts[i]?).getD undef) n i l = ts.drop i
  | 0, i, l, _, _, h => by rw [frmL]; exact (List.drop_eq_nil_of_le (by omega)).symm
  | n + 1, i, [], hs, hm, h => by
    rw [frmL, frmL_eq ts n (i + 1) [] rfl rfl (by omega), List.drop_eq_getElem_cons (show i < ts.length by omega), List.getElem?_eq_getElem (show i < ts.length by omega)]
    rfl
  | n + 1, i, (j, v) :: l, hs, hm, h => by
    simp only [incr, Bool.and_eq_true, decide_eq_true_eq] at hs
    rw [frmL]
    cases hb : Nat.beq j i with
    | true =>
      have e : j = i := Nat.eq_of_beq_eq_true hb
      subst e
      simp only [List.map_cons, List.cons.injEq] at hm
      rw [frmL_eq ts n (j + 1) l hs.2 hm.2 (by omega), List.drop_eq_getElem_cons (show j < ts.length by omega), ← hm.1, List.getElem?_eq_getElem (show j < ts.length by omega)]
      rfl
    | false =>
      have e : j ≠ i := Nat.ne_of_beq_eq_false hb
      rw [frmL_eq ts n (i + 1) ((j, v) :: l) (by simp only [incr, Bool.and_eq_true, decide_eq_true_eq]; exact ⟨by omega, hs.2⟩) hm (by omega), List.drop_eq_getElem_cons (show i < ts.length by omega), List.getElem?_eq_getElem (show i < ts.length by omega)]
      rfl
def selF (a : Act) (l : List (Nat × Value)) : List Value := l.map fun p => (a.tmps.toList[p.1]?).getD undef
theorem frm_of {a : Act} {n : Nat} {l : List (Nat × Value)} {df : List Deferred} (hs : a.tmps.toList.length = n := by kernel_rfl) (hl : selF a l = l.map (·.2) := by kernel_rfl) (hi : incr 0 l = true := by rfl) (hd : a.defers = df := by rfl) :
    a = frm n (fun i => (a.tmps.toList[i]?).getD undef) l df := by
  have e := frmL_eq a.tmps.toList n 0 l hi hl (by omega)
  rw [List.drop_zero] at e
  unfold frm
  rw [e, ← hd]
/-- All is forgotten but what is told. -/
theorem z_fr {E : Exit → Act → World → Prop} {e : Exit} (n : Nat) (l : List (Nat × Value)) (df : List Deferred) (k : ∀ uf, E e (frm n uf l df) w) (hs : a.tmps.toList.length = n := by kernel_rfl) (hl : selF a l = l.map (·.2) := by kernel_rfl) (hi : incr 0 l = true := by rfl) (hd : a.defers = df := by rfl) : E e a w := by
  rw [frm_of (l := l) hs hl hi hd]; exact k _
/-! ### regions -/
theorem z_region_s {id : Nat} {l : List Oper} (H : Hs M w0 w L) (n : Nat) (ix : List Nat) (h : XS ρ P l.toArray Q n (Array.replicate n false) a (fun w' => Hs M w0 w' (pkL L ix)) (fun w' => Hs M w0 w' L))
    (hm : P.follows .mixedOrders = true := by kernel_rfl) (hall : l.toArray.all opNd = true := by kernel_rfl) (hn : l.toArray.size = n := by kernel_rfl) (hx : ix.Nodup := by decide) (ho : okIx L ix = true := by kernel_rfl) : XC ρ P (Code.region id l.toArray true) Q a w :=
  x_region_s n _ _ hm hall hn hsShut (fun _ h => h.pick ix _ hx (pkL_map ho)) H.drew h
theorem z_next {f : Nat} {listed : Array Bool} {K : World → Prop} {Lk : List Res} (H : Hs M w0 w L) (ix ix2 : List Nat) (hK : K = (fun w' => Hs M w0 w' Lk)) (k : XS ρ P ops Q f listed a (fun w' => Hs M w0 w' (pkL L ix)) (fun w' => Hs M w0 w' L))
    (hx : ix.Nodup := by decide) (ho : okIx L ix = true := by kernel_rfl) (hx2 : ix2.Nodup := by decide) (ho2 : ix2.map (fun i => (pkL L ix)[i]?) = Lk.map some := by kernel_rfl) :
    ∃ K' C' : World → Prop, C' w ∧ Shut C' ∧ (∀ w, C' w → K' w) ∧ (∀ w, K' w → K w) ∧ XS ρ P ops Q f listed a K' C' := by
  subst hK
  exact ⟨_, _, H, hsShut, fun _ h => h.pick ix _ hx (pkL_map ho), fun _ h => h.pick ix2 _ hx2 ho2, k⟩
theorem z_region_whole {id : Nat} {l : List Oper} (H : Hs M w0 w L) (h : XQ P l.toArray (fun w' => Hs M w0 w' L) (fun a' => ∀ w', Hs M w0 w' L → Q .normal a' w') l a) (hm : P.follows .mixedOrders = true := by kernel_rfl) (hall : l.toArray.all opNd = true := by kernel_rfl)
    (hB : Region.lexB .any l.toArray = true := by kernel_rfl) : XC ρ P (Code.region id l.toArray true) Q a w := x_region_whole _ hm hall hB H.drew h
theorem z_region_head {id : Nat} {l : List Oper} (H : Hs M w0 w L) (n : Nat) (h : XQ P l.toArray (fun w' => Hs M w0 w' L) (fun a' => ∀ w', Hs M w0 w' L → XL ρ P l.toArray Q (l.drop n) a' w') (l.take n) a) (hm : P.follows .mixedOrders = true := by kernel_rfl)
    (hall : l.toArray.all opNd = true := by kernel_rfl) (hB : Region.lexTailB .any l.toArray n = true := by kernel_rfl) : XC ρ P (Code.region id l.toArray true) Q a w := x_region_head n _ hm hall hB H.drew h
end
end Go.Proofs.YtjbaabffilejeaaDoor
