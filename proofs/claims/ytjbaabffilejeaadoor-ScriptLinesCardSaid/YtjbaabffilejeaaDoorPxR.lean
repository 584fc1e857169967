/- Ranges over functions: rules over what a walk holds. -/
import Derived.RangeFuncNested
import Derived.RangeFuncLeaves
import Derived.RangeFuncBound
import Derived.Shelf.Abstract
import Derived.Test.YtjbaabffilejeaaDoorPx
namespace Go.Proofs.YtjbaabffilejeaaDoor
open Go Go.RowKit
set_option linter.unusedVariables false
theorem wpIn_any {ρ : Option Nat} {n m : Nat} {P : Program} {c : Code} {Q : Exit → Act → World → Prop} {a : Act} {w : World} (h : c.wpIn (FW ρ) n P Q a w) : c.wpIn (FW ρ) m P Q a w :=
  fun b k cs hro hf _ => h b k cs hro hf (fun d h => by cases h)
def Res.cellsB : Res → Bool
  | .obj _ _ => false
  | _ => true
section
variable {M N : List Nat} {w0 w w' : World} {L A A' R : List Res}
theorem Hs.back (h : Hs M w0 w (A ++ R)) : Hs M w0 w R := by
  have right : ∀ {i : Nat} {r : Res}, R[i]? = some r → (A ++ R)[A.length + i]? = some r := fun {i r} hi => by
    rw [List.getElem?_append_right (by omega)]; simpa using hi
  exact ⟨fun i r hi => h.ok _ r (right hi), fun i j r s hne hi hj => h.ap _ _ r s (by omega) (right hi) (right hj), fun i r hi => h.my _ r (right hi), h.fr⟩
theorem Hs.self (h : Hs M w0 w L) : Hs (fps L) w w L := h.enter fps_mem
end
/-- How a round may be left. -/
def roundQ {α G : Type} (N : List Nat) (I : List α → G → Prop) (LI : List α → G → List Res) (J : Code → List α → G → Prop) (pre : List α) (W : World) : Exit → Act → World → Prop
  | .normal, _, W' => ∃ g, I pre g ∧ Hs N W W' (LI pre g)
  | .ret, _, W' => ∃ g, J .ret pre g ∧ Hs N W W' (LI pre g)
  | .exit id, _, W' => ∃ g, J (.exit id) pre g ∧ Hs N W W' (LI pre g)
  | _, _, _ => False
/-- A function's body that holds a range over a function. -/
theorem x_enterM {P : Program} {f : FuncId} {fn : Func} {c : Code} {args : Array Value} {w : World} {R : Ending → World → Prop} (hf : P.funcs[f]? = some fn) (hb : fn.body = some c) (tm : Array Value)
    (ht : args ++ Array.replicate (fn.ntmps - args.size) undef = tm) (h : XC none P c (bodyPostM (FW none) 0 P fn R) { tmps := tm, defers := [] } w) : Calls P f args w R :=
  callsFW.1 (callsIn_of_wp_marks (n := 0) hf hb trivial (by rw [ht]; exact h.out) rfl)
theorem x_retM {P : Program} {fn : Func} {R : Ending → World → Prop} {a : Act} {w w0 : World} {D : Nat} {M : List Nat} {L : List Res} (v : Value) (H : Hs M w0 w (.obj D (.deferred (some [])) :: L)) (hd : a.defers = [{ target := .collected D, args := #[] }])
    (hv : ∀ w', Hs M w0 w' L → (results fn a.tmps).run P w' = .ok v w') (hR : ∀ w', Hs M w0 w' L → R (.returned v) w') : bodyPostM (FW none) 0 P fn R .ret a w := by
  show LeavesInM (FW none) 0 P fn a.tmps R a.defers .returning w
  rw [hd]
  have hk : w.heap[D]? = some (.deferred (some [])) := H.ok 0 _ rfl
  have hlt := heap_lt hk
  have h1 : Hs M w0 (w.putObj D (.deferred none)) (.obj D (.deferred none) :: L) := H.upd 0 (r' := .obj D (.deferred none)) rfl
    (by show (w.putObj D (.deferred none)).heap[D]? = _; simp [World.putObj, hlt]) (fun g hg => .inl hg) rfl rfl rfl (by simp [World.putObj])
    (fun k hk1 hk2 => (grownBy_putObj' w D (.deferred none)).block k hk1 (fun e => hk2 (by cases e; simp [Res.fp])))
  have h2 : Hs M w0 (w.putObj D (.deferred none)) L := Hs.back (A := [.obj D (.deferred none)]) h1
  exact ⟨by simp, .inl ⟨_, _, rfl, run_takeDeferred hk, v, hv _ h2, hR _ h2⟩⟩
theorem x_retM1 {P : Program} {fn : Func} {R : Ending → World → Prop} {a : Act} {w w0 : World} {D : Nat} {M : List Nat} {L : List Res} (ix : List Nat) (L' : List Res) (v : Value) (H : Hs M w0 w L) (hp : ix.map (fun i => L[i]?) = ((.obj D (.deferred (some [])) :: L').map some)) (hd : a.defers = [{ target := .collected D, args := #[] }])
    (hn : ix.Nodup) (hv : ∀ w', Hs M w0 w' L' → (results fn a.tmps).run P w' = .ok v w') (hR : ∀ w', Hs M w0 w' L' → R (.returned v) w') : bodyPostM (FW none) 0 P fn R .ret a w :=
  x_retM v (H.pick _ _ hn hp) hd hv hR
/-- A call of yield. -/
theorem x_yield {ρ : Option Nat} {P : Program} {ops : Array Oper} {Q : Exit → Act → World → Prop} {a : Act} {w : World} {o : Oper} {rest : List Oper} {l : Nat} {args : Array Value} {R : Ending → World → Prop} {m : Nat} (hY : YieldAt (FW ρ) m P l args w R)
    (hw : Region.wanted o (yielded ops a.tmps) = true) (hd : opNd o = true) (h : (execOp a.eval o).run P w = (Instr.yield l args).run P w)
    (k : ∀ e w', R e w' → ∃ v, e = .returned v ∧ XL ρ P ops Q rest (a.put o.dst v) w') : XL ρ P ops Q (o :: rest) a w := by
  obtain ⟨fn, tmps, assign, body, hy, hR⟩ := hY
  refine ⟨?_⟩
  unfold wpListIn
  rw [if_pos hw]
  refine ⟨fun _ _ => trivial, ?_⟩
  show o.uponIn (FW ρ) 0 P a _ Q ((o.semAt (FW ρ).round a.eval).run P w)
  rw [semAt_nd hd, h, hy]
  refine ⟨fun h => (by cases h), hR.1, fun c cs _ => ?_⟩
  obtain ⟨e, w', hr, hc⟩ := hR.2 c cs (fun d h => by cases h)
  obtain ⟨v, rfl, hk⟩ := k e w' hr
  exact ⟨.returned v, w', hk.out, hc⟩
end Go.Proofs.YtjbaabffilejeaaDoor
