/- Steps of a walk told on a list of what a call holds: blocks, rows, objects. -/
import Derived.Test.YtjbaabffilejeaaDoorRows
import Derived.WalkKit
import Derived.OwnWalkIn
import Derived.OrdersIn
import Derived.RangeFuncCalls
import Derived.Deep.Quiet
import Derived.Deep.LoopGhost
import Derived.StillTail
import Derived.Test.YtjbaabffilejeaaDoorRegion
namespace Go.Proofs.YtjbaabffilejeaaDoor
open Go Go.RowKit
set_option linter.unusedVariables false
/-! ### what a call holds -/
inductive Res where
  | blk (g : Nat) (cs : Array Value) (ty : TypeId)
  | row (v : Value) (ty : TypeId) (sz n : Nat) (xs : List Value)
  | obj (g : Nat) (o : Obj)
def Res.fp : Res → List Nat
  | .blk g _ _ => [g]
  | .row v _ _ _ _ => v.ownBlock.toList
  | .obj g _ => [g]
def Res.ok (w : World) : Res → Prop
  | .blk g cs ty => w.heap[g]? = some (.cells cs ty (0, 0))
  | .row v ty sz n xs => w.ownsRow 0 ty sz v n xs
  | .obj g o => w.heap[g]? = some o
theorem heap_lt {w : World} {g : Nat} {o : Obj} (h : w.heap[g]? = some o) : g < w.heap.size := by
  rcases Nat.lt_or_ge g w.heap.size with h1 | h1
  · exact h1
  · rw [Array.getElem?_eq_none h1] at h; cases h
theorem Res.lt {w : World} {r : Res} (h : r.ok w) : ∀ g ∈ r.fp, g < w.heap.size := by
  cases r with
  | blk g cs ty => intro g' hg; simp only [Res.fp, List.mem_singleton] at hg; subst hg; exact heap_lt h
  | obj g o => intro g' hg; simp only [Res.fp, List.mem_singleton] at hg; subst hg; exact heap_lt h
  | row v ty sz n xs => intro g' hg; simp only [Res.fp, Option.mem_toList] at hg; exact (World.ownsRow.lt h g' hg).2
theorem Res.keep {w w' : World} {r : Res} (h : r.ok w) (hk : ∀ g ∈ r.fp, w'.heap[g]? = w.heap[g]?) : r.ok w' := by
  cases r with
  | blk g cs ty => exact (hk g (by simp [Res.fp])).trans h
  | obj g o => exact (hk g (by simp [Res.fp])).trans h
  | row v ty sz n xs =>
    obtain ⟨h1, h2⟩ := h
    refine ⟨h1, ?_⟩
    rcases h2 with h2 | ⟨g, cap, cur, hv, hg, hh, r⟩
    · exact .inl h2
    · exact .inr ⟨g, cap, cur, hv, hg, by rw [hk g (by subst hv; simp [Res.fp, Value.ownBlock])]; exact hh, r⟩
/-- What was there is as it was, but for the blocks of M. -/
structure Fr (M : List Nat) (w w' : World) : Prop where
  os : w'.os = w.os
  tape : w'.tape = w.tape
  output : w'.output = w.output
  size : w.heap.size ≤ w'.heap.size
  block : ∀ k, k < w.heap.size → k ∉ M → w'.heap[k]? = w.heap[k]?
theorem Fr.refl (M : List Nat) (w : World) : Fr M w w := ⟨rfl, rfl, rfl, Nat.le_refl _, fun _ _ _ => rfl⟩
theorem Fr.trans' {M N : List Nat} {a b c : World} (h : Fr M a b) (k : Fr N b c) (hN : ∀ g ∈ N, g ∈ M ∨ a.heap.size ≤ g) : Fr M a c :=
  ⟨k.os.trans h.os, k.tape.trans h.tape, k.output.trans h.output, Nat.le_trans h.size k.size, fun i hi hm => (k.block i (Nat.lt_of_lt_of_le hi h.size) (fun hn => by
    rcases hN i hn with h1 | h1
    · exact hm h1
    · omega)).trans (h.block i hi hm)⟩
theorem Fr.ofBelow {w w' : World} (h : Below w.heap.size w w') (M : List Nat) : Fr M w w' := ⟨h.os, h.tape, h.output, h.size, fun k hk _ => h.block k hk⟩
theorem Fr.below {w w' : World} (h : Fr [] w w') : Below w.heap.size w w' := ⟨h.os, h.tape, h.output, h.size, fun k hk => h.block k hk (by simp)⟩
structure Hs (M : List Nat) (w0 w : World) (L : List Res) : Prop where
  ok : ∀ (i : Nat) r, L[i]? = some r → r.ok w
  ap : ∀ (i j : Nat) r s, i ≠ j → L[i]? = some r → L[j]? = some s → ∀ g ∈ r.fp, g ∉ s.fp
  my : ∀ (i : Nat) r, L[i]? = some r → ∀ g ∈ r.fp, g ∈ M ∨ w0.heap.size ≤ g
  fr : Fr M w0 w
section
variable {M N : List Nat} {w0 w w' : World} {L R A A' : List Res}
theorem Hs.nil (w : World) : Hs [] w w [] := ⟨fun i r h => by simp at h, fun i j r s _ h => by simp at h, fun i r h => by simp at h, Fr.refl _ _⟩
theorem Hs.below (h : Hs [] w0 w L) : Below w0.heap.size w0 w := h.fr.below
theorem Hs.size (h : Hs M w0 w L) : w0.heap.size ≤ w.heap.size := h.fr.size
theorem Hs.lt (h : Hs M w0 w L) (i : Nat) {r : Res} (hi : L[i]? = some r) : ∀ g ∈ r.fp, g < w.heap.size := Res.lt (h.ok i r hi)
theorem Hs.blk (h : Hs M w0 w L) (i : Nat) {g : Nat} {cs : Array Value} {ty : TypeId} (hi : L[i]? = some (.blk g cs ty)) : w.heap[g]? = some (.cells cs ty (0, 0)) := h.ok i _ hi
/-- One resource turns into another one, on its own blocks (or on new ones). -/
theorem Hs.upd (h : Hs M w0 w L) (i : Nat) {r r' : Res} (hi : L[i]? = some r) (hok : r'.ok w') (hfp : ∀ g ∈ r'.fp, g ∈ r.fp ∨ w.heap.size ≤ g)
    (hos : w'.os = w.os) (htape : w'.tape = w.tape) (hout : w'.output = w.output) (hsz : w.heap.size ≤ w'.heap.size)
    (hk : ∀ k, k < w.heap.size → k ∉ r.fp → w'.heap[k]? = w.heap[k]?) : Hs M w0 w' (L.set i r') := by
  have hil : i < L.length := (List.getElem?_eq_some_iff.1 hi).1
  refine ⟨fun j s hj => ?_, fun j k s t hne hj hk' g hg hgt => ?_, fun j s hj g hg => ?_, ?_⟩
  · by_cases e : i = j
    · subst e; rw [List.getElem?_set_self hil] at hj; cases hj; exact hok
    · rw [List.getElem?_set_ne e] at hj
      exact Res.keep (h.ok j s hj) fun g hg => hk g (h.lt j hj g hg) fun hg' => h.ap i j r s e hi hj g hg' hg
  · by_cases e : i = j
    · subst e
      rw [List.getElem?_set_self hil] at hj; cases hj
      rw [List.getElem?_set_ne hne] at hk'
      rcases hfp g hg with h1 | h1
      · exact h.ap i k r t hne hi hk' g h1 hgt
      · have := h.lt k hk' g hgt; omega
    · rw [List.getElem?_set_ne e] at hj
      by_cases e2 : i = k
      · subst e2
        rw [List.getElem?_set_self hil] at hk'; cases hk'
        rcases hfp g hgt with h1 | h1
        · exact h.ap j i s r hne hj hi g hg h1
        · have := h.lt j hj g hg; omega
      · rw [List.getElem?_set_ne e2] at hk'
        exact h.ap j k s t hne hj hk' g hg hgt
  · by_cases e : i = j
    · subst e
      rw [List.getElem?_set_self hil] at hj; cases hj
      rcases hfp g hg with h1 | h1
      · exact h.my i r hi g h1
      · exact .inr (Nat.le_trans h.size h1)
    · rw [List.getElem?_set_ne e] at hj; exact h.my j s hj g hg
  · refine ⟨hos.trans h.fr.os, htape.trans h.fr.tape, hout.trans h.fr.output, Nat.le_trans h.size hsz, fun k hk1 hk2 => ?_⟩
    refine (hk k (Nat.lt_of_lt_of_le hk1 h.size) fun hg => ?_).trans (h.fr.block k hk1 hk2)
    rcases h.my i r hi k hg with h1 | h1
    · exact hk2 h1
    · omega
/-- A new resource, on new blocks. -/
theorem Hs.add (h : Hs M w0 w L) {r : Res} (hok : r.ok w') (hfp : ∀ g ∈ r.fp, w.heap.size ≤ g)
    (hos : w'.os = w.os) (htape : w'.tape = w.tape) (hout : w'.output = w.output) (hsz : w.heap.size ≤ w'.heap.size)
    (hk : ∀ k, k < w.heap.size → w'.heap[k]? = w.heap[k]?) : Hs M w0 w' (r :: L) := by
  refine ⟨fun j s hj => ?_, fun j k s t hne hj hk' g hg hgt => ?_, fun j s hj g hg => ?_, ?_⟩
  · cases j with
    | zero => cases hj; exact hok
    | succ j => exact Res.keep (h.ok j s hj) fun g hg => hk g (h.lt j hj g hg)
  · cases j with
    | zero =>
      cases hj
      cases k with
      | zero => exact hne rfl
      | succ k => have := h.lt k hk' g hgt; have := hfp g hg; omega
    | succ j =>
      cases k with
      | zero => cases hk'; have := h.lt j hj g hg; have := hfp g hgt; omega
      | succ k => exact h.ap j k s t (by omega) hj hk' g hg hgt
  · cases j with
    | zero => cases hj; exact .inr (Nat.le_trans h.size (hfp g hg))
    | succ j => exact h.my j s hj g hg
  · exact ⟨hos.trans h.fr.os, htape.trans h.fr.tape, hout.trans h.fr.output, Nat.le_trans h.size hsz, fun k hk1 hk2 => (hk k (Nat.lt_of_lt_of_le hk1 h.size)).trans (h.fr.block k hk1 hk2)⟩
/-- A call that holds A, and leaves A'. -/
theorem Hs.call (h : Hs M w0 w (A ++ R)) (h' : Hs N w w' A') (hN : ∀ g ∈ N, ∃ (i : Nat) (r : Res), A[i]? = some r ∧ g ∈ r.fp) : Hs M w0 w' (A' ++ R) := by
  have left : ∀ {i : Nat} {r : Res}, A[i]? = some r → (A ++ R)[i]? = some r := fun {i r} hi => by
    rw [List.getElem?_append_left (List.getElem?_eq_some_iff.1 hi).1]; exact hi
  have right : ∀ {i : Nat} {r : Res}, R[i]? = some r → (A ++ R)[A.length + i]? = some r := fun {i r} hi => by
    rw [List.getElem?_append_right (by omega)]; simpa using hi
  have apart : ∀ {i : Nat} {r : Res}, R[i]? = some r → ∀ g ∈ r.fp, g ∉ N := fun {i r} hi g hg hn => by
    obtain ⟨j, s, hj, hs⟩ := hN g hn
    exact h.ap j (A.length + i) s r (by have := (List.getElem?_eq_some_iff.1 hj).1; omega) (left hj) (right hi) g hs hg
  have mine : ∀ g, (g ∈ N ∨ w.heap.size ≤ g) → g ∈ M ∨ w0.heap.size ≤ g := fun g hg => by
    rcases hg with hg | hg
    · obtain ⟨j, s, hj, hs⟩ := hN g hg; exact h.my j s (left hj) g hs
    · exact .inr (Nat.le_trans h.size hg)
  have rok : ∀ {i : Nat} {r : Res}, R[i]? = some r → r.ok w' := fun {i r} hi => Res.keep (h.ok _ r (right hi)) fun g hg => h'.fr.block g (h.lt _ (right hi) g hg) (apart hi g hg)
  have split : ∀ {j : Nat} {s : Res}, (A' ++ R)[j]? = some s → A'[j]? = some s ∨ ∃ i, j = A'.length + i ∧ R[i]? = some s := fun {j s} hj => by
    rcases Nat.lt_or_ge j A'.length with h1 | h1
    · rw [List.getElem?_append_left h1] at hj; exact .inl hj
    · rw [List.getElem?_append_right h1] at hj; exact .inr ⟨j - A'.length, by omega, hj⟩
  have cross : ∀ {i k : Nat} {r s : Res}, A'[i]? = some r → R[k]? = some s → ∀ g, g ∈ r.fp → g ∈ s.fp → False := fun {i k r s} hi hk g hg hs => by
    rcases h'.my i r hi g hg with h1 | h1
    · exact apart hk g hs h1
    · have := h.lt _ (right hk) g hs; omega
  refine ⟨fun j s hj => ?_, fun j k s t hne hj hk g hg hgt => ?_, fun j s hj g hg => ?_, h.fr.trans' h'.fr fun g hg => mine g (.inl hg)⟩
  · rcases split hj with h1 | ⟨i, _, h1⟩
    · exact h'.ok j s h1
    · exact rok h1
  · rcases split hj with h1 | ⟨i, e1, h1⟩ <;> rcases split hk with h2 | ⟨i2, e2, h2⟩
    · exact h'.ap j k s t hne h1 h2 g hg hgt
    · exact cross h1 h2 g hg hgt
    · exact cross h2 h1 g hgt hg
    · exact h.ap (A.length + i) (A.length + i2) s t (by omega) (right h1) (right h2) g hg hgt
  · rcases split hj with h1 | ⟨i, e1, h1⟩
    · exact mine g (h'.my j s h1 g hg)
    · exact h.my _ s (right h1) g hg
theorem Hs.via (h : Hs M w0 w L) (hb : Below w.heap.size w w') : Hs M w0 w' L := by
  have := Hs.call (A := []) (R := L) (A' := []) (N := []) h ⟨fun i r h => by simp at h, fun i j r s _ h => by simp at h, fun i r h => by simp at h, Fr.ofBelow hb []⟩ (fun g hg => by simp at hg)
  simpa using this
theorem Hs.drew (h : Hs M w0 w L) : Hs M w0 w.drew L := h.via ((Below.refl _ _).drew)
/-- Some of what is held, in another order. -/
theorem Hs.pick (h : Hs M w0 w L) (ix : List Nat) (L' : List Res) (hn : ix.Nodup) (hp : ix.map (fun i => L[i]?) = L'.map some) : Hs M w0 w L' := by
  have key : ∀ {j : Nat} {s : Res}, L'[j]? = some s → ∃ i, ix[j]? = some i ∧ L[i]? = some s := fun {j s} hj => by
    have h1 : (L'.map some)[j]? = some (some s) := by rw [List.getElem?_map, hj]; rfl
    rw [← hp, List.getElem?_map] at h1
    cases hi : ix[j]? with
    | none => rw [hi] at h1; cases h1
    | some i => rw [hi] at h1; exact ⟨i, rfl, by simpa using h1⟩
  refine ⟨fun j s hj => ?_, fun j k s t hne hj hk => ?_, fun j s hj => ?_, h.fr⟩
  · obtain ⟨i, _, hi⟩ := key hj; exact h.ok i s hi
  · obtain ⟨i, hi, hi'⟩ := key hj
    obtain ⟨i2, hi2, hi2'⟩ := key hk
    refine h.ap i i2 s t (fun e => hne ?_) hi' hi2'
    subst e
    obtain ⟨l1, e1⟩ := List.getElem?_eq_some_iff.1 hi
    obtain ⟨l2, e2⟩ := List.getElem?_eq_some_iff.1 hi2
    have hp := List.pairwise_iff_getElem.1 hn
    rcases Nat.lt_trichotomy j k with h1 | h1 | h1
    · exact absurd (e1.trans e2.symm) (hp j k l1 l2 h1)
    · exact h1
    · exact absurd (e2.trans e1.symm) (hp k j l2 l1 h1)
  · obtain ⟨i, _, hi⟩ := key hj; exact h.my i s hi
/-- At the beginning of a call that holds what came in. -/
theorem Hs.init (hok : ∀ (i : Nat) r, L[i]? = some r → r.ok w) (hap : ∀ (i j : Nat) r s, i ≠ j → L[i]? = some r → L[j]? = some s → ∀ g ∈ r.fp, g ∉ s.fp)
    (hM : ∀ (i : Nat) r, L[i]? = some r → ∀ g ∈ r.fp, g ∈ M) : Hs M w w L := ⟨hok, hap, fun i r hi g hg => .inl (hM i r hi g hg), Fr.refl _ _⟩
/-- Of a caller's holding: what a callee that takes A sees. -/
theorem Hs.enter (h : Hs M w0 w L) (hM : ∀ (i : Nat) r, L[i]? = some r → ∀ g ∈ r.fp, g ∈ N) : Hs N w w L := Hs.init h.ok h.ap hM
theorem Hs.rowCell (h : Hs M w0 w L) (i : Nat) {g n c : Nat} {ty : TypeId} {sz : Nat} {xs : List Value} (hi : L[i]? = some (.row (.slice (some ⟨g, 0, none⟩) n c) ty sz n xs)) (j : Nat) {v : Value} (hj : xs[j]? = some v) : w.cell? ⟨g, j, none⟩ = some v := by
  have h0 := h.ok i _ hi
  have := World.ownsRow.cells h0 (g := g) rfl j v hj
  rwa [show ((⟨g, 0, none⟩ : Addr).add j) = ⟨g, j, none⟩ by unfold Addr.add; split <;> simp_all] at this
theorem rowSome {w : World} {B : Nat} {v : Value} {ty : TypeId} {sz n : Nat} {xs : List Value} (ho : w.ownsRow B ty sz v n xs) (hn : 0 < n) : ∃ g cap, v = .slice (some ⟨g, 0, none⟩) n cap ∧ n ≤ cap := by
  rcases ho.2 with ⟨_, h⟩ | ⟨g, cap, _, h, _, _, hc, _⟩
  · omega
  · exact ⟨g, cap, h, hc⟩
theorem heap_alloc_new' (w : World) (o : Obj) : (w.alloc o).heap[w.heap.size]? = some o := by
  show (w.heap.push o)[w.heap.size]? = _
  simp
theorem Hs.alloc (h : Hs M w0 w L) (cs : Array Value) (ty : TypeId) : Hs M w0 (w.alloc (.cells cs ty)) (.blk w.heap.size cs ty :: L) :=
  h.add (heap_alloc_new' _ _) (by simp [Res.fp]) rfl rfl rfl (by simp) (fun k hk => Below.heap_alloc _ _ _ hk)
theorem Hs.allocRow (h : Hs M w0 w L) (cs : Array Value) (ty : TypeId) (n c sz : Nat) (xs : List Value) (hx : cs.toList.take (n * sz) = xs) (hl : cs.size = c * sz) (hn : n ≤ c) (hm : c ≤ maxLen) :
    Hs M w0 (w.alloc (.cells cs ty)) (.row (.slice (some ⟨w.heap.size, 0, none⟩) n c) ty sz n xs :: L) := by
  refine h.add ?_ (by simp [Res.fp, Value.ownBlock]) rfl rfl rfl (by simp) (fun k hk => Below.heap_alloc _ _ _ hk)
  refine ⟨?_, .inr ⟨_, _, cs, rfl, Nat.zero_le _, heap_alloc_new' _ _, hn, hm, hl, hx⟩⟩
  rw [← hx, List.length_take, Array.length_toList, hl]
  exact Nat.min_eq_left (Nat.mul_le_mul_right _ hn)
end
/-! ### the fence that lets all by, and the steps -/
def FW (ρ : Option Nat) : Fence := { fn := fun _ => True, depth := none, alive := false, round := ρ }
theorem callsFW {ρ : Option Nat} {n : Nat} {P : Program} {f : FuncId} {args : Array Value} {w : World} {R : Ending → World → Prop} : CallsIn (FW ρ) n P f args w R ↔ Calls P f args w R :=
  callsIn_wide (n := n)
/-- The walk's goals, behind names that are not unfolded by the way. -/
structure XL (ρ : Option Nat) (P : Program) (ops : Array Oper) (Q : Exit → Act → World → Prop) (l : List Oper) (a : Act) (w : World) : Prop where
  out : wpListIn (FW ρ) 0 P ops Q l a w
structure XC (ρ : Option Nat) (P : Program) (c : Code) (Q : Exit → Act → World → Prop) (a : Act) (w : World) : Prop where
  out : c.wpIn (FW ρ) 0 P Q a w
structure XQ (P : Program) (ops : Array Oper) (C : World → Prop) (Q : Act → Prop) (l : List Oper) (a : Act) : Prop where
  out : wpQuiet P ops C Q l a
/-- A function's body, walked. -/
theorem x_enter {P : Program} {f : FuncId} {fn : Func} {c : Code} {args : Array Value} {w : World} {R : Ending → World → Prop} (hf : P.funcs[f]? = some fn) (hb : fn.body = some c) (tm : Array Value)
    (ht : args ++ Array.replicate (fn.ntmps - args.size) undef = tm) (h : XC none P c (bodyPost P fn R) { tmps := tm, defers := [] } w) : Calls P f args w R :=
  callsFW.1 (callsIn_of_wp hf hb trivial (by rw [ht]; exact h.out) rfl)
def opNd (o : Oper) : Bool := match o.op with | .defer _ => false | _ => true
theorem semAt_nd {o : Oper} (h : opNd o = true) (ρ : Option Nat) (e : Operand → Value) : Oper.semAt ρ e o = execOp e o :=
  Oper.semAt_eq ρ e o fun c hc => by unfold opNd at h; rw [hc] at h; cases h
section
variable {ρ : Option Nat} {P : Program} {ops : Array Oper} {Q : Exit → Act → World → Prop} {a : Act} {w w' w0 : World} {o : Oper} {rest : List Oper} {M N : List Nat} {L L' : List Res}
theorem x_run {v : Value} (hw : Region.wanted o (yielded ops a.tmps) = true) (hd : opNd o = true) (h : (execOp a.eval o).run P w = .ok (.value v) w')
    (k : XL ρ P ops Q rest (a.put o.dst v) w') : XL ρ P ops Q (o :: rest) a w := by
  refine ⟨?_⟩
  unfold wpListIn
  rw [if_pos hw]
  exact ⟨fun _ _ => trivial, by rw [semAt_nd hd, h]; exact k.out⟩
theorem x_do (hw : Region.wanted o (yielded ops a.tmps) = true) (hd : opNd o = true) (h : (execOp a.eval o).run P w = .ok .skip w')
    (k : XL ρ P ops Q rest (a.put o.dst undef) w') : XL ρ P ops Q (o :: rest) a w := by
  refine ⟨?_⟩
  unfold wpListIn
  rw [if_pos hw]
  exact ⟨fun _ _ => trivial, by rw [semAt_nd hd, h]; exact k.out⟩
/-- A value that hangs on no memory. -/
theorem x_val (v : Value) (hw : Region.wanted o (yielded ops a.tmps) = true) (hd : opNd o = true) (h : (execOp a.eval o).run P w = .ok (.value v) w)
    (k : XL ρ P ops Q rest (a.put o.dst v) w) : XL ρ P ops Q (o :: rest) a w := x_run hw hd h k
/-- An operation that is passed over. -/
theorem x_skip (hw : Region.wanted o (yielded ops a.tmps) = false) (k : XL ρ P ops Q rest (a.put o.dst undef) w) : XL ρ P ops Q (o :: rest) a w := by
  refine ⟨?_⟩
  unfold wpListIn
  rw [if_neg (by rw [hw]; exact Bool.false_ne_true)]
  exact ⟨fun _ _ => trivial, k.out⟩
/-- A call. -/
theorem x_call {f : FuncId} {args : Array Value} {R : Ending → World → Prop} (hw : Region.wanted o (yielded ops a.tmps) = true) (hd : opNd o = true) (h : (execOp a.eval o).run P w = .ok (.enter f args) w)
    (hc : Calls P f args w R) (k : ∀ e w', R e w' → ∃ v, e = .returned v ∧ XL ρ P ops Q rest (a.put o.dst v) w') : XL ρ P ops Q (o :: rest) a w := by
  refine ⟨?_⟩
  unfold wpListIn
  rw [if_pos hw]
  refine ⟨fun _ _ => trivial, ?_⟩
  rw [semAt_nd hd, h]
  refine ⟨fun h => (by cases h), callsFW.2 (hc.mono fun e w' hr => ?_)⟩
  obtain ⟨v, rfl, hk⟩ := k e w' hr
  exact hk.out
theorem x_callH {f : FuncId} {args : Array Value} (v : Value) (L' : List Res) (hw : Region.wanted o (yielded ops a.tmps) = true) (hd : opNd o = true) (h : (execOp a.eval o).run P w = .ok (.enter f args) w)
    (hc : Calls P f args w fun e w' => e = .returned v ∧ Hs M w0 w' L') (k : ∀ w', Hs M w0 w' L' → XL ρ P ops Q rest (a.put o.dst v) w') : XL ρ P ops Q (o :: rest) a w :=
  x_call hw hd h hc fun e w' ⟨he, hh⟩ => ⟨v, he, k w' hh⟩
theorem x_callB {f : FuncId} {args : Array Value} (v : Value) (H : Hs M w0 w L) (hw : Region.wanted o (yielded ops a.tmps) = true) (hd : opNd o = true) (h : (execOp a.eval o).run P w = .ok (.enter f args) w)
    (hc : Calls P f args w fun e w' => e = .returned v ∧ Below w.heap.size w w') (k : ∀ w', Hs M w0 w' L → XL ρ P ops Q rest (a.put o.dst v) w') : XL ρ P ops Q (o :: rest) a w :=
  x_call hw hd h hc fun e w' ⟨he, hh⟩ => ⟨v, he, k w' (H.via hh)⟩
/-! #### memory -/
def ldS (ad : Addr) : Sem Next := (Go.load ad).bind fun v => .pure (.value v)
def ldA (ad : Addr) (n : Nat) : Sem Next := (loadCells ad n).bind fun cs => .pure (.value (.agg cs))
def stS (ad : Addr) (vs : List Value) : Sem Next := (storeCells ad vs 0).bind fun _ => .pure .skip
def ldV (t : TypeId) (ad : Addr) : Sem Next := loadVar t ad >>= fun v => pure (Next.value v)
def stV (t : TypeId) (ad : Addr) (v : Value) : Sem Next := storeVar t ad v >>= fun _ => pure Next.skip
def aggSize (P : Program) (t : TypeId) : Option Nat :=
  match P.underlying t, P.info? t with
  | some (.struct _), some i => some i.size
  | some (.array _ _), some i => some i.size
  | _, _ => none
theorem run_ldV {t : TypeId} {n : Nat} (h : aggSize P t = some n) (ad : Addr) : (ldV t ad).run P w = (ldA ad n).run P w := by
  unfold aggSize at h
  cases hu : P.underlying t with
  | none => rw [hu] at h; cases h
  | some d =>
    cases hi : P.info? t with
    | none => rw [hu, hi] at h; cases d <;> cases h
    | some i =>
      rw [hu, hi] at h
      have hr := run_underlying hu w
      have e : (ldA ad n) = (loadCells ad n >>= fun cs => pure (Next.value (Value.agg cs))) := rfl
      rw [e]
      cases d <;> (simp only at h) <;> cases h
      all_goals simp only [ldV, loadVar, isAgg, Sem.run_bind, hr, Result.andThen_ok, Sem.run_pure, if_true, sizeOf, typeInfo, run_program, hi]
      all_goals (cases (loadCells ad i.size).run P w <;> rfl)
theorem run_stV {t : TypeId} {n : Nat} {v : Value} (h : (P.info? t).map (·.size) = some n) (hv : v.cells.toList.length = n) (ad : Addr) : (stV t ad v).run P w = (stS ad v.cells.toList).run P w := by
  cases hi : P.info? t with
  | none => rw [hi] at h; cases h
  | some i =>
    rw [hi] at h
    have h3 : i.size = n := by simpa using h
    have e : (stS ad v.cells.toList) = (storeCells ad v.cells.toList 0 >>= fun _ => pure Next.skip) := rfl
    rw [e]
    have h4 : ¬ v.cells.size ≠ i.size := by rw [h3]; simpa using hv
    simp only [stV, storeVar, Sem.run_bind, sizeOf, typeInfo, run_program, hi, Result.andThen_ok, Sem.run_pure, if_neg h4]
theorem add_none (g o i : Nat) : (⟨g, o, none⟩ : Addr).add i = ⟨g, o + i, none⟩ := by unfold Addr.add; split <;> simp_all
theorem run_ldS {g o : Nat} {v : Value} (h : w.cell? ⟨g, o, none⟩ = some v) : (ldS ⟨g, o, none⟩).run P w = .ok (.value v) w := by
  unfold ldS Go.load
  simp only [Sem.bind, Sem.run, h]
theorem run_ldA {g o : Nat} (vs : List Value) (h : ∀ (j : Nat) v, vs[j]? = some v → w.cell? ⟨g, o + j, none⟩ = some v) : (ldA ⟨g, o, none⟩ vs.length).run P w = .ok (.value (.agg vs.toArray)) w := by
  have := run_loadCells_list (P := P) w ⟨g, o, none⟩ vs (fun j v hv => by rw [add_none]; exact h j v hv)
  unfold ldA
  show Sem.run P ((loadCells ⟨g, o, none⟩ vs.length) >>= fun cs => pure (Next.value (Value.agg cs))) w = _
  rw [Sem.run_bind, this]
  rfl
theorem cellOf {g o : Nat} {cs : Array Value} {ty : TypeId} {v : Value} (h : w.heap[g]? = some (.cells cs ty (0, 0))) (hv : cs[o]? = some v) : w.cell? ⟨g, o, none⟩ = some v := by
  simp [World.cell?, h, hv]
theorem run_stS {g o : Nat} {cs : Array Value} {ty : TypeId} (vs : List Value) (cs' : Array Value) (h : w.heap[g]? = some (.cells cs ty (0, 0))) (hl : o + vs.length ≤ cs.size) (h1 : vs.all Value.oneCell' = true)
    (hcs : (cs.toList.take o ++ vs ++ cs.toList.drop (o + vs.length)).toArray = cs') : (stS ⟨g, o, none⟩ vs).run P w = .ok .skip (w.setRow g cs') := by
  have := run_storeCells_at P g o ty vs 0 cs w h (by simpa using hl) (fun v hv => List.all_eq_true.1 h1 v hv)
  unfold stS
  show Sem.run P ((storeCells ⟨g, o, none⟩ vs 0)    >>= fun _ => pure Next.skip) w = _
  rw [Sem.run_bind, this, ← hcs]
  rfl
theorem heap_setRow (w : World) (g : Nat) (cs cs' : Array Value) (ty : TypeId) (fr : Nat × Nat) (h : w.heap[g]? = some (.cells cs ty fr)) : (w.setRow g cs').heap[g]? = some (.cells cs' ty fr) := setRow_heap w g cs cs' ty fr h
theorem heap_setRow_ne (w : World) (g k : Nat) (cs' : Array Value) (h : k ≠ g) : (w.setRow g cs').heap[k]? = w.heap[k]? := by
  unfold World.setRow
  simp only [Array.getElem?_modify]
  rw [if_neg (fun e => h e.symm)]
theorem Hs.setRow (H : Hs M w0 w L) (i : Nat) {g : Nat} {cs : Array Value} {ty : TypeId} (hi : L[i]? = some (.blk g cs ty)) (cs' : Array Value) : Hs M w0 (w.setRow g cs') (L.set i (.blk g cs' ty)) :=
  H.upd i hi (heap_setRow w g cs cs' ty (0, 0) (H.blk i hi)) (fun k hk => .inl hk) rfl rfl rfl (by simp) (fun k _ hk => heap_setRow_ne w g k cs' (by simpa [Res.fp] using hk))
theorem ldn_ok {g off : Nat} {cs : Array Value} {ty : TypeId} {vs : List Value} (hb : w.heap[g]? = some (.cells cs ty (0, 0))) (hv : (cs.toList.drop off).take vs.length = vs) : (ldA ⟨g, off, none⟩ vs.length).run P w = .ok (.value (.agg vs.toArray)) w :=
  run_ldA vs fun j v hj => cellOf hb (by
    rw [← hv, List.getElem?_take] at hj
    split at hj
    · rw [List.getElem?_drop] at hj; simpa using hj
    · cases hj)
/-- A cell that is known of the world. -/
theorem x_loadc (g off : Nat) (v : Value) (hv : w.cell? ⟨g, off, none⟩ = some v) (hw : Region.wanted o (yielded ops a.tmps) = true) (hd : opNd o = true)
    (h : (execOp a.eval o).run P w = (ldS ⟨g, off, none⟩).run P w) (k : XL ρ P ops Q rest (a.put o.dst v) w) : XL ρ P ops Q (o :: rest) a w :=
  x_run hw hd (h.trans (run_ldS hv)) k
theorem x_loadcn (g off : Nat) (vs : List Value) (hv : ∀ (j : Nat) v, vs[j]? = some v → w.cell? ⟨g, off + j, none⟩ = some v) (hw : Region.wanted o (yielded ops a.tmps) = true) (hd : opNd o = true)
    {t : TypeId} (h : execOp a.eval o = ldV t ⟨g, off, none⟩) (ht : aggSize P t = some vs.length) (k : XL ρ P ops Q rest (a.put o.dst (.agg vs.toArray)) w) : XL ρ P ops Q (o :: rest) a w :=
  x_run hw hd ((by rw [h, run_ldV ht]; exact run_ldA vs hv)) k
theorem x_store (H : Hs M w0 w L) (i g off : Nat) (cs cs' : Array Value) (ty : TypeId) (vs : List Value) (L' : List Res) (hi : L[i]? = some (.blk g cs ty)) (hl : opNd o = true) (hl2 : decide (off + vs.length ≤ cs.size) = true) (h1 : vs.all Value.oneCell' = true)
    (hcs : (cs.toList.take off ++ vs ++ cs.toList.drop (off + vs.length)).toArray = cs') (hL : L.set i (.blk g cs' ty) = L') (hw : Region.wanted o (yielded ops a.tmps) = true)
    {t : TypeId} {v : Value} (h : execOp a.eval o = stV t ⟨g, off, none⟩ v) (ht : (P.info? t).map (·.size) = some vs.length) (hv : v.cells.toList = vs) (k : ∀ w', Hs M w0 w' L' → XL ρ P ops Q rest (a.put o.dst undef) w') : XL ρ P ops Q (o :: rest) a w :=
  x_do hw hl (by rw [h, run_stV ht (by rw [hv]), hv]; exact run_stS vs cs' (H.blk i hi) (of_decide_eq_true hl2) h1 hcs) (k _ (by rw [← hL]; exact H.setRow i hi cs'))
/-- A new block. -/
theorem x_box (H : Hs M w0 w L) (cs : Array Value) (ty : TypeId) (hw : Region.wanted o (yielded ops a.tmps) = true) (hd : opNd o = true)
    (h : (execOp a.eval o).run P w = .ok (.value (.pointer (some ⟨w.heap.size, 0, none⟩))) (w.alloc (.cells cs ty)))
    (k : ∀ w' g, Hs M w0 w' (.blk g cs ty :: L) → XL ρ P ops Q rest (a.put o.dst (.pointer (some ⟨g, 0, none⟩))) w') : XL ρ P ops Q (o :: rest) a w :=
  x_run hw hd h (k _ _ (H.alloc cs ty))
/-! #### code -/
theorem x_region {id : Nat} {l : List Oper} (h : XL ρ P l.toArray Q l a w) : XC ρ P (Code.region id l.toArray false) Q a w := ⟨wpIn_region_lit h.out⟩
theorem x_nil (h : Q .normal a w) : XL ρ P ops Q [] a w := ⟨h⟩
theorem x_seq {x y : Code} (h : XC ρ P x (Exit.then (XC ρ P y Q) Q) a w) : XC ρ P (Code.seq x y) Q a w :=
  ⟨wpIn_seq (wpIn_mono h.out fun e a w hq => by cases e <;> first | exact hq.out | exact hq)⟩
theorem x_skipc (h : Q .normal a w) : XC ρ P .skip Q a w := ⟨wpIn_skip h⟩
theorem x_exit {id : Nat} (h : Q (.exit id) a w) : XC ρ P (.exit id) Q a w := ⟨wpIn_exit h⟩
theorem x_retc (h : Q .ret a w) : XC ρ P .ret Q a w := ⟨wpIn_ret h⟩
theorem x_block {id : Nat} {c : Code} (h : XC ρ P c (Exit.inBlock id Q) a w) : XC ρ P (.block id c) Q a w := ⟨wpIn_block h.out⟩
theorem x_then {next : Act → World → Prop} (h : next a w) : Exit.then next Q .normal a w := h
theorem x_then_exit {next : Act → World → Prop} {id : Nat} (h : Q (.exit id) a w) : Exit.then next Q (.exit id) a w := h
theorem x_then_ret {next : Act → World → Prop} (h : Q .ret a w) : Exit.then next Q .ret a w := h
theorem x_blk {id : Nat} (h : Q .normal a w) : Exit.inBlock id Q .normal a w := h
theorem x_blk_exit {id : Nat} (h : Q .normal a w) : Exit.inBlock id Q (.exit id) a w := by simpa [Exit.inBlock] using h
theorem x_blk_ret {id : Nat} (h : Q .ret a w) : Exit.inBlock id Q .ret a w := h
theorem x_t {c : Operand} {x y : Code} (hc : a.eval c = .bool true) (h : XC ρ P x Q a w) : XC ρ P (Code.cond c x y) Q a w := ⟨wpIn_cond_true hc h.out⟩
theorem x_f {c : Operand} {x y : Code} (hc : a.eval c = .bool false) (h : XC ρ P y Q a w) : XC ρ P (Code.cond c x y) Q a w := ⟨wpIn_cond_false hc h.out⟩
theorem x_loop {G : Type} {c : Code} (I : G → Act → World → Prop) (μ : G → Nat) (g0 : G) (h0 : I g0 a w)
    (round : ∀ g a w, I g a w → XC ρ P c (Exit.then (fun a' w' => ∃ g', μ g' < μ g ∧ I g' a' w') Q) a w) : XC ρ P (Code.loop c) Q a w := by
  refine ⟨wpIn_loop (fun a w => ∃ n, ∃ g, μ g = n ∧ I g a w) (fun a w => leastOf (fun n => ∃ g, μ g = n ∧ I g a w)) ⟨_, g0, rfl, h0⟩ ?_⟩
  intro a w hI
  obtain ⟨⟨g, hg, hIg⟩, hmin⟩ := leastOf_spec hI
  refine wpIn_mono (round g a w hIg).out ?_
  intro e a' w' hq
  cases e with
  | normal =>
    obtain ⟨g', hlt, hI'⟩ := hq
    have h2 := (leastOf_spec (p := fun n => ∃ g, μ g = n ∧ I g a' w') ⟨_, g', rfl, hI'⟩).2 (μ g') ⟨g', rfl, hI'⟩
    exact show (∃ n, ∃ g, μ g = n ∧ I g a' w') ∧ leastOf (fun n => ∃ g, μ g = n ∧ I g a' w') < leastOf (fun n => ∃ g, μ g = n ∧ I g a w) from
      ⟨⟨_, g', rfl, hI'⟩, by rw [← hg]; exact Nat.lt_of_le_of_lt h2 hlt⟩
  | exit id => exact hq
  | goto l => exact hq
  | ret => exact hq
  | panic ch => exact hq
  | outgrown => exact hq
theorem x_ret {fn : Func} {R : Ending → World → Prop} (v : Value) (hd : a.defers = []) (hv : (results fn a.tmps).run P w = .ok v w) (hR : R (.returned v) w) : bodyPost P fn R .ret a w := ⟨hd, v, hv, hR⟩
theorem x_end {fn : Func} {R : Ending → World → Prop} (v : Value) (hd : a.defers = []) (hv : (results fn a.tmps).run P w = .ok v w) (hR : R (.returned v) w) : bodyPost P fn R .normal a w := ⟨hd, v, hv, hR⟩
end
/-! ### regions that draw their order -/
section
variable {ρ : Option Nat} {P : Program} {ops : Array Oper} {md : Region.Mode} {C : World → Prop}
theorem opIn_of_quiet {o : Oper} {a : Act} {K : Act → Prop} {K' : Act → World → Prop} {Q' : Exit → Act → World → Prop} {w : World} (hd : opNd o = true) (hw : C w) (h : ∀ a w', C w' → K a → K' a w') (hh : o.quiet P a C K) : o.wpIn (FW ρ) 0 P a w K' Q' := by
  obtain ⟨v, h1, h2⟩ := hh
  have h3 := h1 w hw
  unfold Oper.quietAt at h3
  refine ⟨fun _ _ => trivial, ?_⟩
  rw [semAt_nd hd]
  generalize (execOp a.eval o).run P w = r at *
  cases r with
  | ok n w' =>
    cases n <;> simp only [Oper.quietUpon] at h3 <;> simp only [Oper.uponIn]
    case value u =>
      obtain ⟨e1, e2⟩ := h3
      rw [e1, e2]
      exact h _ _ hw h2
    case skip =>
      obtain ⟨e1, e2⟩ := h3
      rw [e1, ← e2]
      exact h _ _ hw h2
    case enter f args =>
      obtain ⟨e1, hc⟩ := h3
      rw [e1]
      exact ⟨fun h => (by cases h), callsFW.2 (hc.mono fun e w'' ⟨he, hw''⟩ => by subst he; exact h _ _ hw'' h2)⟩
  | halt x w' => simp only [Oper.quietUpon] at h3
theorem all_nd {i : Nat} {o : Oper} (h : ops.all opNd = true) (hi : ops[i]? = some o) : opNd o = true := Array.all_eq_true_iff_forall_mem.1 h o (Array.mem_of_getElem? hi)
theorem opIn_of_qOp {i : Nat} {a : Act} {K : Act → Prop} {K' : Act → World → Prop} {Q' : Exit → Act → World → Prop} {w : World} (hall : ops.all opNd = true) (hC : C w) (h : ∀ a w', C w' → K a → K' a w') (hh : qOp P ops C i K a) : wpOpIn (FW ρ) 0 P ops Q' i K' a w := by
  unfold qOp at hh
  unfold wpOpIn
  split
  · rename_i ho; simp only [ho] at hh; exact h _ _ hC hh
  · rename_i o ho
    simp only [ho] at hh
    split
    · rename_i hw; simp only [hw, if_true] at hh; exact opIn_of_quiet (all_nd hall ho) hC h hh
    · rename_i hw; simp only [hw] at hh; exact ⟨fun _ _ => trivial, h _ _ hC hh⟩
theorem anyIn_of_quiet {Q : Act → Prop} {Q' : Exit → Act → World → Prop} (hall : ops.all opNd = true) (hQ : ∀ a w, C w → Q a → Q' .normal a w) : ∀ (fuel : Nat) (listed : Array Bool) (a : Act) (w : World), C w →
    wpAnyQ P md ops C Q fuel listed a → wpAnyIn (FW ρ) 0 P md ops Q' fuel listed a w
  | 0, _, _, _, hw, h => ⟨h.1, hQ _ _ hw h.2⟩
  | fuel + 1, _, _, _, hw, h => ⟨fun h0 => hQ _ _ hw (h.1 h0), fun i hi => opIn_of_qOp hall hw (fun a' w' hw' => anyIn_of_quiet hall hQ fuel _ a' w' hw') (h.2 i hi)⟩
theorem anyIn_of_headC {n g : Nat} {L : Array Bool → Act → Prop} {Q' : Exit → Act → World → Prop} (hall : ops.all opNd = true) (hL : ∀ listed a w, C w → L listed a → wpAnyIn (FW ρ) 0 P md ops Q' g listed a w) :
    ∀ (f : Nat) (listed : Array Bool) (a : Act) (w : World), C w → headC P md ops C n L f listed a → wpAnyIn (FW ρ) 0 P md ops Q' (f + g) listed a w
  | 0, listed, a, w, hw, h => by rw [Nat.zero_add]; exact hL _ _ _ hw h
  | f + 1, listed, a, w, hw, h => by
    rw [show f + 1 + g = (f + g) + 1 by omega]
    exact ⟨fun h0 => absurd h0 h.1, fun i hi => opIn_of_qOp hall hw (fun a' w' hw' h' => anyIn_of_headC hall hL f _ a' w' hw' h') (h.2 i hi).2⟩
theorem anyIn_of_seq {Q' : Exit → Act → World → Prop} : ∀ (l : List Oper) (k : Nat) (listed : Array Bool) (a : Act) (w : World), (∀ j, l[j]? = ops[k + j]?) →
    Region.seqB md ops l.length k listed = true → wpListIn (FW ρ) 0 P ops Q' l a w → wpAnyIn (FW ρ) 0 P md ops Q' l.length listed a w
  | [], _, _, _, _, _, hB, h => ⟨by simpa [Region.seqB] using hB, h⟩
  | o :: l, k, listed, a, w, hl, hB, h => by
    have h0 : ops[k]? = some o := by simpa using (hl 0).symm
    simp only [List.length_cons, Region.seqB, Bool.and_eq_true, decide_eq_true_eq] at hB
    refine ⟨fun h1 => (by rw [hB.1] at h1; cases h1), fun i hi => ?_⟩
    rw [hB.1] at hi
    have hik : i = k := by simpa using hi
    subst hik
    have hw : wpOpIn (FW ρ) 0 P ops Q' i (wpListIn (FW ρ) 0 P ops Q' l) a w := by unfold wpOpIn; simp only [h0]; exact h
    exact wpOpIn_mono (fun a' w' h' => anyIn_of_seq l (i + 1) _ a' w' (fun j => by have := hl (j + 1); simpa [Nat.add_assoc, Nat.add_comm 1 j] using this) hB.2 h') hw
/-- The first n operations are quiet in a class of worlds; the others stand behind them, one behind the other. -/
theorem x_region_head {id : Nat} {Q : Exit → Act → World → Prop} {a : Act} {w : World} {l : List Oper} (n : Nat) (C : World → Prop) (hm : P.follows .mixedOrders = true) (hall : l.toArray.all opNd = true) (hB : Region.lexTailB .any l.toArray n = true)
    (hC : C w.drew) (h : XQ P l.toArray C (fun a' => ∀ w', C w' → XL ρ P l.toArray Q (l.drop n) a' w') (l.take n) a) : XC ρ P (Code.region id l.toArray true) Q a w := by
  refine ⟨?_⟩
  simp only [Region.lexTailB, Bool.and_eq_true, decide_eq_true_eq] at hB
  obtain ⟨⟨⟨⟨hsel, hn⟩, hs⟩, hc⟩, hlex⟩ := hB
  have hn' : n < l.length := by simpa using hn
  have htl : (l.take n).length = n := by simp; omega
  have hdl : (l.drop n).length = l.toArray.size - n := by simp
  have inv0 : HeadInv .any l.toArray n (Array.replicate l.toArray.size false) :=
    ⟨by simp, fun j oj _ hl => (by rw [getD_replicate_false] at hl; cases hl), fun t _ ht => getD_in (by simpa using ht) (getD_replicate_false _ _)⟩
  have H := headC_lex (md := .any) (g := l.toArray.size - n) hsel hs hc hn (l.take n) 0 _ a (fun j hj => by
    have hj' : j < n := by rw [htl] at hj; exact hj
    simp [hj']) (by simpa using htl) inv0 (by rw [htl]; exact hlex) h.out
  refine wpIn_region_any hm ?_
  have := anyIn_of_headC (ρ := ρ) (Q' := Q) (g := l.toArray.size - n) hall (fun listed a' w' hw' hL => by
    have := anyIn_of_seq (ρ := ρ) (md := .any) (Q' := Q) (l.drop n) n listed a' w' (fun j => by simp [List.getElem?_drop]) (by rw [hdl]; exact hL.1) (hL.2 w' hw').out
    rwa [hdl] at this) _ _ _ _ hC H
  rw [htl, show n + (l.toArray.size - n) = l.toArray.size by omega] at this
  exact this
/-- All operations are quiet in a class of worlds. -/
theorem x_region_whole {id : Nat} {Q : Exit → Act → World → Prop} {a : Act} {w : World} {l : List Oper} (C : World → Prop) (hm : P.follows .mixedOrders = true) (hall : l.toArray.all opNd = true) (hB : Region.lexB .any l.toArray = true)
    (hC : C w.drew) (h : XQ P l.toArray C (fun a' => ∀ w', C w' → Q .normal a' w') l a) : XC ρ P (Code.region id l.toArray true) Q a w := by
  refine ⟨?_⟩
  simp only [Region.lexB, Bool.and_eq_true] at hB
  refine wpIn_region_any hm (anyIn_of_quiet (Q := fun a' => ∀ w', C w' → Q .normal a' w') hall (fun _ w' hw' h => h w' hw') _ _ _ _ hC ?_)
  have := wpAnyQ_lex (C := C) (md := .any) hB.1 l 0 (Array.replicate l.toArray.size false) a (by simp) (by simpa using hB.2) h.out
  simpa using this
variable {Qf : Act → Prop} {a : Act} {o : Oper} {rest : List Oper} {M : List Nat} {w0 : World} {L : List Res}
theorem q_nil (h : Qf a) : XQ P ops C Qf [] a := ⟨h⟩
theorem q_val (v : Value) (hw : Region.wanted o (yielded ops a.tmps) = true) (h : ∀ w, (execOp a.eval o).run P w = .ok (.value v) w) (k : XQ P ops C Qf rest (a.put o.dst v)) : XQ P ops C Qf (o :: rest) a := by
  refine ⟨?_⟩
  unfold wpQuiet
  rw [if_pos hw]
  exact ⟨v, fun w _ => by unfold Oper.quietAt; rw [h w]; exact ⟨rfl, rfl⟩, k.out⟩
theorem q_skip (hw : Region.wanted o (yielded ops a.tmps) = false) (k : XQ P ops C Qf rest (a.put o.dst undef)) : XQ P ops C Qf (o :: rest) a := by
  refine ⟨?_⟩
  unfold wpQuiet
  rw [if_neg (by rw [hw]; exact Bool.false_ne_true)]
  exact k.out
theorem q_in (v : Value) (hw : Region.wanted o (yielded ops a.tmps) = true) (h : ∀ w, C w → (execOp a.eval o).run P w = .ok (.value v) w) (k : XQ P ops C Qf rest (a.put o.dst v)) : XQ P ops C Qf (o :: rest) a := by
  refine ⟨?_⟩
  unfold wpQuiet
  rw [if_pos hw]
  exact ⟨v, fun w hC => by unfold Oper.quietAt; rw [h w hC]; exact ⟨rfl, rfl⟩, k.out⟩
theorem q_loadc (g off : Nat) (v : Value) (hv : ∀ w, C w → w.cell? ⟨g, off, none⟩ = some v) (hw : Region.wanted o (yielded ops a.tmps) = true)
    (h : ∀ w, (execOp a.eval o).run P w = (ldS ⟨g, off, none⟩).run P w) (k : XQ P ops C Qf rest (a.put o.dst v)) : XQ P ops C Qf (o :: rest) a :=
  q_in v hw (fun w H => (h w).trans (run_ldS (hv w H))) k
theorem q_loadcn (g off : Nat) (vs : List Value) (hv : ∀ w, C w → ∀ (j : Nat) v, vs[j]? = some v → w.cell? ⟨g, off + j, none⟩ = some v) (hw : Region.wanted o (yielded ops a.tmps) = true)
    {t : TypeId} (h : execOp a.eval o = ldV t ⟨g, off, none⟩) (ht : aggSize P t = some vs.length) (k : XQ P ops C Qf rest (a.put o.dst (.agg vs.toArray))) : XQ P ops C Qf (o :: rest) a :=
  q_in _ hw (fun w H => (by rw [h, run_ldV ht]; exact run_ldA vs (hv w H))) k
theorem q_call {f : FuncId} {args : Array Value} (v : Value) (hw : Region.wanted o (yielded ops a.tmps) = true) (h : ∀ w, (execOp a.eval o).run P w = .ok (.enter f args) w)
    (hc : ∀ w, C w → Calls P f args w fun e w' => e = .returned v ∧ C w') (k : XQ P ops C Qf rest (a.put o.dst v)) : XQ P ops C Qf (o :: rest) a := by
  refine ⟨?_⟩
  unfold wpQuiet
  rw [if_pos hw]
  exact ⟨v, fun w hC => by unfold Oper.quietAt; rw [h w]; exact ⟨rfl, hc w hC⟩, k.out⟩
theorem q_callB {f : FuncId} {args : Array Value} (v : Value) (hw : Region.wanted o (yielded ops a.tmps) = true) (h : ∀ w, (execOp a.eval o).run P w = .ok (.enter f args) w)
    (hc : ∀ w, Calls P f args w fun e w' => e = .returned v ∧ Below w.heap.size w w') (k : XQ P ops (fun w => Hs M w0 w L) Qf rest (a.put o.dst v)) : XQ P ops (fun w => Hs M w0 w L) Qf (o :: rest) a :=
  q_call v hw h (fun w H => (hc w).mono fun e w' ⟨he, hb⟩ => ⟨he, H.via hb⟩) k
end
/-! ### reckoning -/
section
variable {ρ : Option Nat} {P : Program} {ops : Array Oper} {Q : Exit → Act → World → Prop} {C : World → Prop} {Qf : Act → Prop} {a : Act} {w : World} {o : Oper} {rest : List Oper} {M : List Nat} {w0 : World} {L : List Res}
theorem i64ok {z : Int} (h : -9223372036854775808 ≤ z ∧ z ≤ 9223372036854775807) : IntKind.i64.wrap z = z := by rw [IntKind.wrap_i64]; omega
theorem x_ar (z : Int) (hz : -9223372036854775808 ≤ z ∧ z ≤ 9223372036854775807) (hw : Region.wanted o (yielded ops a.tmps) = true) (hd : opNd o = true) (h : (execOp a.eval o).run P w = .ok (.value (.int .i64 (IntKind.i64.wrap z))) w)
    (k : XL ρ P ops Q rest (a.put o.dst (.int .i64 z)) w) : XL ρ P ops Q (o :: rest) a w := x_run hw hd (by rw [h, i64ok hz]) k
/-- A value whose raw form is another one's. -/
theorem x_eq {v : Value} (v' : Value) (e : v = v') (hw : Region.wanted o (yielded ops a.tmps) = true) (hd : opNd o = true) (h : (execOp a.eval o).run P w = .ok (.value v) w)
    (k : XL ρ P ops Q rest (a.put o.dst v') w) : XL ρ P ops Q (o :: rest) a w := x_run hw hd (by rw [h, e]) k
theorem q_eq {v : Value} (v' : Value) (e : v = v') (hw : Region.wanted o (yielded ops a.tmps) = true) (h : ∀ w, (execOp a.eval o).run P w = .ok (.value v) w)
    (k : XQ P ops C Qf rest (a.put o.dst v')) : XQ P ops C Qf (o :: rest) a := q_val _ hw (fun w => by rw [h w, e]) k
theorem x_rescell {fn : Func} (H : Hs M w0 w L) (i g off : Nat) (cs : Array Value) (ty : TypeId) (vs : List Value) (fin : Value → Value) (hi : L[i]? = some (.blk g cs ty)) (hv : (cs.toList.drop off).take vs.length = vs)
    (h : (results fn a.tmps).run P w = ((loadCells ⟨g, off, none⟩ vs.length).bind fun c => .pure (fin (.agg c))).run P w) : (results fn a.tmps).run P w = .ok (fin (.agg vs.toArray)) w := by
  have := run_loadCells_list (P := P) w ⟨g, off, none⟩ vs (fun j v hj => by
    rw [add_none]
    exact cellOf (H.blk i hi) (by
      rw [← hv, List.getElem?_take] at hj
      split at hj
      · rw [List.getElem?_drop] at hj; simpa using hj
      · cases hj))
  rw [h]
  show Sem.run P ((loadCells ⟨g, off, none⟩ vs.length) >>= fun c => pure (fin (.agg c))) w = _
  rw [Sem.run_bind, this]
  rfl
theorem e_rem (x y : Int) (h : 0 ≤ x) : Value.int .i64 (x.tmod y) = .int .i64 (x % y) := by rw [Int.tmod_eq_emod_of_nonneg h]
theorem e_quo (x y : Int) (h : 0 ≤ x) (h1 : x ≤ 9223372036854775807) (h2 : 0 < y) : Value.int .i64 (IntKind.i64.wrap (x.tdiv y)) = .int .i64 (x / y) := by rw [IntWalk.i64_quo x y ⟨h, h1, h2⟩]
/-- A new row as a block, told by a slice. -/
theorem x_box' (H : Hs M w0 w L) (cs : Array Value) (ty : TypeId) (n : Nat) (hw : Region.wanted o (yielded ops a.tmps) = true) (hd : opNd o = true)
    (h : (execOp a.eval o).run P w = .ok (.value (.slice (some ⟨w.heap.size, 0, none⟩) n n)) (w.alloc (.cells cs ty)))
    (k : ∀ w' g, Hs M w0 w' (.blk g cs ty :: L) → XL ρ P ops Q rest (a.put o.dst (.slice (some ⟨g, 0, none⟩) n n)) w') : XL ρ P ops Q (o :: rest) a w :=
  x_run hw hd h (k _ _ (H.alloc cs ty))
/-- An index into a slice. -/
theorem run_ix {t el : TypeId} (ty : TypeId) (g off k n c sz : Nat) (hk : k < n) (h1 : P.underlying t = some (.slice el)) (h2 : (P.info? el).map (·.size) = some sz) :
    (Instr.indexAt t (.slice (some ⟨g, off, none⟩) n c) (.int .i64 (k : Int))).run P w = .ok (.pointer (some ⟨g, off + k * sz, none⟩)) w := by
  have he : P.elem t = el := by unfold Program.elem; rw [h1]
  have hs : ∀ w, (sizeOf el).run P w = .ok sz w := fun w => by
    cases hi : P.info? el with
    | none => rw [hi] at h2; cases h2
    | some i =>
      rw [hi] at h2
      have h3 : i.size = sz := by simpa using h2
      simp [sizeOf, typeInfo, hi, h3]
  rw [run_indexAt_slice w t ⟨g, off, none⟩ n c .i64 (k : Int) (by rw [he]; exact h1), if_pos ⟨by omega, by omega⟩, he, hs]
  simp [Result.andThen, add_none]
theorem x_ix {t : TypeId} (g off k n c : Nat) (el : TypeId) (sz m : Nat) (hk : k < n) (hm : off + k * sz = m) (h2 : (P.info? el).map (·.size) = some sz) (h1 : P.underlying t = some (.slice el)) (hw : Region.wanted o (yielded ops a.tmps) = true) (hd : opNd o = true)
    (h : (execOp a.eval o).run P w = ((Instr.indexAt t (.slice (some ⟨g, off, none⟩) n c) (.int .i64 (k : Int))).bind fun v => .pure (.value v)).run P w)
    (kk : XL ρ P ops Q rest (a.put o.dst (.pointer (some ⟨g, m, none⟩))) w) : XL ρ P ops Q (o :: rest) a w :=
  x_run hw hd (h.trans (by
    show Sem.run P ((Instr.indexAt t (.slice (some ⟨g, off, none⟩) n c) (.int .i64 (k : Int))) >>= fun v => pure (Next.value v)) w = _
    rw [Sem.run_bind, run_ix 0 g off k n c sz hk h1 h2, hm]; rfl)) kk
theorem q_ix {t : TypeId} (g off k n c : Nat) (el : TypeId) (sz m : Nat) (hk : k < n) (hm : off + k * sz = m) (h2 : (P.info? el).map (·.size) = some sz) (h1 : P.underlying t = some (.slice el)) (hw : Region.wanted o (yielded ops a.tmps) = true)
    (h : ∀ w, (execOp a.eval o).run P w = ((Instr.indexAt t (.slice (some ⟨g, off, none⟩) n c) (.int .i64 (k : Int))).bind fun v => .pure (.value v)).run P w)
    (kk : XQ P ops C Qf rest (a.put o.dst (.pointer (some ⟨g, m, none⟩)))) : XQ P ops C Qf (o :: rest) a :=
  q_val _ hw (fun w => (h w).trans (by
    show Sem.run P ((Instr.indexAt t (.slice (some ⟨g, off, none⟩) n c) (.int .i64 (k : Int))) >>= fun v => pure (Next.value v)) w = _
    rw [Sem.run_bind, run_ix 0 g off k n c sz hk h1 h2, hm]; rfl)) kk
end
/-! ### regions whose operations write: quiet operations are taken first, the others as they come -/
def noQ : Exit → Act → World → Prop := fun _ _ _ => False
def Shut (C : World → Prop) : Prop := ∀ w w', C w → Below w.heap.size w w' → C w'
theorem hsShut {M : List Nat} {w0 : World} {L : List Res} : Shut (fun w => Hs M w0 w L) := fun _ _ h hb => h.via hb
section
variable {ρ : Option Nat} {P : Program} {ops : Array Oper} {md : Region.Mode} {Q : Exit → Act → World → Prop}
/-- One operation, with whatever effect. -/
def opS (ρ : Option Nat) (P : Program) (ops : Array Oper) (o : Oper) (a : Act) (w : World) (K : Act → World → Prop) : Prop :=
  if Region.wanted o (yielded ops a.tmps) then o.uponIn (FW ρ) 0 P a K noQ ((execOp a.eval o).run P w) else K (a.put o.dst undef) w
def yUp (P : Program) (w : World) (v : Value) : Result Next → Prop
  | .ok (.value u) w' => u = v ∧ Below w.heap.size w w'
  | .ok (.enter f args) w' => w' = w ∧ Calls P f args w (fun e w'' => e = .returned v ∧ Below w.heap.size w w'')
  | _ => False
/-- One operation of one value, in whatever world of K. -/
def YI (P : Program) (ops : Array Oper) (K : World → Prop) (o : Oper) (v : Value) (a : Act) : Prop :=
  (Region.wanted o (yielded ops a.tmps) = true ∧ ∀ w, K w → yUp P w v ((execOp a.eval o).run P w)) ∨ (Region.wanted o (yielded ops a.tmps) = false ∧ v = undef)
theorem YI.of_same {K K' : World → Prop} {o : Oper} {v : Value} {a a' : Act} (hy : YI P ops K o v a) (hK : ∀ w, K' w → K w) (he : execOp a'.eval o = execOp a.eval o)
    (hw : Region.wanted o (yielded ops a'.tmps) = Region.wanted o (yielded ops a.tmps)) : YI P ops K' o v a' := by
  unfold YI at *
  rw [he, hw]
  rcases hy with ⟨h1, h2⟩ | h
  · exact .inl ⟨h1, fun w hw => h2 w (hK w hw)⟩
  · exact .inr h
theorem opS_put {oi oj : Oper} {v : Value} (hap : oi.apart ops oj = true) (hsi : ∀ cs b, oi.op ≠ .select cs b) (hsj : ∀ cs b, oj.op ≠ .select cs b) {K K' : Act → World → Prop} {a : Act} {w : World}
    (hrel : ∀ b w', execOp b.eval oi = execOp a.eval oi → Region.wanted oi (yielded ops b.tmps) = Region.wanted oi (yielded ops a.tmps) → K' (b.put oi.dst v) w' → K b w')
    (h : opS ρ P ops oj (a.put oi.dst v) w K') : opS ρ P ops oj a w K := by
  obtain ⟨h1, h2, h3⟩ := Oper.apart_spec hap
  have keep : ∀ u w', K' ((a.put oi.dst v).put oj.dst u) w' → K (a.put oj.dst u) w' := fun u w' hk =>
    hrel _ w' (execOp_put oi hsi a oj.dst u h3) (wanted_put oi a oj.dst u h3) (by rw [← Act.put_comm a v u h2]; exact hk)
  unfold opS at *
  rw [wanted_put oj a oi.dst v h1, execOp_put oj hsj a oi.dst v h1] at h
  split
  · rename_i hw
    simp only [hw, if_true] at h
    generalize (execOp a.eval oj).run P w = r at *
    cases r with
    | ok x w' =>
      cases x <;> simp only [Oper.uponIn] at h ⊢
      case value u => exact keep u w' h
      case skip => exact keep undef w' h
      case defer d =>
        refine hrel _ w' ?_ ?_ (by rw [← Act.put_comm _ v undef h2, ← Act.put_defers]; exact h)
        · exact execOp_put oi hsi { a with defers := d :: a.defers } oj.dst undef h3
        · exact wanted_put oi { a with defers := d :: a.defers } oj.dst undef h3
      case enter f args => exact ⟨h.1, CallsIn.mono h.2 fun e w'' he => by cases e with
        | returned u => exact keep u w'' he
        | panicked c => exact he
        | outgrown => exact he⟩
      case row row args => exact ⟨h.1, RowsIn.mono h.2 fun u w'' he => keep u w'' he⟩
      case round l f tmps assign body => exact ⟨h.1, RoundIn.mono h.2 fun e w'' he => by cases e with
        | returned u => exact keep u w'' he
        | panicked c => exact he
        | outgrown => exact he⟩
    | halt x w' => cases x <;> simp only [Oper.uponIn] at h ⊢ <;> exact h
  · rename_i hw
    simp only [hw] at h
    exact keep undef w h
theorem opS_mono {o : Oper} {a : Act} {w : World} {K K' : Act → World → Prop} (hK : ∀ a w, K a w → K' a w) (h : opS ρ P ops o a w K) : opS ρ P ops o a w K' := by
  unfold opS at *
  split
  · rename_i hw
    simp only [hw, if_true] at h
    generalize (execOp a.eval o).run P w = r at *
    cases r with
    | ok x w' =>
      cases x <;> simp only [Oper.uponIn] at h ⊢
      case value u => exact hK _ _ h
      case skip => exact hK _ _ h
      case defer d => exact hK _ _ h
      case enter f args => exact ⟨h.1, CallsIn.mono h.2 fun e w'' he => by cases e with
        | returned u => exact hK _ _ he
        | panicked c => exact he
        | outgrown => exact he⟩
      case row row args => exact ⟨h.1, RowsIn.mono h.2 fun u w'' he => hK _ _ he⟩
      case round l f tmps assign body => exact ⟨h.1, RoundIn.mono h.2 fun e w'' he => by cases e with
        | returned u => exact hK _ _ he
        | panicked c => exact he
        | outgrown => exact he⟩
    | halt x w' => cases x <;> simp only [Oper.uponIn] at h ⊢ <;> exact h
  · rename_i hw
    simp only [hw] at h
    exact hK _ _ h
theorem letsOut_noQ (h : LetsOut noQ) : False := let ⟨_, _, h⟩ := h; h
theorem wpOpIn_of_opS {i : Nat} {o : Oper} {a : Act} {w : World} {K : Act → World → Prop} (ho : ops[i]? = some o) (hd : opNd o = true) (h : opS ρ P ops o a w K) : wpOpIn (FW ρ) 0 P ops Q i K a w := by
  unfold wpOpIn
  simp only [ho]
  unfold opS at h
  split
  · rename_i hw
    simp only [hw, if_true] at h
    refine ⟨fun _ _ => trivial, ?_⟩
    rw [semAt_nd hd]
    generalize (execOp a.eval o).run P w = r at *
    cases r with
    | ok x w' =>
      cases x <;> simp only [Oper.uponIn] at h ⊢
      case value u => exact h
      case skip => exact h
      case defer d => exact h
      case enter f args => exact ⟨h.1, CallsIn.mono h.2 fun e w'' he => by cases e with
        | returned u => exact he
        | panicked c => exact he.elim
        | outgrown => exact (letsOut_noQ he).elim⟩
      case row row args => exact h
      case round l f tmps assign body => exact ⟨h.1, RoundIn.mono h.2 fun e w'' he => by cases e with
        | returned u => exact he
        | panicked c => exact he.elim
        | outgrown => exact (letsOut_noQ he).elim⟩
    | halt x w' => cases x <;> simp only [Oper.uponIn] at h ⊢; exact h.elim
  · rename_i hw
    simp only [hw] at h
    exact ⟨fun _ _ => trivial, h⟩
theorem opS_of_XL {o : Oper} {a : Act} {w : World} {K : Act → World → Prop} (hd : opNd o = true) (h : XL ρ P ops (Exit.then K noQ) [o] a w) : opS ρ P ops o a w K := by
  have h := h.out
  unfold wpListIn at h
  unfold opS
  split
  · rename_i hw
    simp only [hw, if_true] at h
    have h := h.2
    rw [semAt_nd hd] at h
    generalize (execOp a.eval o).run P w = r at *
    cases r with
    | ok x w' =>
      cases x <;> simp only [Oper.uponIn] at h ⊢
      case value u => exact h
      case skip => exact h
      case defer d => exact h
      case enter f args => exact ⟨h.1, CallsIn.mono h.2 fun e w'' he => by cases e with
        | returned u => exact he
        | panicked c => exact he
        | outgrown => exact he⟩
      case row row args => exact h
      case round l f tmps assign body => exact ⟨h.1, RoundIn.mono h.2 fun e w'' he => by cases e with
        | returned u => exact he
        | panicked c => exact he
        | outgrown => exact he⟩
    | halt x w' => cases x <;> simp only [Oper.uponIn] at h ⊢; exact h
  · rename_i hw
    simp only [hw] at h
    exact h.2
/-- Whatever order is picked: each operation that may come up is quiet in K, or has its effect; K holds in all that follows. -/
def TT (ρ : Option Nat) (P : Program) (md : Region.Mode) (ops : Array Oper) (Q : Exit → Act → World → Prop) : Nat → Array Bool → Act → (World → Prop) → (World → Prop) → Prop
  | 0, listed, a, _, C => Region.ready md ops listed = [] ∧ ∀ w, C w → Q .normal a w
  | f + 1, listed, a, K, C => Region.ready md ops listed ≠ [] ∧ ∀ i ∈ Region.ready md ops listed, ∀ o, ops[i]? = some o →
      (∃ v, YI P ops K o v a ∧ TT ρ P md ops Q f (listed.setIfInBounds i true) (a.put o.dst v) K C) ∨
      (∀ w, C w → opS ρ P ops o a w fun a' w' => ∃ K' C' : World → Prop, C' w' ∧ Shut C' ∧ (∀ w, C' w → K' w) ∧ (∀ w, K' w → K w) ∧ TT ρ P md ops Q f (listed.setIfInBounds i true) a' K' C')
theorem anyIn_of_TT (hall : ops.all opNd = true) : ∀ (f : Nat) (listed : Array Bool) (a : Act) (K C : World → Prop) (w : World), Shut C → (∀ w, C w → K w) → C w → TT ρ P md ops Q f listed a K C → wpAnyIn (FW ρ) 0 P md ops Q f listed a w
  | 0, _, _, _, _, w, _, _, hw, h => ⟨h.1, h.2 w hw⟩
  | f + 1, listed, a, K, C, w, hs, hK, hw, h => by
    refine ⟨fun h0 => absurd h0 h.1, fun i hi => ?_⟩
    obtain ⟨_, o, ho, _⟩ := mem_ready.1 hi
    rcases h.2 i hi o ho with ⟨v, hy, hk⟩ | hk
    · have go : ∀ w', C w' → wpAnyIn (FW ρ) 0 P md ops Q f (listed.setIfInBounds i true) (a.put o.dst v) w' := fun w' hc => anyIn_of_TT hall f _ _ K C w' hs hK hc hk
      refine wpOpIn_of_opS ho (all_nd hall ho) ?_
      unfold opS
      rcases hy with ⟨hw1, hy⟩ | ⟨hw1, rfl⟩
      · rw [if_pos hw1]
        have h3 := hy w (hK w hw)
        generalize (execOp a.eval o).run P w = r at *
        cases r with
        | ok x w' =>
          cases x <;> simp only [yUp] at h3 <;> simp only [Oper.uponIn]
          case value u => obtain ⟨e1, e2⟩ := h3; rw [e1]; exact go _ (hs w w' hw e2)
          case enter f' args =>
            obtain ⟨e1, hc⟩ := h3
            rw [e1]
            exact ⟨fun h => (by cases h), callsFW.2 (hc.mono fun e w'' ⟨he, hw''⟩ => by subst he; exact go _ (hs w w'' hw hw''))⟩
        | halt x w' => simp only [yUp] at h3
      · rw [if_neg (by rw [hw1]; exact Bool.false_ne_true)]
        exact go w hw
    · exact wpOpIn_of_opS ho (all_nd hall ho) (opS_mono (fun a' w' ⟨K', C', h1, h2, h3, _, h5⟩ => anyIn_of_TT hall f _ a' K' C' w' h2 h3 h1 h5) (hk w hw))
theorem TT_quiet {i : Nat} {oi : Oper} {v : Value} (hi : ops[i]? = some oi) (hsel : ∀ (j : Nat) (o : Oper) cs b, ops[j]? = some o → o.op ≠ .select cs b) : ∀ (f : Nat) (listed : Array Bool) (a : Act) (K C : World → Prop),
    (∀ j oj, ops[j]? = some oj → j ≠ i → listed.getD j true = false → (∀ e ∈ oj.after, Region.binds md e = true → e.on ≠ i) → oi.apart ops oj = true) →
    i ∈ Region.ready md ops listed → YI P ops K oi v a → TT ρ P md ops Q f (listed.setIfInBounds i true) (a.put oi.dst v) K C → TT ρ P md ops Q (f + 1) listed a K C
  | 0, listed, a, K, C, _, hr, hy, H => by
    refine ⟨fun h => (by rw [h] at hr; cases hr), fun j hj oj hoj => ?_⟩
    by_cases hji : j = i
    · subst hji
      obtain rfl : oj = oi := Option.some.inj (hoj.symm.trans hi)
      exact .inl ⟨v, hy, H⟩
    · have := ready_mono hj hji
      rw [H.1] at this
      cases this
  | f + 1, listed, a, K, C, hfree, hr, hy, H => by
    refine ⟨fun h => (by rw [h] at hr; cases hr), fun j hj oj hoj => ?_⟩
    by_cases hji : j = i
    · subst hji
      obtain rfl : oj = oi := Option.some.inj (hoj.symm.trans hi)
      exact .inl ⟨v, hy, H⟩
    · obtain ⟨hjun, oj', hoj', hall⟩ := mem_ready.1 hj
      obtain rfl : oj = oj' := Option.some.inj (hoj.symm.trans hoj')
      have hnot : ∀ e ∈ oj.after, Region.binds md e = true → e.on ≠ i := fun e he hb heq => by
        have h1 := hall e he hb
        rw [heq, getD_both (mem_ready.1 hr).1] at h1
        cases h1
      have hap := hfree j oj hoj hji hjun hnot
      obtain ⟨h1, h2, h3⟩ := Oper.apart_spec hap
      have hsi := fun cs b => hsel i oi cs b hi
      have hsj := fun cs b => hsel j oj cs b hoj
      have hfree' : ∀ k ok, ops[k]? = some ok → k ≠ i → (listed.setIfInBounds j true).getD k true = false → (∀ e ∈ ok.after, Region.binds md e = true → e.on ≠ i) → oi.apart ops ok = true := fun k ok hk hki hun hno => by
        refine hfree k ok hk hki ?_ hno
        by_cases hjk : j = k
        · subst hjk; exact hjun
        · rw [getD_set_ne true hjk] at hun; exact hun
      rcases H.2 j (ready_mono hj hji) oj hoj with ⟨u, hu, hk⟩ | hk
      · refine .inl ⟨u, hu.of_same (fun _ h => h) (execOp_put oj hsj a oi.dst v h1).symm (wanted_put oj a oi.dst v h1).symm, ?_⟩
        refine TT_quiet hi hsel f _ _ K C hfree' (ready_mono hr (Ne.symm hji)) (hy.of_same (fun _ h => h) (execOp_put oi hsi a oj.dst u h3) (wanted_put oi a oj.dst u h3)) ?_
        rw [Array.setIfInBounds_comm _ _ hji, ← Act.put_comm a v u h2]
        exact hk
      · refine .inr fun w hw => opS_put hap hsi hsj (fun b w' he hwa ⟨K', C', c1, c2, c3, c4, c5⟩ => ?_) (hk w hw)
        refine ⟨K', C', c1, c2, c3, c4, ?_⟩
        refine TT_quiet hi hsel f _ b K' C' hfree' (ready_mono hr (Ne.symm hji)) (hy.of_same c4 he hwa) ?_
        rw [Array.setIfInBounds_comm _ _ hji]
        exact c5
structure XS (ρ : Option Nat) (P : Program) (ops : Array Oper) (Q : Exit → Act → World → Prop) (f : Nat) (listed : Array Bool) (a : Act) (K C : World → Prop) : Prop where
  out : TT ρ P .any ops Q f listed a K C
theorem x_region_s {id : Nat} {a : Act} {w : World} {l : List Oper} (n : Nat) (K C : World → Prop) (hm : P.follows .mixedOrders = true) (hall : l.toArray.all opNd = true) (hn : l.toArray.size = n) (hs : Shut C) (hK : ∀ w, C w → K w) (hC : C w.drew)
    (h : XS ρ P l.toArray Q n (Array.replicate n false) a K C) : XC ρ P (Code.region id l.toArray true) Q a w := by
  subst hn
  exact ⟨wpIn_region_any hm (anyIn_of_TT hall _ _ _ K C _ hs hK hC h.out)⟩
variable {a : Act} {w w0 : World} {M : List Nat} {L Lk : List Res} {K C : World → Prop} {listed : Array Bool} {f : Nat}
theorem s_done (hr : Region.ready .any ops listed = []) (h : ∀ w, C w → Q .normal a w) : XS ρ P ops Q 0 listed a K C := ⟨⟨hr, h⟩⟩
/-- Operation i, quiet in K, is taken first. -/
theorem s_quiet (i : Nat) {o : Oper} {v : Value} (hi : ops[i]? = some o) (hB : (Region.noSelect ops && Region.free .any ops listed i && (Region.ready .any ops listed).contains i) = true) (hy : YI P ops K o v a)
    (k : XS ρ P ops Q f (listed.setIfInBounds i true) (a.put o.dst v) K C) : XS ρ P ops Q (f + 1) listed a K C := by
  simp only [Bool.and_eq_true] at hB
  exact ⟨TT_quiet hi (Region.noSelect_spec hB.1.1) f listed a K C (Region.free_spec hi hB.1.2) (by simpa using hB.2) hy k.out⟩
/-- The one operation that may come up. -/
theorem s_one (i : Nat) {o : Oper} (hi : ops[i]? = some o) (hr : Region.ready .any ops listed = [i]) (hd : opNd o = true)
    (h : ∀ w, C w → XL ρ P ops (Exit.then (fun a' w' => ∃ K' C' : World → Prop, C' w' ∧ Shut C' ∧ (∀ w, C' w → K' w) ∧ (∀ w, K' w → K w) ∧ XS ρ P ops Q f (listed.setIfInBounds i true) a' K' C') noQ) [o] a w) : XS ρ P ops Q (f + 1) listed a K C := by
  refine ⟨⟨by rw [hr]; simp, fun j hj oj hoj => ?_⟩⟩
  obtain rfl : j = i := by rw [hr] at hj; simpa using hj
  obtain rfl : oj = o := Option.some.inj (hoj.symm.trans hi)
  exact .inr fun w hw => opS_mono (fun a' w' ⟨K', C', h1, h2, h3, h4, h5⟩ => ⟨K', C', h1, h2, h3, h4, h5.out⟩) (opS_of_XL hd (h w hw))
theorem y_skip {o : Oper} (hw : Region.wanted o (yielded ops a.tmps) = false) : YI P ops K o undef a := .inr ⟨hw, rfl⟩
theorem y_in {o : Oper} (v : Value) (hw : Region.wanted o (yielded ops a.tmps) = true) (h : ∀ w, K w → (execOp a.eval o).run P w = .ok (.value v) w) : YI P ops K o v a :=
  .inl ⟨hw, fun w hk => by rw [h w hk]; exact ⟨rfl, Below.refl _ _⟩⟩
theorem y_val {o : Oper} (v : Value) (hw : Region.wanted o (yielded ops a.tmps) = true) (h : ∀ w, (execOp a.eval o).run P w = .ok (.value v) w) : YI P ops K o v a := y_in v hw fun w _ => h w
theorem y_eq {o : Oper} {v : Value} (v' : Value) (e : v = v') (hw : Region.wanted o (yielded ops a.tmps) = true) (h : ∀ w, (execOp a.eval o).run P w = .ok (.value v) w) : YI P ops K o v' a := y_in v' hw fun w _ => by rw [h w, e]
theorem y_ar {o : Oper} (z : Int) (hz : -9223372036854775808 ≤ z ∧ z ≤ 9223372036854775807) (hw : Region.wanted o (yielded ops a.tmps) = true) (h : ∀ w, (execOp a.eval o).run P w = .ok (.value (.int .i64 (IntKind.i64.wrap z))) w) : YI P ops K o (.int .i64 z) a :=
  y_in _ hw fun w _ => by rw [h w, i64ok hz]
theorem y_callK {o : Oper} {f : FuncId} {args : Array Value} (v : Value) (hw : Region.wanted o (yielded ops a.tmps) = true) (h : ∀ w, (execOp a.eval o).run P w = .ok (.enter f args) w)
    (hc : ∀ w, K w → Calls P f args w fun e w' => e = .returned v ∧ Below w.heap.size w w') : YI P ops K o v a := .inl ⟨hw, fun w hk => by rw [h w]; exact ⟨rfl, hc w hk⟩⟩
end
/-! ### structs that are compared -/
def partV (P : Program) (t : TypeId) (cs : Array Value) (off : Nat) : Option Value :=
  match P.info? t, P.underlying t with
  | some i, some (.struct _) => some (.agg (cs.extract off (off + i.size)))
  | some i, some (.array _ _) => some (.agg (cs.extract off (off + i.size)))
  | some _, some _ => cs[off]?
  | _, _ => none
def eqFs (P : Program) (eq : TypeId → Value → Value → Option Bool) (xs ys : Array Value) : List Field → Option Bool
  | [] => some true
  | f :: fs =>
    if f.name ≠ "_" then
      match partV P f.type xs f.offset, partV P f.type ys f.offset with
      | some a, some b => match eq f.type a b, eqFs P eq xs ys fs with
        | some r, some r2 => some (r && r2)
        | _, _ => none
      | _, _ => none
    else eqFs P eq xs ys fs
theorem run_partV {P : Program} {t : TypeId} {cs : Array Value} {off : Nat} {v : Value} (h : partV P t cs off = some v) (w : World) : (part t cs off).run P w = .ok v w := by
  unfold partV at h
  cases hi : P.info? t with
  | none => rw [hi] at h; cases h
  | some i =>
    rw [hi] at h
    cases hu : P.underlying t with
    | none => rw [hu] at h; cases h
    | some d =>
      rw [hu] at h
      have hr := run_underlying hu w
      cases d <;> (simp only at h) <;> simp only [part, isAgg, Sem.run_bind, hr, Result.andThen_ok, Sem.run_pure, Bool.false_eq_true, if_false, if_true, sizeOf, typeInfo, run_program, hi] <;> first | (cases h; rfl) | (rw [h]; rfl)
/-! ### rows -/
section
variable {ρ : Option Nat} {P : Program} {ops : Array Oper} {Q : Exit → Act → World → Prop} {a : Act} {w w0 w' : World} {o : Oper} {rest : List Oper} {M : List Nat} {L : List Res}
theorem mapAt {α : Type} {f : α → Value} {l : List α} (d : α) {k : Nat} (hk : k < l.length) : (l.map f)[k]? = some (f (l.getD k d)) := by
  rw [List.getElem?_map, List.getElem?_eq_getElem hk, List.getD_eq_getElem?_getD, List.getElem?_eq_getElem hk]; rfl
theorem flatAt {α : Type} {f : α → List Value} {sz : Nat} (hf : ∀ x, (f x).length = sz) (d : α) : ∀ (l : List α) {k : Nat}, k < l.length → ∀ (j : Nat) v, (f (l.getD k d))[j]? = some v → (l.flatMap f)[k * sz + j]? = some v
  | [], k, hk, _, _, _ => by simp at hk
  | x :: l, 0, _, j, v, h => by
    have hj : j < (f x).length := (List.getElem?_eq_some_iff.1 h).1
    rw [List.flatMap_cons, Nat.zero_mul, Nat.zero_add, List.getElem?_append_left hj]; exact h
  | x :: l, k + 1, hk, j, v, h => by
    rw [List.flatMap_cons, List.getElem?_append_right (by rw [hf]; have : (k + 1) * sz = k * sz + sz := Nat.succ_mul k sz; omega), hf, show (k + 1) * sz + j - sz = k * sz + j by have : (k + 1) * sz = k * sz + sz := Nat.succ_mul k sz; omega]
    exact flatAt hf d l (by simpa using hk) j v h
theorem Hs.nilRow (h : Hs M w0 w L) (ty : TypeId) (sz : Nat) : Hs M w0 w (.row (.slice none 0 0) ty sz 0 [] :: L) :=
  h.add (World.ownsRow_nil w 0 ty sz) (fun g hg => by simp [Res.fp, Value.ownBlock] at hg) rfl rfl rfl (Nat.le_refl _) (fun _ _ => rfl)
theorem Hs.rowCells (h : Hs M w0 w L) (i : Nat) {g n c : Nat} {ty : TypeId} {sz : Nat} {xs : List Value} (hi : L[i]? = some (.row (.slice (some ⟨g, 0, none⟩) n c) ty sz n xs)) (off : Nat) {vs : List Value} (hv : ∀ (j : Nat) v, vs[j]? = some v → xs[off + j]? = some v) :
    ∀ (j : Nat) v, vs[j]? = some v → w.cell? ⟨g, off + j, none⟩ = some v := fun j v hj => h.rowCell i hi (off + j) (hv j v hj)
/-- A row grows. -/
theorem x_append (H : Hs M w0 w L) (i : Nat) (v : Value) (t ty : TypeId) (sz bytes n : Nat) (z : Value) (xs : List Value) (ad : Addr) (m c : Nat) (news : List Value) (hi : L[i]? = some (.row v ty sz n xs)) (hu : P.underlying t = some (.slice ty))
    (hinf : (P.info? ty).map (fun i => (i.zero, i.size, i.bytes)) = some (some z, sz, bytes)) (hz : z.cells.size = sz) (hsz : 0 < sz) (hm : 0 < m) (hl : news.length = m * sz) (hn : ∀ (j : Nat) u, news[j]? = some u → w.cell? (ad.add j) = some u)
    (h1 : ∀ u ∈ news, u.oneCell' = true) (b1 : n + m ≤ maxLen) (b2 : (n + m) * bytes ≤ 140737488355328) (hw : Region.wanted o (yielded ops a.tmps) = true) (hd : opNd o = true)
    (h : (execOp a.eval o).run P w = ((Builtin.append_ #[t, t] o.type #[v, .slice (some ad) m c]) >>= fun v => pure (Next.value v)).run P w)
    (k : ∀ w' g cap, n + m ≤ cap → Hs M w0 w' (L.set i (.row (.slice (some ⟨g, 0, none⟩) (n + m) cap) ty sz (n + m) (xs ++ news))) → XL ρ P ops Q rest (a.put o.dst (.slice (some ⟨g, 0, none⟩) (n + m) cap)) w') : XL ρ P ops Q (o :: rest) a w := by
  obtain ⟨inf, hi1, hi2, hi3, hi4⟩ := info_parts hinf
  have hown : w.ownsRow 0 ty sz v n xs := H.ok i _ hi
  have key : ∃ v' w', (Builtin.append_ #[t, t] o.type #[v, .slice (some ad) m c]).run P w = .ok v' w' ∧ w'.ownsRow 0 ty sz v' (n + m) (xs ++ news) ∧ (∀ g ∈ v'.ownBlock.toList, g ∈ v.ownBlock.toList ∨ w.heap.size ≤ g) ∧ w.grownBy w' v.ownBlock := by
    rcases hown.2 with ⟨rfl, rfl⟩ | ⟨g, cap, cur, rfl, hb, hg, hnc, hcm, hcs, htake⟩
    · have hx0 : xs = [] := by have := hown.1; simpa using this
      subst hx0
      obtain ⟨v', w', r1, r2, r3, _⟩ := run_append_own (P := P) w w.heap.size t o.type ty inf z sz bytes hu hi1 hi2 hi3 hi4 hz hsz (.slice none 0 0) 0 [] (World.ownsRow_nil w _ ty sz) ad m c news hl hn h1 b1 b2 (Nat.le_refl _)
      refine ⟨v', w', r1, ⟨r2.1, ?_⟩, fun g hg => .inr (World.ownsRow.lt r2 g (by simpa using hg)).1, r3⟩
      rcases r2.2 with h0 | ⟨g, cap, cur, hv, _, r⟩
      · exact .inl h0
      · exact .inr ⟨g, cap, cur, hv, Nat.zero_le _, r⟩
    · by_cases hroom : n + m ≤ cap
      · obtain ⟨w', r1, r2, r3⟩ := run_append_fits (P := P) w 0 t o.type ty inf sz hu hi1 hi3 g n cap xs hown ad m c news hl hn h1 hroom
        exact ⟨_, w', r1, r2, fun g' hg' => .inl hg', r3⟩
      · obtain ⟨v', w', r1, r2, r3⟩ := run_append_arg_grows (P := P) w t o.type ty inf z sz bytes hu hi1 hi2 hi3 hi4 hz hsz ⟨g, 0, none⟩ n cap xs hown.1 (World.ownsRow.cells hown rfl) ad m c news hl hn (by omega) b1 b2
        refine ⟨v', w', r1, ⟨r2.1, ?_⟩, fun g' hg' => .inr (World.ownsRow.lt r2 g' (by simpa using hg')).1, ⟨r3.os, r3.tape, r3.output, r3.size, fun k hk _ => r3.block k hk (by simp)⟩⟩
        rcases r2.2 with h0 | ⟨g', cap', cur', hv, _, r⟩
        · exact .inl h0
        · exact .inr ⟨g', cap', cur', hv, Nat.zero_le _, r⟩
  obtain ⟨v', w', r1, r2, r3, r4⟩ := key
  obtain ⟨g, cap, rfl, hc⟩ := rowSome r2 (by omega)
  refine x_run hw hd (v := .slice (some ⟨g, 0, none⟩) (n + m) cap) (w' := w') ?_ (k w' g cap hc ?_)
  · rw [h, Sem.run_bind, r1]; rfl
  · exact H.upd i hi (r' := .row _ ty sz (n + m) (xs ++ news)) r2 r3 r4.os r4.tape r4.output r4.size (fun k hk hk' => r4.block k hk (fun e => hk' (by simp [Res.fp, ← e])))
end
/-! ### what is only read; callees that hold what the caller holds -/
def fps (A : List Res) : List Nat := A.flatMap Res.fp
def Ro (w : World) (K : List Res) : Prop := ∀ (i : Nat) r, K[i]? = some r → r.ok w
section
variable {M : List Nat} {w0 w w' : World} {L R A A' K : List Res} {P : Program}
theorem mem_fps {A : List Res} {g : Nat} (h : g ∈ fps A) : ∃ (i : Nat) (r : Res), A[i]? = some r ∧ g ∈ r.fp := by
  unfold fps at h
  obtain ⟨r, hr, hg⟩ := List.mem_flatMap.1 h
  obtain ⟨i, hi, e⟩ := List.getElem_of_mem hr
  exact ⟨i, r, by rw [List.getElem?_eq_getElem hi, e], hg⟩
theorem fps_mem {A : List Res} (i : Nat) (r : Res) (hi : A[i]? = some r) : ∀ g ∈ r.fp, g ∈ fps A := fun g hg =>
  List.mem_flatMap.2 ⟨r, List.mem_of_getElem? hi, hg⟩
theorem Hs.front (h : Hs M w0 w (A ++ R)) : Hs M w0 w A :=
  ⟨fun i r hi => h.ok i r (by rw [List.getElem?_append_left (List.getElem?_eq_some_iff.1 hi).1]; exact hi),
   fun i j r s hne hi hj => h.ap i j r s hne (by rw [List.getElem?_append_left (List.getElem?_eq_some_iff.1 hi).1]; exact hi) (by rw [List.getElem?_append_left (List.getElem?_eq_some_iff.1 hj).1]; exact hj),
   fun i r hi => h.my i r (by rw [List.getElem?_append_left (List.getElem?_eq_some_iff.1 hi).1]; exact hi), h.fr⟩
theorem Hs.more (H : Hs M w0 w L) (h' : Hs [] w w' A') : Hs M w0 w' (A' ++ L) := Hs.call (A := []) (R := L) H h' (fun g hg => by simp at hg)
theorem Hs.roOf (H : Hs M w0 w L) (ix : List Nat) (A : List Res) (hp : ix.map (fun i => L[i]?) = A.map some) : Ro w A := fun i r hi => by
  have h1 : (A.map some)[i]? = some (some r) := by rw [List.getElem?_map, hi]; rfl
  rw [← hp, List.getElem?_map] at h1
  cases hj : ix[i]? with
  | none => rw [hj] at h1; cases h1
  | some j => rw [hj] at h1; exact H.ok j r (by simpa using h1)
theorem Ro.keep (h : Ro w K) (hb : Below w.heap.size w w') : Ro w' K := fun i r hi => Res.keep (h i r hi) fun g hg => hb.block g (Res.lt (h i r hi) g hg)
theorem Hs.ro (H : Hs [] w0 w L) (R0 : Ro w0 K) : Ro w K := R0.keep H.below
theorem Ro.cell (h : Ro w K) (i : Nat) {g : Nat} {cs : Array Value} {ty : TypeId} (hi : K[i]? = some (.blk g cs ty)) (off : Nat) {v : Value} (hv : cs[off]? = some v) : w.cell? ⟨g, off, none⟩ = some v := cellOf (h i _ hi) hv
theorem Ro.rowCell (h : Ro w K) (i : Nat) {g n c : Nat} {ty : TypeId} {sz : Nat} {xs : List Value} (hi : K[i]? = some (.row (.slice (some ⟨g, 0, none⟩) n c) ty sz n xs)) (j : Nat) {v : Value} (hj : xs[j]? = some v) : w.cell? ⟨g, j, none⟩ = some v := by
  have := World.ownsRow.cells (h i _ hi : w.ownsRow 0 ty sz _ n xs) (g := g) rfl j v hj
  rwa [show ((⟨g, 0, none⟩ : Addr).add j) = ⟨g, j, none⟩ by unfold Addr.add; split <;> simp_all] at this
variable {ops : Array Oper} {Qf : Act → Prop} {a : Act} {o : Oper} {rest : List Oper}
theorem q_callR {f : FuncId} {args : Array Value} (v : Value) (hw : Region.wanted o (yielded ops a.tmps) = true) (h : ∀ w, (execOp a.eval o).run P w = .ok (.enter f args) w)
    (hc : ∀ w, Hs M w0 w L → Calls P f args w fun e w' => e = .returned v ∧ Below w.heap.size w w') (k : XQ P ops (fun w => Hs M w0 w L) Qf rest (a.put o.dst v)) : XQ P ops (fun w => Hs M w0 w L) Qf (o :: rest) a :=
  q_call v hw h (fun w H => (hc w H).mono fun e w' ⟨he, hb⟩ => ⟨he, H.via hb⟩) k
end
end Go.Proofs.YtjbaabffilejeaaDoor
