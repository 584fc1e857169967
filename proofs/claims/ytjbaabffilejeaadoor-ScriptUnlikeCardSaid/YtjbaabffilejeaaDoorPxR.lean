/- Ranges over functions: rules over what a walk holds. -/
import Derived.RangeFuncNested
import Derived.RangeFuncLeaves
import Derived.RangeFuncBound
import Derived.Shelf.Abstract
import Derived.Test.YtjbaabffilejeaaDoorPx
namespace Go.Proofs.YtjbaabffilejeaaDoor
open Go Go.RowKit
set_option linter.unusedVariables false
theorem wpIn_any {ρ : Option Nat} {n m : Nat} {P : Program} {c : Code} {Q : Exit → Act → World → Prop} {a : Act} {w : World} (h : c.wpIn (FW ρ) n P Q a w) : c.wpIn (FW ρ) m P Q a w :=
  fun b k cs hro hf _ => h b k cs hro hf (fun d h => by cases h)
def Res.cellsB : Res → Bool
  | .obj _ _ => false
  | _ => true
theorem Res.isCells {r : Res} {w : World} (hc : r.cellsB = true) (h : r.ok w) : ∀ g ∈ r.fp, ∃ o : Obj, w.heap[g]? = some o ∧ o.isCells = true := by
  cases r with
  | obj g o => cases hc
  | blk g cs ty => intro g' hg; simp only [Res.fp, List.mem_singleton] at hg; subst hg; exact ⟨_, h, rfl⟩
  | row v ty sz n xs =>
    intro g' hg
    obtain ⟨_, h2⟩ := h
    rcases h2 with ⟨h2, -⟩ | ⟨g, cap, cur, hv, hg2, hh, r⟩
    · subst h2; simp [Res.fp, Value.ownBlock] at hg
    · subst hv
      simp [Res.fp, Value.ownBlock] at hg
      subst hg
      exact ⟨_, hh, rfl⟩
section
variable {M N : List Nat} {w0 w w' : World} {L A A' R : List Res}
theorem Hs.grown (h : Hs M w0 w L) (hc : ∀ r ∈ L, r.cellsB = true) {row : Option Nat} (hg : w.grownBy w' row) (hr : ∀ r, row = some r → w0.heap.size ≤ r ∧ ∃ o : Obj, w.heap[r]? = some o ∧ o.isCells = false) : Hs M w0 w' L := by
  have kept : ∀ (i : Nat) r, L[i]? = some r → ∀ g ∈ r.fp, w'.heap[g]? = w.heap[g]? := by
    intro i r hi g hg'
    refine hg.block g (h.lt i hi g hg') (fun e => ?_)
    obtain ⟨_, o, ho, hoc⟩ := hr g e.symm
    obtain ⟨o', ho', hc'⟩ := Res.isCells (hc r (List.mem_of_getElem? hi)) (h.ok i r hi) g hg'
    rw [ho] at ho'; cases ho'; rw [hoc] at hc'; cases hc'
  exact ⟨fun i r hi => Res.keep (h.ok i r hi) (kept i r hi), h.ap, h.my, ⟨hg.os.trans h.fr.os, hg.tape.trans h.fr.tape, hg.output.trans h.fr.output, Nat.le_trans h.fr.size hg.size,
    fun k hk hkM => (hg.block k (Nat.lt_of_lt_of_le hk h.size) (fun e => by obtain ⟨h1, _⟩ := hr k e.symm; omega)).trans (h.fr.block k hk hkM)⟩⟩
theorem Fr.keeps (h : Fr N w w') (hN : ∀ g ∈ N, ∃ o : Obj, w.heap[g]? = some o ∧ o.isCells = true) (B : Nat) : KeepsFrom B w w' :=
  ⟨h.size, fun k o _ hk ho => (h.block k (heap_lt hk) (fun hm => by obtain ⟨o', h1, h2⟩ := hN k hm; rw [hk] at h1; cases h1; rw [ho] at h2; cases h2)).trans hk⟩
theorem Hs.back (h : Hs M w0 w (A ++ R)) : Hs M w0 w R := by
  have right : ∀ {i : Nat} {r : Res}, R[i]? = some r → (A ++ R)[A.length + i]? = some r := fun {i r} hi => by
    rw [List.getElem?_append_right (by omega)]; simpa using hi
  exact ⟨fun i r hi => h.ok _ r (right hi), fun i j r s hne hi hj => h.ap _ _ r s (by omega) (right hi) (right hj), fun i r hi => h.my _ r (right hi), h.fr⟩
theorem Hs.whole (h : Hs M w0 w A) (h' : Hs N w w' A') (hN : ∀ g ∈ N, g ∈ fps A) : Hs M w0 w' A' := by
  have := Hs.call (A := A) (R := []) (by simpa using h) h' (fun g hg => mem_fps (hN g hg))
  simpa using this
theorem fps_append (A B : List Res) : fps (A ++ B) = fps A ++ fps B := List.flatMap_append
theorem Hs.fpCells (h : Hs M w0 w L) (hc : ∀ r ∈ L, r.cellsB = true) : ∀ g ∈ fps L, ∃ o : Obj, w.heap[g]? = some o ∧ o.isCells = true := fun g hg => by
  obtain ⟨i, r, hi, hgr⟩ := mem_fps hg
  exact Res.isCells (hc r (List.mem_of_getElem? hi)) (h.ok i r hi) g hgr
theorem Hs.self (h : Hs M w0 w L) : Hs (fps L) w w L := h.enter fps_mem
/-- Some blocks more, apart from the others. -/
theorem Hs.plus (h : Hs M w0 w L) (h1 : A.length ≤ 1) (hok : ∀ r ∈ A, r.ok w) (hsep : ∀ g ∈ fps A, g ∉ fps L ∧ w0.heap.size ≤ g) : Hs M w0 w (A ++ L) := by
  match A, h1 with
  | [], _ => simpa using h
  | [r], _ =>
    have hr : ∀ g ∈ r.fp, g ∉ fps L ∧ w0.heap.size ≤ g := fun g hg => hsep g (by simpa [fps] using hg)
    refine ⟨fun i s hi => ?_, fun i j s t hne hi hj g hg => ?_, fun i s hi g hg => ?_, h.fr⟩
    · cases i with
      | zero => simp at hi; subst hi; exact hok _ (by simp)
      | succ i => exact h.ok i s (by simpa using hi)
    · cases i with
      | zero =>
        cases j with
        | zero => exact absurd rfl hne
        | succ j => simp at hi; subst hi; exact fun ht => (hr g hg).1 (fps_mem j t (by simpa using hj) g ht)
      | succ i =>
        cases j with
        | zero => simp at hj; subst hj; exact fun ht => (hr g ht).1 (fps_mem i s (by simpa using hi) g hg)
        | succ j => exact h.ap i j s t (by omega) (by simpa using hi) (by simpa using hj) g hg
    · cases i with
      | zero => simp at hi; subst hi; exact .inr (hr g hg).2
      | succ i => exact h.my i s (by simpa using hi) g hg
theorem Hs.plusObj {D : Nat} {o : Obj} (h : Hs M w0 w L) (hc : ∀ r ∈ L, r.cellsB = true) (hD : w0.heap.size ≤ D) (hk : w.heap[D]? = some o) (ho : o.isCells = false) : Hs M w0 w (.obj D o :: L) := by
  refine Hs.plus (A := [.obj D o]) h (Nat.le_refl _) (fun r hr => by simp at hr; subst hr; exact hk) (fun g hg => ?_)
  simp [fps, Res.fp] at hg
  subst hg
  refine ⟨fun hm => ?_, hD⟩
  obtain ⟨o', h1, h2⟩ := h.fpCells hc g hm
  rw [hk] at h1; cases h1; rw [ho] at h2; cases h2
end
/-- What an iterator wants kept of a round. -/
def KpOf (K : List Res) (A B : World) : Prop := Ro A K → Ro B K
/-- How a round may be left. -/
def roundQ {α G : Type} (N : List Nat) (I : List α → G → Prop) (LI : List α → G → List Res) (J : Code → List α → G → Prop) (pre : List α) (W : World) : Exit → Act → World → Prop
  | .normal, _, W' => ∃ g, I pre g ∧ Hs N W W' (LI pre g)
  | .ret, _, W' => ∃ g, J .ret pre g ∧ Hs N W W' (LI pre g)
  | .exit id, _, W' => ∃ g, J (.exit id) pre g ∧ Hs N W W' (LI pre g)
  | _, _, _ => False
theorem x_range {α G : Type} {P : Program} {g : Operand} {ps : Array Tmp} {assign body : Code} {Q : Exit → Act → World → Prop} {a : Act} {w w0 : World} {M : List Nat}
    (xs : List α) (encs : α → Array Value) (K : List Res) (FP : List Nat) (I : List α → G → Prop) (LI : List α → G → List Res) (J : Code → List α → G → Prop) (AxL : α → Nat → List Res) (fr : α → Nat → Act) (g0 : G)
    {gf : Nat} {lb : Array Value} (hg : a.eval g = .func (.func gf) #[] lb) (eg : ∀ args w, (callFunc gf args).run P w = .ok (.enter gf args) w)
    (hseq : SeqStopsK (FW none) 0 P gf lb encs (KpOf K) (fun ys => ys = xs) (fun pre => pre <+: xs) xs.length w)
    (hps : ∀ x, (encs x).size = ps.size) (hKc : ∀ r ∈ K, r.cellsB = true) (hcell : ∀ pre g r, r ∈ LI pre g → r.cellsB = true) (hfp : ∀ pre g, fps (LI pre g) = FP) (hK : ∀ pre g r, r ∈ K → r ∈ LI pre g)
    (hA1 : ∀ x b, (AxL x b).length ≤ 1) (hAc : ∀ x b r, r ∈ AxL x b → r.cellsB = true)
    (h0 : Hs M w0 w (LI [] g0)) (i0 : I [] g0)
    (hassign : ∀ l pre x g W, I pre g → Hs FP W W (LI pre g) → XC (some l) P assign (Exit.then (fun a' W' => ∃ b, a' = fr x b ∧ Hs FP W W' (AxL x b ++ LI pre g)) (fun _ _ _ => False)) { tmps := (ps.zip (encs x)).foldl (fun t (p, v) => t.setIfInBounds p v) a.tmps, defers := [] } W)
    (hbody : ∀ l pre x g b W, I pre g → pre.length < xs.length → Hs (fps (AxL x b) ++ FP) W W (AxL x b ++ LI pre g) → XC (some l) P body (roundQ (fps (AxL x b) ++ FP) I LI J (pre ++ [x]) W) (fr x b) W)
    (hdone : ∀ D g W, I xs g → Hs M w0 W (.obj D (.deferred (some [])) :: LI xs g) → Q .normal { a with defers := { target := .collected D, args := #[] } :: a.defers } W)
    (hstop : ∀ D c pre g W, pre <+: xs → J c pre g → Hs M w0 W (.obj D (.deferred (some [])) :: LI pre g) → XC none P c Q { a with defers := { target := .collected D, args := #[] } :: a.defers } W) :
    XC none P (Code.rangeFunc g ps assign body) Q a w := by
  have hKok : ∀ {N : List Nat} {w1 w2 : World} {T : List Res} {pre : List α} {g : G}, Hs N w1 w2 (T ++ LI pre g) → Ro w2 K := fun {N w1 w2 T pre g} h i r hi => by
    obtain ⟨j, hj, e⟩ := List.getElem_of_mem (hK pre g r (List.mem_of_getElem? hi))
    exact h.back.ok j r (by rw [← e]; exact List.getElem?_eq_getElem hj)
  refine ⟨wpIn_any (n := 1) (wpIn_rangeFunc_ownH (F := FW none) (n := 1) (w0 := w) rfl (Nat.le_refl 1) hg trivial eg hseq ?_ ?_ (Below.refl _ _) hps
    (fun pre W => ∃ g, I pre g ∧ Hs M w0 W (LI pre g)) (fun c pre W => ∃ g, J c pre g ∧ Hs M w0 W (LI pre g)) ?_ ?_ ⟨g0, i0, h0⟩
    (fun x a' W => ∃ b, a' = fr x b ∧ (∀ h ∈ fps (AxL x b), h ∉ FP ∧ w0.heap.size ≤ h) ∧ ∀ r ∈ AxL x b, r.ok W) ?_ ?_ ?_ ?_ ?_)⟩
  · intro A B C h1 h2 h; exact h2 (h1 h)
  · intro W l o o' hl ho hc _ hro i r hi
    refine Res.keep (hro i r hi) fun g' hg' => (grownBy_putObj' W l o').block g' (Res.lt (hro i r hi) g' hg') (fun e => ?_)
    cases e
    obtain ⟨o2, h1, h2⟩ := Res.isCells (hKc r (List.mem_of_getElem? hi)) (hro i r hi) _ hg'
    rw [ho] at h1; cases h1; rw [hc] at h2; cases h2
  · rintro s W W' row ⟨g, i, h⟩ hgr hr
    exact ⟨g, i, h.grown (hcell s g) hgr (fun r e => ⟨Nat.le_trans h0.size (hr r e).1, (hr r e).2⟩)⟩
  · rintro c s W W' row ⟨g, i, h⟩ hgr hr
    exact ⟨g, i, h.grown (hcell s g) hgr (fun r e => ⟨Nat.le_trans h0.size (hr r e).1, (hr r e).2⟩)⟩
  · rintro x a' s W W' row ⟨b, e, hs, hok⟩ hgr hr
    refine ⟨b, e, hs, fun r hr' => Res.keep (hok r hr') fun g' hg' => hgr.block g' (Res.lt (hok r hr') g' hg') (fun e' => ?_)⟩
    obtain ⟨_, o, ho, hoc⟩ := hr g' e'.symm
    obtain ⟨o2, h1, h2⟩ := Res.isCells (hAc x b r hr') (hok r hr') _ hg'
    rw [ho] at h1; cases h1; rw [hoc] at h2; cases h2
  · rintro l pre x W K' ⟨g, i, h⟩ hK'
    have hE : Hs FP W W (LI pre g) := by have := h.self; rwa [hfp] at this
    refine wpIn_any (wpIn_mono (hassign l pre x g W i hE).out fun e a' W' hq => ?_)
    cases e with
    | normal =>
      obtain ⟨b, rfl, hA⟩ := hq
      have hbase : Hs M w0 W' (AxL x b ++ LI pre g) := h.whole hA (fun g' hg' => by rw [hfp]; exact hg')
      refine hK' _ _ (hA.fr.keeps (fun g' hg' => h.fpCells (hcell pre g) g' (by rw [hfp]; exact hg')) _) (fun _ => hKok hA) ⟨g, i, hbase.back⟩ ⟨b, rfl, fun g' hg' => ?_, fun r hr => ?_⟩
      · obtain ⟨j, r, hj, hgr⟩ := mem_fps hg'
        have hj' : (AxL x b ++ LI pre g)[j]? = some r := by rw [List.getElem?_append_left (List.getElem?_eq_some_iff.1 hj).1]; exact hj
        have hn : g' ∉ FP := fun hm => by
          rw [← hfp pre g] at hm
          obtain ⟨k, s, hk, hgs⟩ := mem_fps hm
          have hk' : (AxL x b ++ LI pre g)[(AxL x b).length + k]? = some s := by rw [List.getElem?_append_right (by omega)]; simpa using hk
          exact hbase.ap j _ r s (by have := (List.getElem?_eq_some_iff.1 hj).1; omega) hj' hk' g' hgr hgs
        refine ⟨hn, ?_⟩
        rcases hA.my j r hj' g' hgr with h1 | h1
        · exact absurd h1 hn
        · exact Nat.le_trans h.size h1
      · obtain ⟨j, hj, e⟩ := List.getElem_of_mem hr
        exact hA.ok j r (by rw [List.getElem?_append_left hj, ← e]; exact List.getElem?_eq_getElem hj)
    | _ => exact hq
  · rintro l pre x a' W _ _ ⟨g, i, h⟩ ⟨b, rfl, hsep, hok⟩ hlen
    have hB : Hs M w0 W (AxL x b ++ LI pre g) := h.plus (hA1 x b) hok (fun g' hg' => by rw [hfp]; exact hsep g' hg')
    have hE : Hs (fps (AxL x b) ++ FP) W W (AxL x b ++ LI pre g) := by have := hB.self; rwa [fps_append, hfp] at this
    have hcells : ∀ r ∈ AxL x b ++ LI pre g, r.cellsB = true := fun r hr => by
      rcases List.mem_append.1 hr with h1 | h1
      · exact hAc x b r h1
      · exact hcell pre g r h1
    have hN : ∀ g' ∈ fps (AxL x b) ++ FP, g' ∈ fps (AxL x b ++ LI pre g) := fun g' hg' => by rw [fps_append, hfp]; exact hg'
    refine wpIn_any (wpIn_mono (hbody l pre x g b W i hlen hE).out fun e a' W' hq => ?_)
    cases e with
    | normal => obtain ⟨g', i', h'⟩ := hq; exact ⟨h'.fr.keeps (fun k hk => hB.fpCells hcells k (hN k hk)) _, fun _ => hKok (T := []) h', g', i', hB.whole h' hN⟩
    | ret => obtain ⟨g', i', h'⟩ := hq; exact ⟨h'.fr.keeps (fun k hk => hB.fpCells hcells k (hN k hk)) _, g', i', hB.whole h' hN⟩
    | exit id => obtain ⟨g', i', h'⟩ := hq; exact ⟨h'.fr.keeps (fun k hk => hB.fpCells hcells k (hN k hk)) _, g', i', hB.whole h' hN⟩
    | _ => exact hq.elim
  · rintro D ys W hD rfl ⟨g, i, h⟩ hk
    exact hdone D g W i (h.plusObj (hcell _ g) (Nat.le_trans h0.size hD) hk rfl)
  · rintro D c pre W hD hpre ⟨g, j, h⟩ hk
    exact wpIn_any (hstop D c pre g W hpre j (h.plusObj (hcell _ g) (Nat.le_trans h0.size hD) hk rfl)).out
theorem allCells {L : List Res} (h : L.all Res.cellsB = true) : ∀ r ∈ L, r.cellsB = true := fun r hr => List.all_eq_true.1 h r hr
theorem mem_of_pick {L K : List Res} (ix : List Nat) (h : ix.map (fun i => L[i]?) = K.map some) : ∀ r ∈ K, r ∈ L := fun r hr => by
  obtain ⟨j, hj, e⟩ := List.getElem_of_mem hr
  have h1 : (K.map some)[j]? = some (some r) := by rw [List.getElem?_map, List.getElem?_eq_getElem hj, e]; rfl
  rw [← h, List.getElem?_map] at h1
  cases hk : ix[j]? with
  | none => rw [hk] at h1; cases h1
  | some k => rw [hk] at h1; exact List.mem_of_getElem? (by simpa using h1)
theorem x_rangeB {α G : Type} {P : Program} {g : Operand} {ps : Array Tmp} {assign body : Code} {Q : Exit → Act → World → Prop} {a : Act} {w w0 : World} {M : List Nat}
    (xs : List α) (encs : α → Array Value) (K : List Res) (ix : List Nat) (FP : List Nat) (I : List α → G → Prop) (LI : List α → G → List Res) (J : Code → List α → G → Prop) (AxL : α → Nat → List Res) (fr : α → Nat → Act) (g0 : G)
    {gf : Nat} {lb : Array Value} (hg : a.eval g = .func (.func gf) #[] lb) (eg : ∀ args w, (callFunc gf args).run P w = .ok (.enter gf args) w)
    (hseq : SeqStopsK (FW none) 0 P gf lb encs (KpOf K) (fun ys => ys = xs) (fun pre => pre <+: xs) xs.length w)
    (hps : ∀ x, (encs x).size = ps.size) (hKc : K.all Res.cellsB = true) (hcell : ∀ pre g, (LI pre g).all Res.cellsB = true) (hfp : ∀ pre g, fps (LI pre g) = FP) (hK : ∀ pre g, ix.map (fun i => (LI pre g)[i]?) = K.map some)
    (hA1 : ∀ x b, decide ((AxL x b).length ≤ 1) = true) (hAc : ∀ x b, (AxL x b).all Res.cellsB = true)
    (h0 : Hs M w0 w (LI [] g0)) (i0 : I [] g0)
    (hassign : ∀ l pre x g W, I pre g → Hs FP W W (LI pre g) → XC (some l) P assign (Exit.then (fun a' W' => ∃ b, a' = fr x b ∧ Hs FP W W' (AxL x b ++ LI pre g)) (fun _ _ _ => False)) { tmps := (ps.zip (encs x)).foldl (fun t (p, v) => t.setIfInBounds p v) a.tmps, defers := [] } W)
    (hbody : ∀ l pre x g b W, I pre g → pre.length < xs.length → Hs (fps (AxL x b) ++ FP) W W (AxL x b ++ LI pre g) → XC (some l) P body (roundQ (fps (AxL x b) ++ FP) I LI J (pre ++ [x]) W) (fr x b) W)
    (hdone : ∀ D g W, I xs g → Hs M w0 W (.obj D (.deferred (some [])) :: LI xs g) → Q .normal { a with defers := { target := .collected D, args := #[] } :: a.defers } W)
    (hstop : ∀ D c pre g W, pre <+: xs → J c pre g → Hs M w0 W (.obj D (.deferred (some [])) :: LI pre g) → XC none P c Q { a with defers := { target := .collected D, args := #[] } :: a.defers } W) :
    XC none P (Code.rangeFunc g ps assign body) Q a w :=
  x_range xs encs K FP I LI J AxL fr g0 hg eg hseq hps (allCells hKc) (fun pre g => allCells (hcell pre g)) hfp (fun pre g => mem_of_pick ix (hK pre g)) (fun x b => of_decide_eq_true (hA1 x b)) (fun x b => allCells (hAc x b)) h0 i0 hassign hbody hdone hstop
/-- A range over a function where what the loop holds may move: the loop variable's block is only read. -/
theorem x_range3 {α G : Type} {P : Program} {g : Operand} {ps : Array Tmp} {assign body : Code} {Q : Exit → Act → World → Prop} {a : Act} {w w0 : World} {M : List Nat}
    (xs : List α) (encs : α → Array Value) (K : List Res) (ix : List Nat) (I : List α → G → Prop) (LI : List α → G → List Res) (J : Code → List α → G → Prop) (cs : α → Array Value) (ty : TypeId) (fr : α → Nat → Act) (g0 : G)
    {gf : Nat} {lb : Array Value} (hg : a.eval g = .func (.func gf) #[] lb) (eg : ∀ args w, (callFunc gf args).run P w = .ok (.enter gf args) w)
    (hseq : SeqStopsK (FW none) 0 P gf lb encs (KpOf K) (fun ys => ys = xs) (fun pre => pre <+: xs) xs.length w)
    (hps : ∀ x, (encs x).size = ps.size) (hKc : K.all Res.cellsB = true) (hcell : ∀ pre g, (LI pre g).all Res.cellsB = true) (hK : ∀ pre g, ix.map (fun i => (LI pre g)[i]?) = K.map some)
    (h0 : Hs M w0 w (LI [] g0)) (i0 : I [] g0)
    (hassign : ∀ l pre x g W, I pre g → Hs (fps (LI pre g)) W W (LI pre g) → XC (some l) P assign (Exit.then (fun a' W' => ∃ b, a' = fr x b ∧ Hs (fps (LI pre g)) W W' (.blk b (cs x) ty :: LI pre g)) (fun _ _ _ => False)) { tmps := (ps.zip (encs x)).foldl (fun t (p, v) => t.setIfInBounds p v) a.tmps, defers := [] } W)
    (hbody : ∀ l pre x g b W, I pre g → pre.length < xs.length → W.heap[b]? = some (.cells (cs x) ty (0, 0)) → Hs (fps (LI pre g)) W W (LI pre g) → XC (some l) P body (roundQ (fps (LI pre g)) I LI J (pre ++ [x]) W) (fr x b) W)
    (hdone : ∀ D g W, I xs g → Hs M w0 W (.obj D (.deferred (some [])) :: LI xs g) → Q .normal { a with defers := { target := .collected D, args := #[] } :: a.defers } W)
    (hstop : ∀ D c pre g W, pre <+: xs → J c pre g → Hs M w0 W (.obj D (.deferred (some [])) :: LI pre g) → XC none P c Q { a with defers := { target := .collected D, args := #[] } :: a.defers } W) :
    XC none P (Code.rangeFunc g ps assign body) Q a w := by
  have hKc' := allCells hKc
  have hcell' : ∀ pre g, ∀ r ∈ LI pre g, r.cellsB = true := fun pre g => allCells (hcell pre g)
  have hKok : ∀ {N : List Nat} {w1 w2 : World} {T : List Res} {pre : List α} {g : G}, Hs N w1 w2 (T ++ LI pre g) → Ro w2 K := fun {N w1 w2 T pre g} h i r hi => by
    obtain ⟨j, hj, e⟩ := List.getElem_of_mem (mem_of_pick ix (hK pre g) r (List.mem_of_getElem? hi))
    exact h.back.ok j r (by rw [← e]; exact List.getElem?_eq_getElem hj)
  refine ⟨wpIn_any (n := 1) (wpIn_rangeFunc_ownH (F := FW none) (n := 1) (w0 := w) rfl (Nat.le_refl 1) hg trivial eg hseq ?_ ?_ (Below.refl _ _) hps
    (fun pre W => ∃ g, I pre g ∧ Hs M w0 W (LI pre g)) (fun c pre W => ∃ g, J c pre g ∧ Hs M w0 W (LI pre g)) ?_ ?_ ⟨g0, i0, h0⟩
    (fun x a' W => ∃ b, a' = fr x b ∧ W.heap[b]? = some (.cells (cs x) ty (0, 0))) ?_ ?_ ?_ ?_ ?_)⟩
  · intro A B C h1 h2 h; exact h2 (h1 h)
  · intro W l o o' hl ho hc _ hro i r hi
    refine Res.keep (hro i r hi) fun g' hg' => (grownBy_putObj' W l o').block g' (Res.lt (hro i r hi) g' hg') (fun e => ?_)
    cases e
    obtain ⟨o2, h1, h2⟩ := Res.isCells (hKc' r (List.mem_of_getElem? hi)) (hro i r hi) _ hg'
    rw [ho] at h1; cases h1; rw [hc] at h2; cases h2
  · rintro s W W' row ⟨g, i, h⟩ hgr hr
    exact ⟨g, i, h.grown (hcell' s g) hgr (fun r e => ⟨Nat.le_trans h0.size (hr r e).1, (hr r e).2⟩)⟩
  · rintro c s W W' row ⟨g, i, h⟩ hgr hr
    exact ⟨g, i, h.grown (hcell' s g) hgr (fun r e => ⟨Nat.le_trans h0.size (hr r e).1, (hr r e).2⟩)⟩
  · rintro x a' s W W' row ⟨b, e, hb⟩ hgr hr
    refine ⟨b, e, (hgr.block b (heap_lt hb) (fun e' => ?_)).trans hb⟩
    obtain ⟨_, o, ho, hoc⟩ := hr b e'.symm
    rw [hb] at ho; cases ho; cases hoc
  · rintro l pre x W K' ⟨g, i, h⟩ hK'
    refine wpIn_any (wpIn_mono (hassign l pre x g W i h.self).out fun e a' W' hq => ?_)
    cases e with
    | normal =>
      obtain ⟨b, rfl, hA⟩ := hq
      have hbase : Hs M w0 W' ([.blk b (cs x) ty] ++ LI pre g) := h.whole hA (fun g' hg' => hg')
      exact hK' _ _ (hA.fr.keeps (fun g' hg' => h.fpCells (hcell' pre g) g' hg') _) (fun _ => hKok (T := [.blk b (cs x) ty]) hA) ⟨g, i, hbase.back⟩ ⟨b, rfl, hA.blk 0 rfl⟩
    | _ => exact hq
  · rintro l pre x a' W _ _ ⟨g, i, h⟩ ⟨b, rfl, hb⟩ hlen
    refine wpIn_any (wpIn_mono (hbody l pre x g b W i hlen hb h.self).out fun e a' W' hq => ?_)
    cases e with
    | normal => obtain ⟨g', i', h'⟩ := hq; exact ⟨h'.fr.keeps (fun k hk => h.fpCells (hcell' pre g) k hk) _, fun _ => hKok (T := []) h', g', i', h.whole h' (fun _ hk => hk)⟩
    | ret => obtain ⟨g', i', h'⟩ := hq; exact ⟨h'.fr.keeps (fun k hk => h.fpCells (hcell' pre g) k hk) _, g', i', h.whole h' (fun _ hk => hk)⟩
    | exit id => obtain ⟨g', i', h'⟩ := hq; exact ⟨h'.fr.keeps (fun k hk => h.fpCells (hcell' pre g) k hk) _, g', i', h.whole h' (fun _ hk => hk)⟩
    | _ => exact hq.elim
  · rintro D ys W hD rfl ⟨g, i, h⟩ hk
    exact hdone D g W i (h.plusObj (hcell' _ g) (Nat.le_trans h0.size hD) hk rfl)
  · rintro D c pre W hD hpre ⟨g, j, h⟩ hk
    exact wpIn_any (hstop D c pre g W hpre j (h.plusObj (hcell' _ g) (Nat.le_trans h0.size hD) hk rfl)).out
/-- A function's body that holds a range over a function. -/
theorem x_enterM {P : Program} {f : FuncId} {fn : Func} {c : Code} {args : Array Value} {w : World} {R : Ending → World → Prop} (hf : P.funcs[f]? = some fn) (hb : fn.body = some c) (tm : Array Value)
    (ht : args ++ Array.replicate (fn.ntmps - args.size) undef = tm) (h : XC none P c (bodyPostM (FW none) 0 P fn R) { tmps := tm, defers := [] } w) : Calls P f args w R :=
  callsFW.1 (callsIn_of_wp_marks (n := 0) hf hb trivial (by rw [ht]; exact h.out) rfl)
theorem x_ret0 {P : Program} {fn : Func} {R : Ending → World → Prop} {a : Act} {w : World} (v : Value) (hd : a.defers = []) (hv : (results fn a.tmps).run P w = .ok v w) (hR : R (.returned v) w) : bodyPostM (FW none) 0 P fn R .ret a w := by
  show LeavesInM (FW none) 0 P fn a.tmps R a.defers .returning w
  rw [hd]
  exact ⟨v, hv, hR⟩
theorem x_retM {P : Program} {fn : Func} {R : Ending → World → Prop} {a : Act} {w w0 : World} {D : Nat} {M : List Nat} {L : List Res} (v : Value) (H : Hs M w0 w (.obj D (.deferred (some [])) :: L)) (hd : a.defers = [{ target := .collected D, args := #[] }])
    (hv : ∀ w', Hs M w0 w' L → (results fn a.tmps).run P w' = .ok v w') (hR : ∀ w', Hs M w0 w' L → R (.returned v) w') : bodyPostM (FW none) 0 P fn R .ret a w := by
  show LeavesInM (FW none) 0 P fn a.tmps R a.defers .returning w
  rw [hd]
  have hk : w.heap[D]? = some (.deferred (some [])) := H.ok 0 _ rfl
  have hlt := heap_lt hk
  have h1 : Hs M w0 (w.putObj D (.deferred none)) (.obj D (.deferred none) :: L) := H.upd 0 (r' := .obj D (.deferred none)) rfl
    (by show (w.putObj D (.deferred none)).heap[D]? = _; simp [World.putObj, hlt]) (fun g hg => .inl hg) rfl rfl rfl (by simp [World.putObj])
    (fun k hk1 hk2 => (grownBy_putObj' w D (.deferred none)).block k hk1 (fun e => hk2 (by cases e; simp [Res.fp])))
  have h2 : Hs M w0 (w.putObj D (.deferred none)) L := Hs.back (A := [.obj D (.deferred none)]) h1
  exact ⟨by simp, .inl ⟨_, _, rfl, run_takeDeferred hk, v, hv _ h2, hR _ h2⟩⟩
theorem x_retM1 {P : Program} {fn : Func} {R : Ending → World → Prop} {a : Act} {w w0 : World} {D : Nat} {M : List Nat} {L : List Res} (ix : List Nat) (L' : List Res) (v : Value) (H : Hs M w0 w L) (hp : ix.map (fun i => L[i]?) = ((.obj D (.deferred (some [])) :: L').map some)) (hd : a.defers = [{ target := .collected D, args := #[] }])
    (hn : ix.Nodup) (hv : ∀ w', Hs M w0 w' L' → (results fn a.tmps).run P w' = .ok v w') (hR : ∀ w', Hs M w0 w' L' → R (.returned v) w') : bodyPostM (FW none) 0 P fn R .ret a w :=
  x_retM v (H.pick _ _ hn hp) hd hv hR
/-- A call of yield. -/
theorem x_yield {ρ : Option Nat} {P : Program} {ops : Array Oper} {Q : Exit → Act → World → Prop} {a : Act} {w : World} {o : Oper} {rest : List Oper} {l : Nat} {args : Array Value} {R : Ending → World → Prop} {m : Nat} (hY : YieldAt (FW ρ) m P l args w R)
    (hw : Region.wanted o (yielded ops a.tmps) = true) (hd : opNd o = true) (h : (execOp a.eval o).run P w = (Instr.yield l args).run P w)
    (k : ∀ e w', R e w' → ∃ v, e = .returned v ∧ XL ρ P ops Q rest (a.put o.dst v) w') : XL ρ P ops Q (o :: rest) a w := by
  obtain ⟨fn, tmps, assign, body, hy, hR⟩ := hY
  refine ⟨?_⟩
  unfold wpListIn
  rw [if_pos hw]
  refine ⟨fun _ _ => trivial, ?_⟩
  show o.uponIn (FW ρ) 0 P a _ Q ((o.semAt (FW ρ).round a.eval).run P w)
  rw [semAt_nd hd, h, hy]
  refine ⟨fun h => (by cases h), hR.1, fun c cs _ => ?_⟩
  obtain ⟨e, w', hr, hc⟩ := hR.2 c cs (fun d h => by cases h)
  obtain ⟨v, rfl, hk⟩ := k e w' hr
  exact ⟨.returned v, w', hk.out, hc⟩
theorem below_grown {w w' : World} (h : Below w.heap.size w w') : w.grownBy w' none := ⟨h.os, h.tape, h.output, h.size, fun k hk _ => h.block k hk⟩
end Go.Proofs.YtjbaabffilejeaaDoor
