/- A range over a function whose iterator writes a cell block of its own. -/
import Derived.Test.YtjbaabffilejeaaDoorPxR
namespace Go.Proofs.YtjbaabffilejeaaDoor
open Go Go.RowKit
set_option linter.unusedVariables false
section
variable {M N : List Nat} {w0 w w' : World} {L A B R : List Res}
theorem Hs.updR {r r' : Res} (h : Hs M w0 w (A ++ r :: R)) (hok : r'.ok w') (hfp : ∀ g ∈ r'.fp, g ∈ r.fp ∨ w.heap.size ≤ g)
    (hos : w'.os = w.os) (htape : w'.tape = w.tape) (hout : w'.output = w.output) (hsz : w.heap.size ≤ w'.heap.size)
    (hk : ∀ k, k < w.heap.size → k ∉ r.fp → w'.heap[k]? = w.heap[k]?) : Hs M w0 w' (A ++ r' :: R) := by
  have hi : (A ++ r :: R)[A.length]? = some r := by rw [List.getElem?_append_right (Nat.le_refl _)]; simp
  have := h.upd A.length hi hok hfp hos htape hout hsz hk
  simpa using this
theorem Hs.getR {r : Res} (h : Hs M w0 w (A ++ r :: R)) : r.ok w := h.ok A.length r (by rw [List.getElem?_append_right (Nat.le_refl _)]; simp)
theorem Hs.putO {l : Nat} {o o' : Obj} (h : Hs M w0 w (A ++ .obj l o :: R)) : Hs M w0 (w.putObj l o') (A ++ .obj l o' :: R) := by
  have hl : w.heap[l]? = some o := h.getR
  refine h.updR (World.putObj_heap_same (heap_lt hl)) (fun g hg => .inl hg) rfl rfl rfl (by simp) fun k _ hk => World.putObj_heap_other fun e => hk (by subst e; simp [Res.fp])
theorem Hs.addO (h : Hs M w0 w L) (o : Obj) : Hs M w0 (w.alloc o) (.obj w.heap.size o :: L) :=
  h.add (World.alloc_heap_new _ _) (by simp [Res.fp]) rfl rfl rfl (by simp) fun k hk => Below.heap_alloc _ _ _ hk
/-- Two parts of what is held change places. -/
theorem Hs.swap (h : Hs M w0 w (A ++ B)) : Hs M w0 w (B ++ A) := by
  have ix : ∀ {i : Nat} {r : Res}, (B ++ A)[i]? = some r → ∃ j, (A ++ B)[j]? = some r ∧ (i < B.length ∧ j = A.length + i ∨ B.length ≤ i ∧ j = i - B.length ∧ j < A.length) := by
    intro i r hi
    rcases Nat.lt_or_ge i B.length with h1 | h1
    · rw [List.getElem?_append_left h1] at hi
      exact ⟨A.length + i, by rw [List.getElem?_append_right (by omega)]; simpa using hi, .inl ⟨h1, rfl⟩⟩
    · rw [List.getElem?_append_right h1] at hi
      have h2 := (List.getElem?_eq_some_iff.1 hi).1
      exact ⟨i - B.length, by rw [List.getElem?_append_left h2]; exact hi, .inr ⟨h1, rfl, h2⟩⟩
  refine ⟨fun i r hi => ?_, fun i j r s hne hi hj => ?_, fun i r hi => ?_, h.fr⟩
  · obtain ⟨k, hk, _⟩ := ix hi; exact h.ok k r hk
  · obtain ⟨k, hk, e1⟩ := ix hi; obtain ⟨m, hm, e2⟩ := ix hj
    exact h.ap k m r s (by omega) hk hm
  · obtain ⟨k, hk, _⟩ := ix hi; exact h.my k r hk
theorem Hs.apt (h : Hs M w0 w (A ++ B)) : ∀ k ∈ fps B, k ∉ fps A := fun k hk hk' => by
  obtain ⟨i, r, hi, hr⟩ := mem_fps hk; obtain ⟨j, s, hj, hs⟩ := mem_fps hk'
  have h1 := (List.getElem?_eq_some_iff.1 hj).1
  have hi' : (A ++ B)[A.length + i]? = some r := by rw [List.getElem?_append_right (Nat.le_add_right _ _)]; simpa using hi
  have hj' : (A ++ B)[j]? = some s := by rw [List.getElem?_append_left h1]; exact hj
  exact h.ap (A.length + i) j r s (by omega) hi' hj' k hr hs
end
/-- A function that hands out xs, one by one, while it writes its own block q and reads K. -/
def SeqQ {α : Type} (P : Program) (q : Nat) (ty : TypeId) (K : List Res) (gf : Nat) (lb : Array Value) (encs : α → Array Value) (xs : List α) (w : World) : Prop :=
  ∀ (l : Nat) (J Jx : List α → World → Prop) (W : World), (∀ k ∈ q :: fps K, W.heap[k]? = w.heap[k]?) →
    (∀ pre V V', J pre V → Fr [q] V V' → (∃ c, V'.heap[q]? = some (.cells c ty (0, 0))) → J pre V') →
    (∀ pre x V, pre ++ [x] <+: xs → J pre V → YieldAt (FW none) 0 P l (encs x) V fun e V' =>
      (e = .returned (.bool true) ∧ J (pre ++ [x]) V' ∧ ∀ k ∈ q :: fps K, V'.heap[k]? = V.heap[k]?) ∨ (e = .returned (.bool false) ∧ Jx (pre ++ [x]) V')) →
    J [] W → CallsIn (FW none) 0 P gf (#[.func (.yield l) #[] #[]] ++ lb) W fun e V => (∃ v, e = .returned v) ∧ (J xs V ∨ ∃ pre, pre <+: xs ∧ Jx pre V)
/-- How the body of such a round may be left. -/
theorem x_rangeQ {α G : Type} {P : Program} {g : Operand} {ps : Array Tmp} {assign body : Code} {Q : Exit → Act → World → Prop} {a : Act} {w w0 : World} {M : List Nat}
    (xs : List α) (encs : α → Array Value) (q : Nat) (c0 : Array Value) (ty : TypeId) (K : List Res) (I : List α → G → Prop) (LI : List α → G → List Res) (J : Code → List α → G → Prop) (fr : α → Act) (g0 : G)
    {gf : Nat} {lb : Array Value} (hg : a.eval g = .func (.func gf) #[] lb) (eg : ∀ args w, (callFunc gf args).run P w = .ok (.enter gf args) w)
    (hseq : SeqQ P q ty K gf lb encs xs w) (hps : ∀ x, (encs x).size = ps.size) (hcK : K.all Res.cellsB = true) (hcell : ∀ pre g, (LI pre g).all Res.cellsB = true)
    (h0 : Hs M w0 w (LI [] g0 ++ .blk q c0 ty :: K)) (i0 : I [] g0)
    (hassign : ∀ l x W, XC (some l) P assign (Exit.then (fun a' W' => a' = fr x ∧ W' = W) (fun _ _ _ => False)) { tmps := (ps.zip (encs x)).foldl (fun t (p, v) => t.setIfInBounds p v) a.tmps, defers := [] } W)
    (hbody : ∀ l pre x g R W, I pre g → pre ++ [x] <+: xs → Hs M w0 W (LI pre g ++ R) → Hs (fps (LI pre g)) W W (LI pre g) → XC (some l) P body (roundQ (fps (LI pre g)) I LI J (pre ++ [x]) W) (fr x) W)
    (hdone : ∀ D g W, I xs g → Hs M w0 W (.obj D (.deferred (some [])) :: LI xs g) → Q .normal { a with defers := { target := .collected D, args := #[] } :: a.defers } W)
    (hstop : ∀ D c pre g W, pre <+: xs → J c pre g → Hs M w0 W (.obj D (.deferred (some [])) :: LI pre g) → XC none P c Q { a with defers := { target := .collected D, args := #[] } :: a.defers } W) :
    XC none P (Code.rangeFunc g ps assign body) Q a w := by
  refine ⟨wpIn_any (n := 1) (wpIn_rangeFunc fun fn hfn => ?_)⟩
  obtain ⟨rec, hrec⟩ : ∃ rec : LoopState → Option Code → Loop, rec = fun st pe => { state := st, pending := pe, fn, tmps := a.tmps, params := ps, assign, body, defers := w.heap.size } := ⟨_, rfl⟩
  obtain ⟨D, hD⟩ : ∃ D, D = w.heap.size := ⟨_, rfl⟩
  obtain ⟨T, hT⟩ : ∃ T : Array Value → LoopState → Option Code → List Res, T = fun c st pe => .obj (D + 1) (.loop (rec st pe)) :: .obj D (.deferred (some [])) :: .blk q c ty :: K := ⟨_, rfl⟩
  have H1 : Hs M w0 ((w.alloc (.deferred (some []))).alloc (.loop (rec .ready none))) (LI [] g0 ++ T c0 .ready none) := by
    have h1 := (h0.swap.addO (.deferred (some []))).addO (.loop (rec .ready none))
    rw [World.size_alloc, ← hD] at h1
    refine Hs.swap (A := T c0 .ready none) ?_
    rw [hT]; exact h1
  have hsame : ∀ k ∈ q :: fps K, ((w.alloc (.deferred (some []))).alloc (.loop (rec .ready none))).heap[k]? = w.heap[k]? := fun k hk => by
    have hlt : k < w.heap.size := by
      obtain ⟨i, r, hi, hr⟩ := mem_fps (A := .blk q c0 ty :: K) (g := k) (by simpa [fps, Res.fp] using hk)
      exact (h0.back (A := LI [] g0)).lt i hi k hr
    rw [Below.heap_alloc _ _ _ (by simp; omega), Below.heap_alloc _ _ _ hlt]
  have hTK : ∀ c st pe, ∀ k ∈ q :: fps K, k ∈ fps (T c st pe) ∧ k ≠ D + 1 ∨ k = D + 1 := fun c st pe k hk => by
    by_cases e : k = D + 1
    · exact .inr e
    · refine .inl ⟨?_, e⟩
      rw [hT]; simp only [fps, List.flatMap_cons, Res.fp, List.cons_append, List.nil_append, List.mem_cons] at hk ⊢
      rcases hk with hk | hk
      · exact .inr (.inr (.inl hk))
      · exact .inr (.inr (.inr hk))
  have hTn : ∀ {V : World} {A : List Res} {c st pe}, Hs M w0 V (A ++ T c st pe) → ∀ k ∈ q :: fps K, k ≠ D + 1 := fun {V A c st pe} h k hk e => by
    have h1 : Hs M w0 V ([.obj (D + 1) (.loop (rec st pe))] ++ (.obj D (.deferred (some [])) :: .blk q c ty :: K)) := by
      have := h.back; rw [hT] at this; exact this
    refine h1.apt k ?_ (by simp [fps, Res.fp, e])
    simp only [fps, List.flatMap_cons, Res.fp, List.cons_append, List.nil_append, List.mem_cons] at hk ⊢
    rcases hk with hk | hk
    · exact .inr (.inl hk)
    · exact .inr (.inr hk)
  have hput : ∀ {V : World} {A : List Res} {c st pe} (st' : LoopState) (pe' : Option Code), Hs M w0 V (A ++ T c st pe) → Hs M w0 (V.putObj (D + 1) (.loop (rec st' pe'))) (A ++ T c st' pe') := fun {V A c st pe} st' pe' h => by
    rw [hT] at h ⊢; exact h.putO
  have hrecd : ∀ {V : World} {A : List Res} {c st pe}, Hs M w0 V (A ++ T c st pe) → V.heap[D + 1]? = some (.loop (rec st pe)) := fun {V A c st pe} h => by
    rw [hT] at h; exact h.getR
  have hout : ∀ {V : World} {A : List Res} {c st pe}, Hs M w0 V (A ++ T c st pe) → Hs M w0 V (.obj D (.deferred (some [])) :: A) := fun {V A c st pe} h => by
    have h1 : Hs M w0 V ((A ++ [.obj (D + 1) (.loop (rec st pe))]) ++ (.obj D (.deferred (some [])) :: .blk q c ty :: K)) := by rw [hT] at h; simpa using h
    have h2 := h1.swap
    have h3 : Hs M w0 V ((.obj D (.deferred (some [])) :: (.blk q c ty :: K)) ++ (A ++ [.obj (D + 1) (.loop (rec st pe))])) := h2
    have h4 : Hs M w0 V (((A ++ [.obj (D + 1) (.loop (rec st pe))]) ++ [.obj D (.deferred (some []))]) ++ (.blk q c ty :: K)) := by
      simpa using h1
    have h5 := h4.front.swap
    have h6 : Hs M w0 V ((.obj D (.deferred (some [])) :: A) ++ [.obj (D + 1) (.loop (rec st pe))]) := h5
    exact h6.front
  have hent : (Instr.enterLoop fn a.tmps ps assign body none).run P w = .ok (D + 1, [{ target := .collected D, args := #[] }]) ((w.alloc (.deferred (some []))).alloc (.loop (rec .ready none))) := by
    rw [hD, hrec]; exact run_enterLoop_outer _ _ _ _ _
  refine ⟨D + 1, [{ target := .collected D, args := #[] }], (w.alloc (.deferred (some []))).alloc (.loop (rec .ready none)), { target := .fn (.func gf) lb, args := #[.func (.yield (D + 1)) #[] #[]] }, (w.alloc (.deferred (some []))).alloc (.loop (rec .ready none)), gf, #[.func (.yield (D + 1)) #[] #[]] ++ lb, (w.alloc (.deferred (some []))).alloc (.loop (rec .ready none)), hent, ?_, ?_, ?_, fun h => (by cases h), ?_⟩
  · simp only [resolve, hg]
    simp [go_sem]
  · intro f' hf'; trivial
  · simp [invoke, go_sem, eg]
  refine (hseq (D + 1) (fun pre V => ∃ g c, I pre g ∧ Hs M w0 V (LI pre g ++ T c .ready none)) (fun pre V => ∃ cd g c, J cd pre g ∧ Hs M w0 V (LI pre g ++ T c .done (some cd))) _ hsame ?_ ?_ ⟨g0, c0, i0, H1⟩).mono ?_
  · -- the iterator writes its block
    rintro pre V V' ⟨g, c, i, h⟩ hf ⟨c', hc'⟩
    refine ⟨g, c', i, ?_⟩
    rw [hT] at h ⊢
    have h1 : Hs M w0 V ((LI pre g ++ [.obj (D + 1) (.loop (rec .ready none)), .obj D (.deferred (some []))]) ++ .blk q c ty :: K) := by simpa using h
    have h2 := h1.updR (r' := .blk q c' ty) hc' (fun g hg => .inl hg) hf.os hf.tape hf.output hf.size (fun k hk hn => hf.block k hk (by simpa [Res.fp] using hn))
    simpa using h2
  · -- a round
    rintro pre x V hpx ⟨g, c, i, h⟩
    have hl := hrecd h
    have hy := run_yield (P := P) (args := encs x) hl (by rw [hrec]; exact hps x)
    rw [hrec] at hy
    refine ⟨fn, _, assign, body, hy, roundIn_of_wpIn hfn (wpIn_any (wpIn_mono (hassign (D + 1) x V).out fun e a' V' hq => ?_))⟩
    cases e with
    | normal =>
      obtain ⟨rfl, rfl⟩ := hq
      refine ⟨_, run_beginRound hl (by rw [hrec]), ?_⟩
      have hb := hput .busy none h
      rw [show ({ rec .ready none with state := .busy } : Loop) = rec .busy none by rw [hrec]]
      generalize hV1 : V'.putObj (D + 1) (.loop (rec .busy none)) = V1 at hb
      have hV1k : ∀ k ∈ q :: fps K, V1.heap[k]? = V'.heap[k]? := fun k hk => by rw [← hV1]; exact World.putObj_heap_other (hTn h k hk)
      have fin : ∀ (jump : Option Code) (V2 : World) (B : List Res), Hs (fps (LI pre g)) V1 V2 B → Hs M w0 (V2.putObj (D + 1) (.loop (rec (if jump.isNone then .ready else .done) jump))) (B ++ T c (if jump.isNone then .ready else .done) jump) ∧
          (Instr.endRound (D + 1) jump).run P V2 = .ok (.bool jump.isNone) (V2.putObj (D + 1) (.loop (rec (if jump.isNone then .ready else .done) jump))) ∧
          ∀ k ∈ q :: fps K, (V2.putObj (D + 1) (.loop (rec (if jump.isNone then .ready else .done) jump))).heap[k]? = V'.heap[k]? := fun jump V2 B h2 => by
        have h3 := hb.call h2 (fun g' hg' => mem_fps hg')
        have h4 := run_endRound (P := P) jump (hrecd h3)
        refine ⟨hput _ _ h3, by rw [hrec] at h4 ⊢; exact h4, fun k hk => ?_⟩
        rw [World.putObj_heap_other (hTn h3 k hk), ← hV1k k hk]
        rcases hTK c .busy none k hk with ⟨h5, _⟩ | h5
        · exact h2.fr.block k (by
            obtain ⟨j, s, hj, hs⟩ := mem_fps h5
            exact (hb.back (A := LI pre g)).lt j hj k hs) (hb.apt k h5)
        · exact absurd h5 (hTn h k hk)
      refine wpIn_any (wpIn_mono (hbody (D + 1) pre x g _ V1 i hpx hb (hb.front.self)).out fun e a3 V2 hq => ?_)
      cases e with
      | normal =>
        obtain ⟨g', i', h'⟩ := hq
        obtain ⟨h3, h4, h5⟩ := fin none V2 _ h'
        exact ⟨_, _, h4, .inl ⟨rfl, ⟨g', c, i', h3⟩, h5⟩⟩
      | ret =>
        obtain ⟨g', i', h'⟩ := hq
        obtain ⟨h3, h4, h5⟩ := fin (some .ret) V2 _ h'
        exact ⟨_, _, h4, .inr ⟨rfl, _, g', c, i', h3⟩⟩
      | exit id =>
        obtain ⟨g', i', h'⟩ := hq
        obtain ⟨h3, h4, h5⟩ := fin (some (.exit id)) V2 _ h'
        exact ⟨_, _, h4, .inr ⟨rfl, _, g', c, i', h3⟩⟩
      | _ => exact hq.elim
    | _ => exact hq.elim
  · -- behind the iterator
    rintro e V ⟨⟨v, rfl⟩, (⟨g, c, i, h⟩ | ⟨pre, hpre, cd, g, c, j, h⟩)⟩
    · have h1 := run_endLoop (P := P) (hrecd h) (by rw [hrec]; simp)
      refine ⟨none, _, by rw [hrec] at h1 ⊢; exact h1, hdone D g _ i (hout (hput .exhausted none h))⟩
    · have h1 := run_endLoop (P := P) (hrecd h) (by rw [hrec]; simp)
      refine ⟨some cd, _, by rw [hrec] at h1 ⊢; exact h1, wpIn_any (hstop D cd pre g _ hpre j (hout (hput .exhausted (some cd) h))).out⟩
end Go.Proofs.YtjbaabffilejeaaDoor
