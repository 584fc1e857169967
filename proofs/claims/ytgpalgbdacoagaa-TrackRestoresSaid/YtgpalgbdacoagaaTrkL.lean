/- Looking up keys in a table of buckets: plain laws. -/
import Derived.Test.YtgpalgbdacoagaaTrkF
namespace Go.Proofs.Ytgpalgbdacoagaa
open Go Go.RowKit
set_option linter.unusedVariables false
/-- What a key has. -/
def lkB : List PairB → Int → Option Buk
  | [], _ => none
  | x :: xs, k => if x.1 = k then some x.2 else lkB xs k
theorem fkB_cons (x : PairB) (xs : List PairB) (k : Int) : fkB (x :: xs) k = if x.1 = k then 0 else fkB xs k + 1 := by
  unfold fkB eqkI
  rw [List.findIdx_cons]
  by_cases h : x.1 = k <;> simp [h]
theorem lk_get (k : Int) : ∀ xs : List PairB, getB xs k = (lkB xs k).getD (0, 0) ∧ decide (fkB xs k < xs.length) = (lkB xs k).isSome
  | [] => by simp [getB, fkB, lkB]
  | x :: xs => by
    obtain ⟨h1, h2⟩ := lk_get k xs
    unfold getB at *
    rw [fkB_cons, lkB]
    by_cases h : x.1 = k
    · simp [h]
    · simp only [if_neg h, List.length_cons, Nat.add_lt_add_iff_right]
      refine ⟨?_, h2⟩
      rw [← h1]; rfl
theorem lk_set (k : Int) (v : Buk) (k2 : Int) : ∀ xs : List PairB, fkB xs k < xs.length → lkB (xs.set (fkB xs k) ((xs.getD (fkB xs k) (0, 0, 0)).1, v)) k2 = if k = k2 then some v else lkB xs k2
  | [], h => by simp at h
  | x :: xs, h => by
    rw [fkB_cons] at h ⊢
    by_cases hx : x.1 = k
    · rw [if_pos hx, List.set_cons_zero, lkB, lkB]
      show (if x.1 = k2 then some v else lkB xs k2) = _
      rw [hx]; split <;> rfl
    · rw [if_neg hx] at h ⊢
      rw [List.set_cons_succ, lkB, lkB]
      have e : (x :: xs).getD (fkB xs k + 1) (0, 0, 0) = xs.getD (fkB xs k) (0, 0, 0) := rfl
      rw [e, lk_set k v k2 xs (by simpa using h)]
      by_cases h2 : x.1 = k2
      · rw [if_pos h2, if_pos h2, if_neg (fun h3 => hx (h2.trans h3.symm))]
      · rw [if_neg h2, if_neg h2]
theorem lk_snoc (k : Int) (v : Buk) (k2 : Int) : ∀ xs : List PairB, ¬ fkB xs k < xs.length → lkB (xs ++ [(k, v)]) k2 = if k = k2 then some v else lkB xs k2
  | [], h => by simp [lkB]
  | x :: xs, h => by
    rw [fkB_cons] at h
    by_cases hx : x.1 = k
    · rw [if_pos hx] at h; simp at h
    · rw [if_neg hx] at h
      rw [List.cons_append, lkB, lkB, lk_snoc k v k2 xs (by simpa using h)]
      by_cases h2 : x.1 = k2
      · rw [if_pos h2, if_pos h2, if_neg (fun h3 => hx (h2.trans h3.symm))]
      · rw [if_neg h2, if_neg h2]
theorem lk_put {room : Nat} {xs : List PairB} (h : xs.length < room) (k : Int) (v : Buk) (k2 : Int) : lkB (putB room xs k v).1 k2 = if k = k2 then some v else lkB xs k2 := by
  unfold putB
  split
  · rename_i hq; exact lk_set k v k2 xs hq
  · rename_i hq; exact lk_snoc k v k2 xs hq
theorem put_len1 {room : Nat} {xs : List PairB} (h : xs.length < room) (k : Int) (v : Buk) : (putB room xs k v).1.length ≤ xs.length + 1 := by
  unfold putB
  split
  · simp
  · simp
theorem lk_map {f : Buk → Buk} (k : Int) : ∀ xs : List PairB, lkB (xs.map fun x => (x.1, f x.2)) k = (lkB xs k).map f
  | [] => rfl
  | x :: xs => by
    rw [List.map_cons, lkB, lkB, lk_map k xs]
    split <;> rfl
/-- No two keys are alike. -/
def UnlB (xs : List PairB) : Prop := (xs.map Prod.fst).Nodup
theorem UnlB.nil : UnlB [] := List.nodup_nil
theorem lk_none {k : Int} : ∀ {xs : List PairB}, k ∉ xs.map Prod.fst → lkB xs k = none
  | [], _ => rfl
  | x :: xs, h => by
    rw [List.map_cons, List.mem_cons, not_or] at h
    rw [lkB, if_neg (fun e => h.1 e.symm)]
    exact lk_none h.2
theorem mem_fk {k : Int} : ∀ {xs : List PairB}, k ∈ xs.map Prod.fst ↔ fkB xs k < xs.length
  | [] => by simp
  | x :: xs => by
    rw [List.map_cons, List.mem_cons, fkB_cons]
    by_cases h : x.1 = k
    · simp [h]
    · rw [if_neg h, mem_fk (xs := xs), List.length_cons]
      constructor
      · rintro (e | e)
        · exact absurd e.symm h
        · omega
      · intro e; right; omega
theorem lk_drop (k k2 : Int) : ∀ xs : List PairB, UnlB xs → lkB (dropB xs k) k2 = if k = k2 then none else lkB xs k2
  | [], _ => by simp [dropB, lkB]
  | x :: xs, h => by
    unfold UnlB at h
    rw [List.map_cons, List.nodup_cons] at h
    have ih := lk_drop k k2 xs h.2
    unfold dropB at ih ⊢
    rw [fkB_cons, lkB]
    by_cases hx : x.1 = k
    · rw [if_pos hx, if_pos (by simp), List.eraseIdx_cons_zero]
      by_cases h2 : k = k2
      · rw [if_pos h2]; exact lk_none (by rw [← h2, ← hx]; exact h.1)
      · rw [if_neg h2, if_neg (by rw [hx]; exact h2)]
    · rw [if_neg hx]
      by_cases hq : fkB xs k < xs.length
      · rw [if_pos hq] at ih
        rw [if_pos (by simpa using hq), List.eraseIdx_cons_succ, lkB, ih]
        by_cases h2 : x.1 = k2
        · rw [if_pos h2, if_neg (fun h3 => hx (h2.trans h3.symm)), if_pos h2]
        · rw [if_neg h2, if_neg h2]
      · rw [if_neg hq] at ih
        rw [if_neg (by simpa using hq), lkB]
        by_cases h2 : x.1 = k2
        · rw [if_pos h2, if_neg (fun h3 => hx (h2.trans h3.symm))]
        · rw [if_neg h2]; exact ih
theorem UnlB.drop {xs : List PairB} (h : UnlB xs) (k : Int) : UnlB (dropB xs k) := by
  unfold dropB; split
  · unfold UnlB; exact h.sublist ((List.eraseIdx_sublist xs _).map Prod.fst)
  · exact h
theorem UnlB.map {xs : List PairB} (h : UnlB xs) (f : Buk → Buk) : UnlB (xs.map fun x => (x.1, f x.2)) := by
  unfold UnlB; rw [List.map_map]; exact h
theorem UnlB.snoc {xs : List PairB} (h : UnlB xs) {k : Int} {v : Buk} (hk : k ∉ xs.map Prod.fst) : UnlB (xs ++ [(k, v)]) := by
  unfold UnlB
  rw [List.map_append, List.nodup_append]
  refine ⟨h, by simp, ?_⟩
  intro a ha b hb
  simp only [List.map_cons, List.map_nil, List.mem_singleton] at hb
  rw [hb]; intro e; exact hk (e ▸ ha)
theorem UnlB.put {xs : List PairB} (h : UnlB xs) (room : Nat) (k : Int) (v : Buk) : UnlB (putB room xs k v).1 := by
  unfold putB
  split
  · rename_i hq
    unfold UnlB
    rw [List.map_set]
    have e : (xs.map Prod.fst)[fkB xs k]'(by simpa using hq) = (xs.getD (fkB xs k) (0, 0, 0)).1 := by simp [List.getD, hq]
    show (List.set (xs.map Prod.fst) (fkB xs k) (xs.getD (fkB xs k) (0, 0, 0)).1).Nodup
    rw [← e, List.set_getElem_self]; exact h
  · rename_i hq
    split
    · exact h.snoc (fun e => hq (mem_fk.1 e))
    · refine UnlB.snoc ?_ fun e => hq (mem_fk.1 ?_)
      · unfold UnlB; exact h.sublist ((List.eraseIdx_sublist xs _).map Prod.fst)
      · exact ((List.eraseIdx_sublist xs _).map Prod.fst).subset e
theorem UnlB.note {xs : List PairB} (h : UnlB xs) (ranks room : Nat) (rank page n : Int) : UnlB (nXs ranks room xs rank page n) := by
  unfold nXs; split
  · exact h.put _ _ _
  · exact h
/-- A table held against a page's bucket, told alone. -/
def PgIs (xs : List PairB) (page : Int) (b : Buk) (has : Bool) : Prop := lkB xs page = if has then some b else none
structure PgOk (xs : List PairB) (page : Int) (b : Buk) (has : Bool) (k : Nat) : Prop where
  u : UnlB xs
  n : xs.length ≤ k
  is : lkB xs page = if has then some b else none
  z : has = false → b = (0, 0)
theorem PgOk.get {xs : List PairB} {page : Int} {b : Buk} {has : Bool} {k : Nat} (h : PgOk xs page b has k) : getB xs page = b ∧ decide (fkB xs page < xs.length) = has := by
  have q := lk_get page xs
  rw [h.is] at q
  cases has
  · exact ⟨q.1.trans (h.z rfl).symm, q.2⟩
  · exact q
theorem PgOk.other {xs : List PairB} {page : Int} {b : Buk} {has : Bool} {k : Nat} (h : PgOk xs page b has k) {ranks room : Nat} (hr : k < room) {rank p n : Int} (hp : nOk ranks rank n = false ∨ ¬ p = page) : PgOk (nXs ranks room xs rank p n) page b has (k + 1) := by
  refine ⟨h.u.note _ _ _ _ _, ?_, ?_, h.z⟩ <;> unfold nXs <;> split
  · exact Nat.le_trans (put_len1 (by have := h.n; omega) _ _) (Nat.succ_le_succ h.n)
  · exact Nat.le_succ_of_le h.n
  · rename_i hn
    rcases hp with hp | hp
    · rw [hn] at hp; cases hp
    · rw [lk_put (by have := h.n; omega), if_neg hp]; exact h.is
  · exact h.is
theorem PgOk.hit {xs : List PairB} {page : Int} {b : Buk} {has : Bool} {k : Nat} (h : PgOk xs page b has k) {ranks room : Nat} (hr : k < room) {rank p n : Int} (hn : nOk ranks rank n = true) (hp : p = page) : PgOk (nXs ranks room xs rank p n) page (bfill b n) true (k + 1) := by
  refine ⟨h.u.note _ _ _ _ _, ?_, ?_, fun e => by cases e⟩ <;> unfold nXs <;> rw [if_pos hn]
  · exact Nat.le_trans (put_len1 (by have := h.n; omega) _ _) (Nat.succ_le_succ h.n)
  · rw [lk_put (by have := h.n; omega), if_pos hp, hp, h.get.1]; rfl
theorem PgOk.tick {xs : List PairB} {page : Int} {b : Buk} {has : Bool} {k : Nat} (h : PgOk xs page b has k) (pE : Int) : PgOk (List.map (tickX pE) xs) page (if has then btick pE b else b) has (k + 1) := by
  have e : List.map (tickX pE) xs = xs.map fun x => (x.1, btick pE x.2) := rfl
  rw [e]
  refine ⟨h.u.map _, by rw [List.length_map]; exact Nat.le_succ_of_le h.n, ?_, ?_⟩
  · rw [lk_map, h.is]; cases has <;> rfl
  · intro e; rw [e]; exact h.z e
theorem PgOk.dropped {xs : List PairB} {page : Int} {b : Buk} {has : Bool} {k : Nat} (h : PgOk xs page b has k) {p : Int} : PgOk (dropB xs p) page (if p = page then (0, 0) else b) (if p = page then false else has) (k + 1) := by
  refine ⟨h.u.drop _, Nat.le_succ_of_le (dropB_len h.n _), ?_, ?_⟩
  · rw [lk_drop _ _ _ h.u, h.is]; split <;> rfl
  · intro e; split
    · rfl
    · rename_i hp; rw [if_neg hp] at e; exact h.z e
theorem PgOk.next {xs : List PairB} {page : Int} {b : Buk} {has : Bool} {k : Nat} (h : PgOk xs page b has k) : PgOk xs page b has (k + 1) := ⟨h.u, Nat.le_succ_of_le h.n, h.is, h.z⟩
theorem PgOk.new (page : Int) : PgOk [] page (0, 0) false 0 := ⟨UnlB.nil, Nat.le_refl _, rfl, fun _ => rfl⟩
theorem PgOk.c2 {xs : List PairB} {page : Int} {b : Buk} {has : Bool} {k : Nat} (h : PgOk xs page b has k) {ranks : Nat} {pL rank p n : Int} (hn : nOk ranks rank n = true) (hp : p = page) : nC2 pL ranks xs rank p n = bcross pL b n := by
  unfold nC2; rw [hn, Bool.true_and, hp, h.get.1]
theorem nE_yes {ranks : Nat} {rank n : Int} (h : nE ranks rank n = 0) : nOk ranks rank n = true := by
  unfold nE at h; split at h
  · assumption
  · cases h
theorem nE_no {ranks : Nat} {rank n : Int} (h : ¬ nE ranks rank n = 0) : nOk ranks rank n = false := by
  unfold nE at h; split at h
  · exact absurd rfl h
  · rename_i e; exact Bool.eq_false_iff.2 e
theorem nOk_n {ranks : Nat} {rank n : Int} (h : nOk ranks rank n = true) : 0 ≤ n := (of_decide_eq_true h).2
end Go.Proofs.Ytgpalgbdacoagaa
