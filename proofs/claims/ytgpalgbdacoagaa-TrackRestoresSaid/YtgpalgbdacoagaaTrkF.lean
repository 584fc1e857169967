/- A tracker's steps at any arguments; the document's example. -/
import Derived.Test.YtgpalgbdacoagaaTrkE
namespace Go.Proofs.Ytgpalgbdacoagaa
open Go Go.RowKit
set_option linter.unusedVariables false
set_option linter.unusedSimpArgs false

/-- What a tracker holds may be. -/
structure TOk (ranks room : Nat) (rE pE : Int) (rs : List Buk) (xs : List PairB) : Prop where
  n : rs.length = ranks
  m : xs.length ≤ room
  b : ∀ b ∈ rs, RB rE b
  c : ∀ x ∈ xs, RB pE x.2
structure TP (ranks room : Nat) (rL rE pL pE : Int) : Prop where
  r : RR rL rE
  p : RR pL pE
  m : room ≤ 256 ∧ ranks ≤ 8
  one : 1 ≤ room ∧ 1 ≤ ranks
def nOk (ranks : Nat) (rank n : Int) : Bool := decide ((0 ≤ rank ∧ rank < ((ranks : Nat) : Int)) ∧ 0 ≤ n)
def nRs (ranks : Nat) (rs : List Buk) (rank n : Int) : List Buk := if nOk ranks rank n = true then rs.set rank.toNat (bfill (rs.getD rank.toNat (0, 0)) n) else rs
def nXs (ranks room : Nat) (xs : List PairB) (rank page n : Int) : List PairB := if nOk ranks rank n = true then (putB room xs page (bfill (getB xs page) n)).1 else xs
def nC1 (rL : Int) (ranks : Nat) (rs : List Buk) (rank n : Int) : Bool := nOk ranks rank n && bcross rL (rs.getD rank.toNat (0, 0)) n
def nC2 (pL : Int) (ranks : Nat) (xs : List PairB) (rank page n : Int) : Bool := nOk ranks rank n && bcross pL (getB xs page) n
def nE (ranks : Nat) (rank n : Int) : Int := if nOk ranks rank n = true then 0 else 12
def rset (ranks : Nat) (rs : List Buk) (rank : Int) : List Buk := if 0 ≤ rank ∧ rank < ((ranks : Nat) : Int) then rs.set rank.toNat (0, 0) else rs
def rgetI (ranks : Nat) (rs : List Buk) (rank : Int) : Buk := if 0 ≤ rank ∧ rank < ((ranks : Nat) : Int) then rs.getD rank.toNat (0, 0) else (0, 0)
theorem all_set {α : Type} {P : α → Prop} {l : List α} (h : ∀ x ∈ l, P x) {k : Nat} {v : α} (hv : P v) : ∀ x ∈ l.set k v, P x := fun x hx => by
  rcases List.mem_or_eq_of_mem_set hx with h1 | h1
  · exact h x h1
  · rw [h1]; exact hv
theorem all_map {α : Type} {P : α → Prop} {f : α → α} {l : List α} (h : ∀ x ∈ l, P x) (hf : ∀ x, P x → P (f x)) : ∀ x ∈ l.map f, P x := fun x hx => by
  obtain ⟨y, hy, rfl⟩ := List.mem_map.1 hx
  exact hf y (h y hy)
theorem getD_ok {E : Int} (hE : 1 ≤ E) {rs : List Buk} (h : ∀ b ∈ rs, RB E b) (k : Nat) : RB E (rs.getD k (0, 0)) := by
  by_cases hk : k < rs.length
  · exact getD_all h hk _
  · have e : rs.getD k (0, 0) = (0, 0) := by simp [List.getD, List.getElem?_eq_none (show rs.length ≤ k by omega)]
    rw [e]; exact RB.zero hE
section
variable {ranks room : Nat} {rL rE pL pE : Int} {rs : List Buk} {xs : List PairB}
theorem TOk.note (hk : TOk ranks room rE pE rs xs) (hP : TP ranks room rL rE pL pE) (rank page n : Int) : TOk ranks room rE pE (nRs ranks rs rank n) (nXs ranks room xs rank page n) := by
  unfold nRs nXs
  by_cases h : nOk ranks rank n = true
  · rw [if_pos h, if_pos h]
    have hn : 0 ≤ n := (of_decide_eq_true h).2
    refine ⟨by rw [List.length_set]; exact hk.n, putB_len hk.m hP.one.1 _ _, all_set hk.b ((getD_ok hP.r.2.2.1 hk.b _).fill hn), fun x hx => ?_⟩
    rcases mem_putB hx with h1 | h1
    · exact hk.c x h1
    · rw [h1]; exact (getB_ok hP.p.2.2.1 hk.c _).fill hn
  · rw [if_neg h, if_neg h]; exact hk
theorem TOk.tick (hk : TOk ranks room rE pE rs xs) (hP : TP ranks room rL rE pL pE) : TOk ranks room rE pE (List.map (btick rE) rs) (List.map (tickX pE) xs) :=
  ⟨by rw [List.length_map]; exact hk.n, by rw [List.length_map]; exact hk.m, all_map hk.b fun x h => h.tick hP.r.2.2.1, all_map (P := fun x : PairB => RB pE x.2) hk.c fun x h => RB.tick h hP.p.2.2.1⟩
theorem TOk.reset (hk : TOk ranks room rE pE rs xs) (hP : TP ranks room rL rE pL pE) (rank : Int) : TOk ranks room rE pE (rset ranks rs rank) xs := by
  unfold rset; split
  · exact ⟨by rw [List.length_set]; exact hk.n, hk.m, all_set hk.b (RB.zero hP.r.2.2.1), hk.c⟩
  · exact hk
theorem TOk.drop (hk : TOk ranks room rE pE rs xs) (page : Int) : TOk ranks room rE pE rs (dropB xs page) :=
  ⟨hk.n, dropB_len hk.m _, hk.b, fun x hx => hk.c x (mem_dropB hx)⟩
theorem TOk.new (hP : TP ranks room rL rE pL pE) : TOk ranks room rE pE (List.replicate ranks (0, 0)) [] :=
  ⟨by simp, Nat.zero_le _, fun b hb => by rw [List.eq_of_mem_replicate hb]; exact RB.zero hP.r.2.2.1, fun x hx => by simp at hx⟩
end

theorem Note_any {p t gr : Nat} {sv : Value} {rs : List Buk} {xs : List PairB} {ranks room : Nat} {rL rE pL pE hv : Int} (rank page n : Int) (hk : TOk ranks room rE pE rs xs) (hP : TP ranks room rL rE pL pE) (w0 : World) (H0 : Hs (fps [.blk p #[.int .i64 rL, .int .i64 rE, .int .i64 pL, .int .i64 pE, .int .i64 ((room : Nat) : Int), .int .i64 hv, .slice (some ⟨gr, 0, none⟩) ranks ranks, .pointer (some ⟨t, 0, none⟩)] 187, .row (.slice (some ⟨gr, 0, none⟩) ranks ranks) 86 2 ranks (List.flatMap bukL rs), .blk t #[sv, .int .i64 ((room : Nat) : Int), .func (.func 103) #[] #[]] 228, .row (sv) 230 3 (List.length xs) (List.flatMap pairLB xs)]) w0 w0 [.blk p #[.int .i64 rL, .int .i64 rE, .int .i64 pL, .int .i64 pE, .int .i64 ((room : Nat) : Int), .int .i64 hv, .slice (some ⟨gr, 0, none⟩) ranks ranks, .pointer (some ⟨t, 0, none⟩)] 187, .row (.slice (some ⟨gr, 0, none⟩) ranks ranks) 86 2 ranks (List.flatMap bukL rs), .blk t #[sv, .int .i64 ((room : Nat) : Int), .func (.func 103) #[] #[]] 228, .row (sv) 230 3 (List.length xs) (List.flatMap pairLB xs)]) :
    Calls Try.prog 41 #[.pointer (some ⟨p, 0, none⟩), .int .i64 rank, .int .i64 page, .int .i64 n] w0 fun e w' => ∃ sv', e = .returned (.tuple #[.agg #[.bool (nC1 rL ranks rs rank n), .bool (nC2 pL ranks xs rank page n)], .int .i64 (nE ranks rank n)]) ∧ Hs (fps [.blk p #[.int .i64 rL, .int .i64 rE, .int .i64 pL, .int .i64 pE, .int .i64 ((room : Nat) : Int), .int .i64 hv, .slice (some ⟨gr, 0, none⟩) ranks ranks, .pointer (some ⟨t, 0, none⟩)] 187, .row (.slice (some ⟨gr, 0, none⟩) ranks ranks) 86 2 ranks (List.flatMap bukL rs), .blk t #[sv, .int .i64 ((room : Nat) : Int), .func (.func 103) #[] #[]] 228, .row (sv) 230 3 (List.length xs) (List.flatMap pairLB xs)]) w0 w' [.blk p #[.int .i64 rL, .int .i64 rE, .int .i64 pL, .int .i64 pE, .int .i64 ((room : Nat) : Int), .int .i64 hv, .slice (some ⟨gr, 0, none⟩) ranks ranks, .pointer (some ⟨t, 0, none⟩)] 187, .row (.slice (some ⟨gr, 0, none⟩) ranks ranks) 86 2 ranks (List.flatMap bukL (nRs ranks rs rank n)), .blk t #[sv', .int .i64 ((room : Nat) : Int), .func (.func 103) #[] #[]] 228, .row (sv') 230 3 (List.length (nXs ranks room xs rank page n)) (List.flatMap pairLB (nXs ranks room xs rank page n))] := by
  unfold nC1 nC2 nE nRs nXs
  by_cases h : nOk ranks rank n = true
  · have h' := of_decide_eq_true h
    obtain ⟨i, rfl⟩ := Int.eq_ofNat_of_zero_le h'.1.1
    simp only [if_pos h]
    rw [h, Bool.true_and, Bool.true_and]
    exact Note_yes i page n hk.n hk.m hP.m hP.r hP.p hk.b hk.c (by omega) h'.2 hP.one.1 w0 H0
  · have h' := of_decide_eq_false (Bool.eq_false_iff.2 h)
    simp only [if_neg h]
    rw [Bool.eq_false_iff.2 h, Bool.false_and, Bool.false_and]
    have hno : (rank < 0 ∨ ((ranks : Nat) : Int) ≤ rank) ∨ n < 0 := by omega
    exact (Note_no rank page n hno w0 (H0.roOf [0] [.blk p #[.int .i64 rL, .int .i64 rE, .int .i64 pL, .int .i64 pE, .int .i64 ((room : Nat) : Int), .int .i64 hv, .slice (some ⟨gr, 0, none⟩) ranks ranks, .pointer (some ⟨t, 0, none⟩)] 187] (by kernel_rfl))).mono fun e w' q => ⟨_, q.1, H0.via q.2⟩
theorem Tick_any {p t gr : Nat} {sv : Value} {rs : List Buk} {xs : List PairB} {ranks room : Nat} {rL rE pL pE hv : Int} (hk : TOk ranks room rE pE rs xs) (hP : TP ranks room rL rE pL pE) (w0 : World) (H0 : Hs (fps [.blk p #[.int .i64 rL, .int .i64 rE, .int .i64 pL, .int .i64 pE, .int .i64 ((room : Nat) : Int), .int .i64 hv, .slice (some ⟨gr, 0, none⟩) ranks ranks, .pointer (some ⟨t, 0, none⟩)] 187, .row (.slice (some ⟨gr, 0, none⟩) ranks ranks) 86 2 ranks (List.flatMap bukL rs), .blk t #[sv, .int .i64 ((room : Nat) : Int), .func (.func 103) #[] #[]] 228, .row (sv) 230 3 (List.length xs) (List.flatMap pairLB xs)]) w0 w0 [.blk p #[.int .i64 rL, .int .i64 rE, .int .i64 pL, .int .i64 pE, .int .i64 ((room : Nat) : Int), .int .i64 hv, .slice (some ⟨gr, 0, none⟩) ranks ranks, .pointer (some ⟨t, 0, none⟩)] 187, .row (.slice (some ⟨gr, 0, none⟩) ranks ranks) 86 2 ranks (List.flatMap bukL rs), .blk t #[sv, .int .i64 ((room : Nat) : Int), .func (.func 103) #[] #[]] 228, .row (sv) 230 3 (List.length xs) (List.flatMap pairLB xs)]) :
    Calls Try.prog 43 #[.pointer (some ⟨p, 0, none⟩)] w0 fun e w' => ∃ sv', e = .returned (.tuple #[]) ∧ Hs (fps [.blk p #[.int .i64 rL, .int .i64 rE, .int .i64 pL, .int .i64 pE, .int .i64 ((room : Nat) : Int), .int .i64 hv, .slice (some ⟨gr, 0, none⟩) ranks ranks, .pointer (some ⟨t, 0, none⟩)] 187, .row (.slice (some ⟨gr, 0, none⟩) ranks ranks) 86 2 ranks (List.flatMap bukL rs), .blk t #[sv, .int .i64 ((room : Nat) : Int), .func (.func 103) #[] #[]] 228, .row (sv) 230 3 (List.length xs) (List.flatMap pairLB xs)]) w0 w' [.blk p #[.int .i64 rL, .int .i64 rE, .int .i64 pL, .int .i64 pE, .int .i64 ((room : Nat) : Int), .int .i64 hv, .slice (some ⟨gr, 0, none⟩) ranks ranks, .pointer (some ⟨t, 0, none⟩)] 187, .row (.slice (some ⟨gr, 0, none⟩) ranks ranks) 86 2 ranks (List.flatMap bukL (List.map (btick rE) rs)), .blk t #[sv', .int .i64 ((room : Nat) : Int), .func (.func 103) #[] #[]] 228, .row (sv') 230 3 (List.length (List.map (tickX pE) xs)) (List.flatMap pairLB (List.map (tickX pE) xs))] := TkTick hk.n hk.m hP.m hP.r hP.p hk.b hk.c w0 H0

set_option maxRecDepth 100000 in
set_option maxHeartbeats 4000000 in
theorem Reset_yes {p t gr : Nat} {rs : List Buk} {ranks room : Nat} {rL rE pL pE hv : Int} (i : Nat) (hi : i < ranks) (hrs : rs.length = ranks) (w0 : World) (H0 : Hs (fps [.blk p #[.int .i64 rL, .int .i64 rE, .int .i64 pL, .int .i64 pE, .int .i64 ((room : Nat) : Int), .int .i64 hv, .slice (some ⟨gr, 0, none⟩) ranks ranks, .pointer (some ⟨t, 0, none⟩)] 187, .row (.slice (some ⟨gr, 0, none⟩) ranks ranks) 86 2 ranks (List.flatMap bukL rs)]) w0 w0 [.blk p #[.int .i64 rL, .int .i64 rE, .int .i64 pL, .int .i64 pE, .int .i64 ((room : Nat) : Int), .int .i64 hv, .slice (some ⟨gr, 0, none⟩) ranks ranks, .pointer (some ⟨t, 0, none⟩)] 187, .row (.slice (some ⟨gr, 0, none⟩) ranks ranks) 86 2 ranks (List.flatMap bukL rs)]) :
    Calls Try.prog 120 #[.pointer (some ⟨p, 0, none⟩), .int .i64 ((i : Nat) : Int)] w0 fun e w' => e = .returned (.tuple #[]) ∧ Hs (fps [.blk p #[.int .i64 rL, .int .i64 rE, .int .i64 pL, .int .i64 pE, .int .i64 ((room : Nat) : Int), .int .i64 hv, .slice (some ⟨gr, 0, none⟩) ranks ranks, .pointer (some ⟨t, 0, none⟩)] 187, .row (.slice (some ⟨gr, 0, none⟩) ranks ranks) 86 2 ranks (List.flatMap bukL rs)]) w0 w' [.blk p #[.int .i64 rL, .int .i64 rE, .int .i64 pL, .int .i64 pE, .int .i64 ((room : Nat) : Int), .int .i64 hv, .slice (some ⟨gr, 0, none⟩) ranks ranks, .pointer (some ⟨t, 0, none⟩)] 187, .row (.slice (some ⟨gr, 0, none⟩) ranks ranks) 86 2 ranks (List.flatMap bukL (rs.set i (0, 0)))] := by
  refine x_enter Try.func120 rfl #[.pointer (some ⟨p, 0, none⟩), .int .i64 ((i : Nat) : Int), undef, undef, undef, undef, undef, undef, undef, undef, undef, undef, undef, undef] (by kernel_rfl) ?_
  have H := H0
  refine x_seq ?_
  refine x_region ?_
  refine x_val (.pointer (some ⟨p, 0, none⟩)) (by kernel_rfl) rfl (by kernel_rfl) ?_
  refine x_val (.int .i64 ((i : Nat) : Int)) (by kernel_rfl) rfl (by kernel_rfl) ?_
  refine x_callB (.bool true) H (by kernel_rfl) rfl (by kernel_rfl) (by have h := has_any ((i : Nat) : Int) _ (H.roOf [0] [.blk p #[.int .i64 rL, .int .i64 rE, .int .i64 pL, .int .i64 pE, .int .i64 ((room : Nat) : Int), .int .i64 hv, .slice (some ⟨gr, 0, none⟩) ranks ranks, .pointer (some ⟨t, 0, none⟩)] 187] (by kernel_rfl)); rw [decide_eq_true (show 0 ≤ ((i : Nat) : Int) ∧ ((i : Nat) : Int) < ((ranks : Nat) : Int) by omega)] at h; exact h) ?_
  clear H
  intro v1 H
  refine x_nil ?_
  refine x_then ?_
  refine x_t (by kernel_rfl) ?_
  refine x_region ?_
  refine x_val (.pointer (some ⟨p, 0, none⟩)) (by kernel_rfl) rfl (by kernel_rfl) ?_
  refine x_val (.pointer (some ⟨p, 0, none⟩)) (by kernel_rfl) rfl (by kernel_rfl) ?_
  refine x_val (.pointer (some ⟨p, 6, none⟩)) (by kernel_rfl) rfl (by kernel_rfl) ?_
  refine x_load1 H 0 p 6 _ _ (.slice (some ⟨gr, 0, none⟩) ranks ranks) rfl (by kernel_rfl) (by kernel_rfl) rfl (by kernel_rfl) ?_
  refine x_val (.int .i64 ((i : Nat) : Int)) (by kernel_rfl) rfl (by kernel_rfl) ?_
  refine x_val (.agg #[.int .i64 0, .int .i64 0]) (by kernel_rfl) rfl (by kernel_rfl) ?_
  refine x_ix (t := 145) gr 0 i ranks ranks 86 2 (i * 2) (by omega) (by omega) (by kernel_rfl) (by kernel_rfl) (by kernel_rfl) rfl (by kernel_rfl) ?_
  refine x_storeRow (t := 86) (v := .agg #[.int .i64 0, .int .i64 0]) H 1 gr (i * 2) ranks ranks 86 2 (List.flatMap bukL rs) [.int .i64 0, .int .i64 0] (List.flatMap bukL (rs.set i (0, 0))) [.blk p #[.int .i64 rL, .int .i64 rE, .int .i64 pL, .int .i64 pE, .int .i64 ((room : Nat) : Int), .int .i64 hv, .slice (some ⟨gr, 0, none⟩) ranks ranks, .pointer (some ⟨t, 0, none⟩)] 187, .row (.slice (some ⟨gr, 0, none⟩) ranks ranks) 86 2 ranks (List.flatMap bukL (rs.set i (0, 0)))] rfl (by simp only [List.length_cons, List.length_nil]; omega) (by kernel_rfl) (setFlat bukLen (by omega) (0, 0)) rfl (by kernel_rfl) rfl (by kernel_rfl) (by kernel_rfl) (by kernel_rfl) ?_
  clear H
  intro v2 H
  refine x_nil ?_
  refine x_end (.tuple #[]) (by kernel_rfl) (by kernel_rfl) ?_
  replace H := H.pick [0, 1] [.blk p #[.int .i64 rL, .int .i64 rE, .int .i64 pL, .int .i64 pE, .int .i64 ((room : Nat) : Int), .int .i64 hv, .slice (some ⟨gr, 0, none⟩) ranks ranks, .pointer (some ⟨t, 0, none⟩)] 187, .row (.slice (some ⟨gr, 0, none⟩) ranks ranks) 86 2 ranks (List.flatMap bukL (rs.set i (0, 0)))] (by decide) (by kernel_rfl)
  exact ⟨rfl, H⟩

set_option maxRecDepth 100000 in
set_option maxHeartbeats 4000000 in
theorem Reset_no {p t gr : Nat} {rs : List Buk} {ranks room : Nat} {rL rE pL pE hv : Int} (rank : Int) (hi : rank < 0 ∨ ((ranks : Nat) : Int) ≤ rank) (w0 : World) (H0 : Hs (fps [.blk p #[.int .i64 rL, .int .i64 rE, .int .i64 pL, .int .i64 pE, .int .i64 ((room : Nat) : Int), .int .i64 hv, .slice (some ⟨gr, 0, none⟩) ranks ranks, .pointer (some ⟨t, 0, none⟩)] 187, .row (.slice (some ⟨gr, 0, none⟩) ranks ranks) 86 2 ranks (List.flatMap bukL rs)]) w0 w0 [.blk p #[.int .i64 rL, .int .i64 rE, .int .i64 pL, .int .i64 pE, .int .i64 ((room : Nat) : Int), .int .i64 hv, .slice (some ⟨gr, 0, none⟩) ranks ranks, .pointer (some ⟨t, 0, none⟩)] 187, .row (.slice (some ⟨gr, 0, none⟩) ranks ranks) 86 2 ranks (List.flatMap bukL rs)]) :
    Calls Try.prog 120 #[.pointer (some ⟨p, 0, none⟩), .int .i64 rank] w0 fun e w' => e = .returned (.tuple #[]) ∧ Hs (fps [.blk p #[.int .i64 rL, .int .i64 rE, .int .i64 pL, .int .i64 pE, .int .i64 ((room : Nat) : Int), .int .i64 hv, .slice (some ⟨gr, 0, none⟩) ranks ranks, .pointer (some ⟨t, 0, none⟩)] 187, .row (.slice (some ⟨gr, 0, none⟩) ranks ranks) 86 2 ranks (List.flatMap bukL rs)]) w0 w' [.blk p #[.int .i64 rL, .int .i64 rE, .int .i64 pL, .int .i64 pE, .int .i64 ((room : Nat) : Int), .int .i64 hv, .slice (some ⟨gr, 0, none⟩) ranks ranks, .pointer (some ⟨t, 0, none⟩)] 187, .row (.slice (some ⟨gr, 0, none⟩) ranks ranks) 86 2 ranks (List.flatMap bukL rs)] := by
  refine x_enter Try.func120 rfl #[.pointer (some ⟨p, 0, none⟩), .int .i64 rank, undef, undef, undef, undef, undef, undef, undef, undef, undef, undef, undef, undef] (by kernel_rfl) ?_
  have H := H0
  refine x_seq ?_
  refine x_region ?_
  refine x_val (.pointer (some ⟨p, 0, none⟩)) (by kernel_rfl) rfl (by kernel_rfl) ?_
  refine x_val (.int .i64 rank) (by kernel_rfl) rfl (by kernel_rfl) ?_
  refine x_callB (.bool false) H (by kernel_rfl) rfl (by kernel_rfl) (by have h := has_any rank _ (H.roOf [0] [.blk p #[.int .i64 rL, .int .i64 rE, .int .i64 pL, .int .i64 pE, .int .i64 ((room : Nat) : Int), .int .i64 hv, .slice (some ⟨gr, 0, none⟩) ranks ranks, .pointer (some ⟨t, 0, none⟩)] 187] (by kernel_rfl)); rw [decide_eq_false (by omega)] at h; exact h) ?_
  clear H
  intro v1 H
  refine x_nil ?_
  refine x_then ?_
  refine x_f (by kernel_rfl) ?_
  refine x_skipc ?_
  refine x_end (.tuple #[]) (by kernel_rfl) (by kernel_rfl) ?_
  exact ⟨rfl, H⟩

theorem Reset_any {p t gr : Nat} {rs : List Buk} {ranks room : Nat} {rL rE pL pE hv : Int} (rank : Int) (hrs : rs.length = ranks) (w0 : World) (H0 : Hs (fps [.blk p #[.int .i64 rL, .int .i64 rE, .int .i64 pL, .int .i64 pE, .int .i64 ((room : Nat) : Int), .int .i64 hv, .slice (some ⟨gr, 0, none⟩) ranks ranks, .pointer (some ⟨t, 0, none⟩)] 187, .row (.slice (some ⟨gr, 0, none⟩) ranks ranks) 86 2 ranks (List.flatMap bukL rs)]) w0 w0 [.blk p #[.int .i64 rL, .int .i64 rE, .int .i64 pL, .int .i64 pE, .int .i64 ((room : Nat) : Int), .int .i64 hv, .slice (some ⟨gr, 0, none⟩) ranks ranks, .pointer (some ⟨t, 0, none⟩)] 187, .row (.slice (some ⟨gr, 0, none⟩) ranks ranks) 86 2 ranks (List.flatMap bukL rs)]) :
    Calls Try.prog 120 #[.pointer (some ⟨p, 0, none⟩), .int .i64 rank] w0 fun e w' => e = .returned (.tuple #[]) ∧ Hs (fps [.blk p #[.int .i64 rL, .int .i64 rE, .int .i64 pL, .int .i64 pE, .int .i64 ((room : Nat) : Int), .int .i64 hv, .slice (some ⟨gr, 0, none⟩) ranks ranks, .pointer (some ⟨t, 0, none⟩)] 187, .row (.slice (some ⟨gr, 0, none⟩) ranks ranks) 86 2 ranks (List.flatMap bukL rs)]) w0 w' [.blk p #[.int .i64 rL, .int .i64 rE, .int .i64 pL, .int .i64 pE, .int .i64 ((room : Nat) : Int), .int .i64 hv, .slice (some ⟨gr, 0, none⟩) ranks ranks, .pointer (some ⟨t, 0, none⟩)] 187, .row (.slice (some ⟨gr, 0, none⟩) ranks ranks) 86 2 ranks (List.flatMap bukL (rset ranks rs rank))] := by
  unfold rset
  by_cases h : 0 ≤ rank ∧ rank < ((ranks : Nat) : Int)
  · obtain ⟨i, rfl⟩ := Int.eq_ofNat_of_zero_le h.1
    rw [if_pos h]
    exact Reset_yes i (by omega) hrs w0 H0
  · rw [if_neg h]; exact Reset_no rank (by omega) w0 H0
theorem Rank_any {p t gr : Nat} {rs : List Buk} {ranks room : Nat} {rL rE pL pE hv : Int} (rank : Int) (hrs : rs.length = ranks) (w0 : World) (hR : Ro w0 [.blk p #[.int .i64 rL, .int .i64 rE, .int .i64 pL, .int .i64 pE, .int .i64 ((room : Nat) : Int), .int .i64 hv, .slice (some ⟨gr, 0, none⟩) ranks ranks, .pointer (some ⟨t, 0, none⟩)] 187, .row (.slice (some ⟨gr, 0, none⟩) ranks ranks) 86 2 ranks (List.flatMap bukL rs)]) :
    Calls Try.prog 45 #[.pointer (some ⟨p, 0, none⟩), .int .i64 rank] w0 fun e w' => e = .returned (.agg #[.int .i64 (rgetI ranks rs rank).1, .int .i64 (rgetI ranks rs rank).2]) ∧ Below w0.heap.size w0 w' := by
  unfold rgetI
  by_cases h : 0 ≤ rank ∧ rank < ((ranks : Nat) : Int)
  · obtain ⟨i, rfl⟩ := Int.eq_ofNat_of_zero_le h.1
    rw [if_pos h]
    exact Rank_yes i (by omega) hrs w0 hR
  · rw [if_neg h]; exact Rank_no rank (by omega) w0 (hR.pick [0] [.blk p #[.int .i64 rL, .int .i64 rE, .int .i64 pL, .int .i64 pE, .int .i64 ((room : Nat) : Int), .int .i64 hv, .slice (some ⟨gr, 0, none⟩) ranks ranks, .pointer (some ⟨t, 0, none⟩)] 187] (by kernel_rfl))

set_option maxRecDepth 100000 in
set_option maxHeartbeats 4000000 in
theorem anchor18 (w0 : World) :
    Calls Try.prog 39 #[] w0 fun e w' => e = .returned (.bool true) ∧ Below w0.heap.size w0 w' := by
  refine x_enter Try.func39 rfl #[undef, undef, undef, undef, undef, undef, undef, undef, undef, undef, undef, undef, undef, undef, undef, undef, undef, undef, undef, undef, undef, undef, undef, undef, undef, undef, undef, undef, undef, undef, undef, undef, undef, undef, undef, undef, undef, undef, undef, undef, undef, undef, undef, undef, undef, undef, undef, undef, undef, undef, undef, undef, undef] (by kernel_rfl) ?_
  have H := Hs.nil w0
  refine x_seq ?_
  refine x_region ?_
  refine x_val (.bool false) (by kernel_rfl) rfl (by kernel_rfl) ?_
  refine x_nil ?_
  refine x_then ?_
  refine x_seq ?_
  refine x_region ?_
  refine x_val (.agg #[.int .i64 2, .int .i64 9]) (by kernel_rfl) rfl (by kernel_rfl) ?_
  refine x_box H #[.int .i64 0, .int .i64 0] 78 (by kernel_rfl) rfl (by kernel_rfl) ?_
  clear H
  intro v1 g1 H
  refine x_store (t := 78) (v := .agg #[.int .i64 2, .int .i64 9]) H 0 g1 0 _ #[.int .i64 2, .int .i64 9] 78 [.int .i64 2, .int .i64 9] _ rfl rfl (by kernel_rfl) (by kernel_rfl) (by kernel_rfl) rfl (by kernel_rfl) (by kernel_rfl) (by kernel_rfl) (by kernel_rfl) ?_
  clear H
  intro v2 H
  refine x_nil ?_
  refine x_then ?_
  refine x_seq ?_
  refine x_region ?_
  refine x_loadn (t := 78) H 0 g1 0 _ _ [.int .i64 2, .int .i64 9] rfl (by kernel_rfl) (by kernel_rfl) rfl (by kernel_rfl) (by kernel_rfl) ?_
  refine x_loadn (t := 78) H 0 g1 0 _ _ [.int .i64 2, .int .i64 9] rfl (by kernel_rfl) (by kernel_rfl) rfl (by kernel_rfl) (by kernel_rfl) ?_
  refine x_val (.agg #[.int .i64 2, .int .i64 9, .int .i64 2, .int .i64 9, .int .i64 1, .int .i64 1]) (by kernel_rfl) rfl (by kernel_rfl) ?_
  refine x_call (by kernel_rfl) rfl (by kernel_rfl) (TkNew_yes 2 9 2 9 1 1 1 ⟨⟨by decide, by decide, by decide, by decide⟩, ⟨by decide, by decide, by decide, by decide⟩, ⟨by decide, by decide⟩, ⟨by decide, by decide⟩⟩ (by decide) (by decide) _) ?_
  rintro _ v3 ⟨p, gr, t, rfl, hN'⟩
  refine ⟨_, rfl, ?_⟩
  replace H := H.more hN'
  clear hN'
  replace H : Hs [] w0 _ [.blk p #[.int .i64 2, .int .i64 9, .int .i64 2, .int .i64 9, .int .i64 ((1 : Nat) : Int), .int .i64 1, .slice (some ⟨gr, 0, none⟩) 1 1, .pointer (some ⟨t, 0, none⟩)] 187, .row (.slice (some ⟨gr, 0, none⟩) 1 1) 86 2 1 (List.flatMap bukL (List.replicate 1 (0, 0))), .blk t #[.slice none 0 0, .int .i64 ((1 : Nat) : Int), .func (.func 103) #[] #[]] 228, .row (.slice none 0 0) 230 3 (List.length ([] : List PairB)) (List.flatMap pairLB ([] : List PairB)), .blk g1 #[.int .i64 2, .int .i64 9] 78] := H
  have hP : TP 1 1 2 9 2 9 := ⟨⟨by decide, by decide, by decide, by decide⟩, ⟨by decide, by decide, by decide, by decide⟩, ⟨by decide, by decide⟩, ⟨by decide, by decide⟩⟩
  have hk0 := TOk.new hP
  have hk1 := hk0.note hP 0 7 1
  have hk2 := hk1.note hP 0 8 1
  refine x_val (.tuple #[.pointer (some ⟨p, 0, none⟩), .int .i64 0]) (by kernel_rfl) rfl (by kernel_rfl) ?_
  refine x_val (.pointer (some ⟨p, 0, none⟩)) (by kernel_rfl) rfl (by kernel_rfl) ?_
  refine x_val (.int .i64 0) (by kernel_rfl) rfl (by kernel_rfl) ?_
  refine x_val (.pointer (some ⟨p, 0, none⟩)) (by kernel_rfl) rfl (by kernel_rfl) ?_
  refine x_val (.int .i64 0) (by kernel_rfl) rfl (by kernel_rfl) ?_
  refine x_nil ?_
  refine x_then ?_
  refine x_seq ?_
  refine x_seq ?_
  refine x_region ?_
  refine x_val (.int .i64 0) (by kernel_rfl) rfl (by kernel_rfl) ?_
  refine x_val (.bool false) (by kernel_rfl) rfl (by kernel_rfl) ?_
  refine x_val (.bool false) (by kernel_rfl) rfl (by kernel_rfl) ?_
  refine x_val (.pointer (some ⟨p, 0, none⟩)) (by kernel_rfl) rfl (by kernel_rfl) ?_
  refine x_val (.bool false) (by kernel_rfl) rfl (by kernel_rfl) ?_
  refine x_val (.bool false) (by kernel_rfl) rfl (by kernel_rfl) ?_
  refine x_nil ?_
  refine x_then ?_
  refine x_f (by kernel_rfl) ?_
  refine x_skipc ?_
  refine x_then ?_
  refine x_seq ?_
  refine x_region ?_
  refine x_val (.pointer (some ⟨p, 0, none⟩)) (by kernel_rfl) rfl (by kernel_rfl) ?_
  refine x_call (by kernel_rfl) rfl (by kernel_rfl) (Hs.useE (A := [.blk p #[.int .i64 2, .int .i64 9, .int .i64 2, .int .i64 9, .int .i64 ((1 : Nat) : Int), .int .i64 1, .slice (some ⟨gr, 0, none⟩) 1 1, .pointer (some ⟨t, 0, none⟩)] 187, .row (.slice (some ⟨gr, 0, none⟩) 1 1) 86 2 1 (List.flatMap bukL (List.replicate 1 (0, 0))), .blk t #[.slice none 0 0, .int .i64 ((1 : Nat) : Int), .func (.func 103) #[] #[]] 228, .row (.slice none 0 0) 230 3 (List.length ([] : List PairB)) (List.flatMap pairLB ([] : List PairB))]) (R := [.blk g1 #[.int .i64 2, .int .i64 9] 78]) (fun svn => [.blk p #[.int .i64 2, .int .i64 9, .int .i64 2, .int .i64 9, .int .i64 ((1 : Nat) : Int), .int .i64 1, .slice (some ⟨gr, 0, none⟩) 1 1, .pointer (some ⟨t, 0, none⟩)] 187, .row (.slice (some ⟨gr, 0, none⟩) 1 1) 86 2 1 (List.flatMap bukL (nRs 1 (List.replicate 1 (0, 0)) 0 1)), .blk t #[svn, .int .i64 ((1 : Nat) : Int), .func (.func 103) #[] #[]] 228, .row (svn) 230 3 (List.length (nXs 1 1 ([] : List PairB) 0 7 1)) (List.flatMap pairLB (nXs 1 1 ([] : List PairB) 0 7 1))]) (fun _ => .tuple #[.agg #[.bool false, .bool false], .int .i64 0]) (H.pick [0, 1, 2, 3, 4] _ (by decide) (by kernel_rfl)) (fun h => Note_any (hv := 1) 0 7 1 hk0 hP _ h)) ?_
  rintro _ v4 ⟨svn, rfl, H'⟩
  refine ⟨_, rfl, ?_⟩
  clear H
  have H : Hs [] w0 _ [.blk p #[.int .i64 2, .int .i64 9, .int .i64 2, .int .i64 9, .int .i64 ((1 : Nat) : Int), .int .i64 1, .slice (some ⟨gr, 0, none⟩) 1 1, .pointer (some ⟨t, 0, none⟩)] 187, .row (.slice (some ⟨gr, 0, none⟩) 1 1) 86 2 1 (List.flatMap bukL (nRs 1 (List.replicate 1 (0, 0)) 0 1)), .blk t #[svn, .int .i64 ((1 : Nat) : Int), .func (.func 103) #[] #[]] 228, .row (svn) 230 3 (List.length (nXs 1 1 ([] : List PairB) 0 7 1)) (List.flatMap pairLB (nXs 1 1 ([] : List PairB) 0 7 1)), .blk g1 #[.int .i64 2, .int .i64 9] 78] := H'
  clear H'
  refine x_val (.tuple #[.agg #[.bool false, .bool false], .int .i64 0]) (by kernel_rfl) rfl (by kernel_rfl) ?_
  refine x_val (.agg #[.bool false, .bool false]) (by kernel_rfl) rfl (by kernel_rfl) ?_
  refine x_val (.int .i64 0) (by kernel_rfl) rfl (by kernel_rfl) ?_
  refine x_box H #[.bool false, .bool false] 90 (by kernel_rfl) rfl (by kernel_rfl) ?_
  clear H
  intro v5 g2 H
  refine x_store (t := 90) (v := .agg #[.bool false, .bool false]) H 0 g2 0 _ #[.bool false, .bool false] 90 [.bool false, .bool false] _ rfl rfl (by kernel_rfl) (by kernel_rfl) (by kernel_rfl) rfl (by kernel_rfl) (by kernel_rfl) (by kernel_rfl) (by kernel_rfl) ?_
  clear H
  intro v6 H
  refine x_val (.int .i64 0) (by kernel_rfl) rfl (by kernel_rfl) ?_
  refine x_nil ?_
  refine x_then ?_
  refine x_seq ?_
  refine x_region ?_
  refine x_val (.pointer (some ⟨p, 0, none⟩)) (by kernel_rfl) rfl (by kernel_rfl) ?_
  refine x_call (by kernel_rfl) rfl (by kernel_rfl) (Hs.useE (A := [.blk p #[.int .i64 2, .int .i64 9, .int .i64 2, .int .i64 9, .int .i64 ((1 : Nat) : Int), .int .i64 1, .slice (some ⟨gr, 0, none⟩) 1 1, .pointer (some ⟨t, 0, none⟩)] 187, .row (.slice (some ⟨gr, 0, none⟩) 1 1) 86 2 1 (List.flatMap bukL (nRs 1 (List.replicate 1 (0, 0)) 0 1)), .blk t #[svn, .int .i64 ((1 : Nat) : Int), .func (.func 103) #[] #[]] 228, .row (svn) 230 3 (List.length (nXs 1 1 ([] : List PairB) 0 7 1)) (List.flatMap pairLB (nXs 1 1 ([] : List PairB) 0 7 1))]) (R := [.blk g2 #[.bool false, .bool false] 90, .blk g1 #[.int .i64 2, .int .i64 9] 78]) (fun svn => [.blk p #[.int .i64 2, .int .i64 9, .int .i64 2, .int .i64 9, .int .i64 ((1 : Nat) : Int), .int .i64 1, .slice (some ⟨gr, 0, none⟩) 1 1, .pointer (some ⟨t, 0, none⟩)] 187, .row (.slice (some ⟨gr, 0, none⟩) 1 1) 86 2 1 (List.flatMap bukL (nRs 1 (nRs 1 (List.replicate 1 (0, 0)) 0 1) 0 1)), .blk t #[svn, .int .i64 ((1 : Nat) : Int), .func (.func 103) #[] #[]] 228, .row (svn) 230 3 (List.length (nXs 1 1 (nXs 1 1 ([] : List PairB) 0 7 1) 0 8 1)) (List.flatMap pairLB (nXs 1 1 (nXs 1 1 ([] : List PairB) 0 7 1) 0 8 1))]) (fun _ => .tuple #[.agg #[.bool true, .bool false], .int .i64 0]) (H.pick [1, 2, 3, 4, 0, 5] _ (by decide) (by kernel_rfl)) (fun h => Note_any (hv := 1) 0 8 1 hk1 hP _ h)) ?_
  rintro _ v7 ⟨svn, rfl, H'⟩
  refine ⟨_, rfl, ?_⟩
  clear H
  have H : Hs [] w0 _ [.blk p #[.int .i64 2, .int .i64 9, .int .i64 2, .int .i64 9, .int .i64 ((1 : Nat) : Int), .int .i64 1, .slice (some ⟨gr, 0, none⟩) 1 1, .pointer (some ⟨t, 0, none⟩)] 187, .row (.slice (some ⟨gr, 0, none⟩) 1 1) 86 2 1 (List.flatMap bukL (nRs 1 (nRs 1 (List.replicate 1 (0, 0)) 0 1) 0 1)), .blk t #[svn, .int .i64 ((1 : Nat) : Int), .func (.func 103) #[] #[]] 228, .row (svn) 230 3 (List.length (nXs 1 1 (nXs 1 1 ([] : List PairB) 0 7 1) 0 8 1)) (List.flatMap pairLB (nXs 1 1 (nXs 1 1 ([] : List PairB) 0 7 1) 0 8 1)), .blk g2 #[.bool false, .bool false] 90, .blk g1 #[.int .i64 2, .int .i64 9] 78] := H'
  clear H'
  refine x_val (.tuple #[.agg #[.bool true, .bool false], .int .i64 0]) (by kernel_rfl) rfl (by kernel_rfl) ?_
  refine x_val (.agg #[.bool true, .bool false]) (by kernel_rfl) rfl (by kernel_rfl) ?_
  refine x_val (.int .i64 0) (by kernel_rfl) rfl (by kernel_rfl) ?_
  refine x_box H #[.bool false, .bool false] 90 (by kernel_rfl) rfl (by kernel_rfl) ?_
  clear H
  intro v8 g3 H
  refine x_store (t := 90) (v := .agg #[.bool true, .bool false]) H 0 g3 0 _ #[.bool true, .bool false] 90 [.bool true, .bool false] _ rfl rfl (by kernel_rfl) (by kernel_rfl) (by kernel_rfl) rfl (by kernel_rfl) (by kernel_rfl) (by kernel_rfl) (by kernel_rfl) ?_
  clear H
  intro v9 H
  refine x_val (.int .i64 0) (by kernel_rfl) rfl (by kernel_rfl) ?_
  refine x_nil ?_
  refine x_then ?_
  refine x_seq ?_
  refine x_region ?_
  refine x_val (.int .i64 0) (by kernel_rfl) rfl (by kernel_rfl) ?_
  refine x_val (.bool true) (by kernel_rfl) rfl (by kernel_rfl) ?_
  refine x_val (.bool true) (by kernel_rfl) rfl (by kernel_rfl) ?_
  refine x_val (.int .i64 0) (by kernel_rfl) rfl (by kernel_rfl) ?_
  refine x_val (.bool true) (by kernel_rfl) rfl (by kernel_rfl) ?_
  refine x_val (.bool true) (by kernel_rfl) rfl (by kernel_rfl) ?_
  refine x_val (.bool true) (by kernel_rfl) rfl (by kernel_rfl) ?_
  refine x_loadn (t := 90) H 5 g2 0 _ _ [.bool false, .bool false] rfl (by kernel_rfl) (by kernel_rfl) rfl (by kernel_rfl) (by kernel_rfl) ?_
  refine x_val (.agg #[.bool false, .bool false]) (by kernel_rfl) rfl (by kernel_rfl) ?_
  refine x_val (.bool true) (by kernel_rfl) rfl (run_eqS (t := 90) (x := .tmp 39) (y := .tmp 40) (xs := #[.bool false, .bool false]) (ys := #[.bool false, .bool false]) (B := true) (by kernel_rfl) (by kernel_rfl) (by kernel_rfl)) ?_
  refine x_val (.bool true) (by kernel_rfl) rfl (by kernel_rfl) ?_
  refine x_val (.bool true) (by kernel_rfl) rfl (by kernel_rfl) ?_
  refine x_loadn (t := 90) H 0 g3 0 _ _ [.bool true, .bool false] rfl (by kernel_rfl) (by kernel_rfl) rfl (by kernel_rfl) (by kernel_rfl) ?_
  refine x_val (.agg #[.bool true, .bool false]) (by kernel_rfl) rfl (by kernel_rfl) ?_
  refine x_val (.bool true) (by kernel_rfl) rfl (run_eqS (t := 90) (x := .tmp 44) (y := .tmp 45) (xs := #[.bool true, .bool false]) (ys := #[.bool true, .bool false]) (B := true) (by kernel_rfl) (by kernel_rfl) (by kernel_rfl)) ?_
  refine x_val (.bool true) (by kernel_rfl) rfl (by kernel_rfl) ?_
  refine x_val (.bool true) (by kernel_rfl) rfl (by kernel_rfl) ?_
  refine x_val (.pointer (some ⟨p, 0, none⟩)) (by kernel_rfl) rfl (by kernel_rfl) ?_
  refine x_callH (.bool (decide (lev (nRs 1 (nRs 1 (List.replicate 1 (0, 0)) 0 1) 0 1) + levX (nXs 1 1 (nXs 1 1 ([] : List PairB) 0 7 1) 0 8 1) = 0))) [.blk p #[.int .i64 2, .int .i64 9, .int .i64 2, .int .i64 9, .int .i64 ((1 : Nat) : Int), .int .i64 1, .slice (some ⟨gr, 0, none⟩) 1 1, .pointer (some ⟨t, 0, none⟩)] 187, .row (.slice (some ⟨gr, 0, none⟩) 1 1) 86 2 1 (List.flatMap bukL (nRs 1 (nRs 1 (List.replicate 1 (0, 0)) 0 1) 0 1)), .blk t #[svn, .int .i64 ((1 : Nat) : Int), .func (.func 103) #[] #[]] 228, .row (svn) 230 3 (List.length (nXs 1 1 (nXs 1 1 ([] : List PairB) 0 7 1) 0 8 1)) (List.flatMap pairLB (nXs 1 1 (nXs 1 1 ([] : List PairB) 0 7 1) 0 8 1)), .blk g3 #[.bool true, .bool false] 90, .blk g2 #[.bool false, .bool false] 90, .blk g1 #[.int .i64 2, .int .i64 9] 78] (by kernel_rfl) rfl (by kernel_rfl) (Hs.use (A := [.blk p #[.int .i64 2, .int .i64 9, .int .i64 2, .int .i64 9, .int .i64 ((1 : Nat) : Int), .int .i64 1, .slice (some ⟨gr, 0, none⟩) 1 1, .pointer (some ⟨t, 0, none⟩)] 187, .row (.slice (some ⟨gr, 0, none⟩) 1 1) 86 2 1 (List.flatMap bukL (nRs 1 (nRs 1 (List.replicate 1 (0, 0)) 0 1) 0 1)), .blk t #[svn, .int .i64 ((1 : Nat) : Int), .func (.func 103) #[] #[]] 228, .row (svn) 230 3 (List.length (nXs 1 1 (nXs 1 1 ([] : List PairB) 0 7 1) 0 8 1)) (List.flatMap pairLB (nXs 1 1 (nXs 1 1 ([] : List PairB) 0 7 1) 0 8 1))]) (R := [.blk g3 #[.bool true, .bool false] 90, .blk g2 #[.bool false, .bool false] 90, .blk g1 #[.int .i64 2, .int .i64 9] 78]) (H.pick [1, 2, 3, 4, 0, 5, 6] _ (by decide) (by kernel_rfl)) (fun h => Quiet_any (hv := 1) hk2.n hk2.m hP.m hk2.b hk2.c _ h)) ?_
  clear H
  intro v10 H
  refine x_val (.bool (!(decide (lev (nRs 1 (nRs 1 (List.replicate 1 (0, 0)) 0 1) 0 1) + levX (nXs 1 1 (nXs 1 1 ([] : List PairB) 0 7 1) 0 8 1) = 0)))) (by kernel_rfl) rfl (by kernel_rfl) ?_
  refine x_val (.bool (!(decide (lev (nRs 1 (nRs 1 (List.replicate 1 (0, 0)) 0 1) 0 1) + levX (nXs 1 1 (nXs 1 1 ([] : List PairB) 0 7 1) 0 8 1) = 0)))) (by kernel_rfl) rfl (by kernel_rfl) ?_
  refine x_val (.bool (!(decide (lev (nRs 1 (nRs 1 (List.replicate 1 (0, 0)) 0 1) 0 1) + levX (nXs 1 1 (nXs 1 1 ([] : List PairB) 0 7 1) 0 8 1) = 0)))) (by kernel_rfl) rfl (by kernel_rfl) ?_
  refine x_nil ?_
  refine x_then ?_
  refine x_retc ?_
  refine x_ret (.bool (!(decide (lev (nRs 1 (nRs 1 (List.replicate 1 (0, 0)) 0 1) 0 1) + levX (nXs 1 1 (nXs 1 1 ([] : List PairB) 0 7 1) 0 8 1) = 0)))) (by kernel_rfl) (by kernel_rfl) ?_
  exact ⟨rfl, H.below⟩

end Go.Proofs.Ytgpalgbdacoagaa
