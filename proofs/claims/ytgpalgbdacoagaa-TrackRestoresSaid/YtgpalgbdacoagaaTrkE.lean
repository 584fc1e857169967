/- A tracker's ticks; whether it is quiet; the document's example. -/
import Derived.Test.YtgpalgbdacoagaaTrkD
namespace Go.Proofs.Ytgpalgbdacoagaa
open Go Go.RowKit
set_option linter.unusedVariables false
set_option linter.unusedSimpArgs false

def tickX (pE : Int) (x : PairB) : PairB := (x.1, btick pE x.2)
def lev (l : List Buk) : Int := l.foldl (fun s b => s + b.1) 0
def levX (l : List PairB) : Int := l.foldl (fun s b => s + b.2.1) 0
theorem foldl_add {α : Type} (f : α → Int) (l : List α) : ∀ s, l.foldl (fun s b => s + f b) s = s + l.foldl (fun s b => s + f b) 0 := by
  induction l with
  | nil => intro s; simp
  | cons a l ih => intro s; rw [List.foldl_cons, List.foldl_cons, ih (s + f a), ih (0 + f a)]; omega
theorem lev_next (l : List Buk) (k : Nat) (h : k < l.length) : lev (l.take (k + 1)) = lev (l.take k) + (l.getD k (0, 0)).1 := by
  unfold lev; rw [List.take_succ_eq_append_getElem h, List.foldl_append]; simp [List.getD, h]
theorem lev_le {E : Int} : ∀ (l : List Buk), (∀ b ∈ l, RB E b) → 0 ≤ lev l ∧ lev l ≤ 65536 * l.length
  | [], _ => by simp [lev]
  | a :: l, h => by
    have ih := lev_le l fun b hb => h b (List.mem_cons_of_mem _ hb)
    have ha := h a List.mem_cons_self
    unfold RB at ha
    unfold lev at *
    rw [List.foldl_cons, foldl_add (fun b : Buk => b.1) l (0 + a.1), List.length_cons]
    have e : ((l.length + 1 : Nat) : Int) = (l.length : Int) + 1 := by omega
    rw [e]; omega
theorem wrap64 {n : Int} (h1 : -9223372036854775808 ≤ n) (h2 : n ≤ 9223372036854775807) : IntKind.i64.wrap n = n := i64ok ⟨h1, h2⟩
theorem levX_snoc (l : List PairB) (x : PairB) : levX (l ++ [x]) = levX l + x.2.1 := by
  unfold levX; rw [List.foldl_append]; rfl
theorem levX_le {E : Int} : ∀ (l : List PairB), (∀ x ∈ l, RB E x.2) → 0 ≤ levX l ∧ levX l ≤ 65536 * l.length
  | [], _ => by simp [levX]
  | a :: l, h => by
    have ih := levX_le l fun b hb => h b (List.mem_cons_of_mem _ hb)
    have ha := h a List.mem_cons_self
    unfold RB at ha
    unfold levX at *
    rw [List.foldl_cons, foldl_add (fun b : PairB => b.2.1) l (0 + a.2.1), List.length_cons]
    have e : ((l.length + 1 : Nat) : Int) = (l.length : Int) + 1 := by omega
    rw [e]; omega

set_option maxRecDepth 100000 in
set_option maxHeartbeats 4000000 in
theorem tick1 {p t gr b : Nat} {ranks room : Nat} {rL rE pL pE hv : Int} (k u v : Int) (hp : RR pL pE) (hb2 : RB pE (u, v)) (w0 : World) (hR : Ro w0 [.blk b #[.pointer (some ⟨p, 0, none⟩)] 82, .blk p #[.int .i64 rL, .int .i64 rE, .int .i64 pL, .int .i64 pE, .int .i64 ((room : Nat) : Int), .int .i64 hv, .slice (some ⟨gr, 0, none⟩) ranks ranks, .pointer (some ⟨t, 0, none⟩)] 187]) :
    Calls Try.prog 109 #[.int .i64 k, .agg #[.int .i64 u, .int .i64 v], .pointer (some ⟨b, 0, none⟩)] w0 fun e w' => e = .returned (.agg #[.int .i64 ((btick pE (u, v)).1), .int .i64 ((btick pE (u, v)).2)]) ∧ Below w0.heap.size w0 w' := by
  refine x_enter Try.func109 rfl #[.int .i64 k, .agg #[.int .i64 u, .int .i64 v], .pointer (some ⟨b, 0, none⟩), undef, undef, undef, undef, undef, undef, undef, undef, undef, undef] (by kernel_rfl) ?_
  have H := Hs.nil w0
  have R0 := hR
  refine x_seq ?_
  refine x_region ?_
  refine x_box H #[.int .i64 u, .int .i64 v] 86 (by kernel_rfl) rfl (by kernel_rfl) ?_
  clear H
  intro v1 g1 H
  refine x_box H #[.int .i64 0, .int .i64 0] 86 (by kernel_rfl) rfl (by kernel_rfl) ?_
  clear H
  intro v2 g2 H
  refine x_nil ?_
  refine x_then ?_
  refine x_seq ?_
  refine x_region_head 7 (fun w' => Hs [] w0 w' [.blk g2 #[.int .i64 0, .int .i64 0] 86, .blk g1 #[.int .i64 u, .int .i64 v] 86]) (by kernel_rfl) (by kernel_rfl) (by kernel_rfl) H.drew ?_
  simp only [List.take_succ_cons, List.take_zero, List.drop_succ_cons, List.drop_zero]
  refine q_loadn (t := 86) 1 g1 0 #[.int .i64 u, .int .i64 v] 86 [.int .i64 u, .int .i64 v] (by kernel_rfl) (by kernel_rfl) (by kernel_rfl) (by kernel_rfl) (by kernel_rfl) ?_
  refine q_loadc b 0 (.pointer (some ⟨p, 0, none⟩)) (fun _ H => (H.ro R0).cell 0 rfl 0 rfl) (by kernel_rfl) (fun _ => by kernel_rfl) ?_
  refine q_val (.pointer (some ⟨p, 0, none⟩)) (by kernel_rfl) (fun _ => by kernel_rfl) ?_
  refine q_val (.pointer (some ⟨p, 0, none⟩)) (by kernel_rfl) (fun _ => by kernel_rfl) ?_
  refine q_val (.pointer (some ⟨p, 2, none⟩)) (by kernel_rfl) (fun _ => by kernel_rfl) ?_
  refine q_loadcn (t := 78) p 2 [.int .i64 pL, .int .i64 pE] (fun _ H => (H.ro R0).cells 1 rfl 2 (by kernel_rfl)) (by kernel_rfl) (by kernel_rfl) (by kernel_rfl) ?_
  refine q_callB (.agg #[.int .i64 ((btick pE (u, v)).1), .int .i64 ((btick pE (u, v)).2)]) (by kernel_rfl) (fun _ => by kernel_rfl) (fun _ => (Tick_b pL pE u v hp hb2 _)) ?_
  refine q_nil ?_
  clear H
  intro v3 H
  refine x_store (t := 86) (v := .agg #[.int .i64 ((btick pE (u, v)).1), .int .i64 ((btick pE (u, v)).2)]) H 0 g2 0 _ #[.int .i64 ((btick pE (u, v)).1), .int .i64 ((btick pE (u, v)).2)] 86 [.int .i64 ((btick pE (u, v)).1), .int .i64 ((btick pE (u, v)).2)] _ rfl rfl (by kernel_rfl) (by kernel_rfl) (by kernel_rfl) rfl (by kernel_rfl) (by kernel_rfl) (by kernel_rfl) (by kernel_rfl) ?_
  clear H
  intro v4 H
  refine x_nil ?_
  refine x_then ?_
  refine x_retc ?_
  refine x_ret (.agg #[.int .i64 ((btick pE (u, v)).1), .int .i64 ((btick pE (u, v)).2)]) (by kernel_rfl) (x_rescell H 0 g2 0 #[.int .i64 ((btick pE (u, v)).1), .int .i64 ((btick pE (u, v)).2)] 86 [.int .i64 ((btick pE (u, v)).1), .int .i64 ((btick pE (u, v)).2)] (fun x => x) (by kernel_rfl) (by kernel_rfl) (by kernel_rfl)) ?_
  exact ⟨rfl, H.below⟩

set_option maxRecDepth 100000 in
set_option maxHeartbeats 4000000 in
theorem UpdB_s {p t gr b : Nat} {ranks room : Nat} {rL rE pL pE hv : Int} {g cap : Nat} {xs : List PairB} (hp : RR pL pE) (hc : ∀ x ∈ xs, RB pE x.2) (hn : xs.length ≤ 4096) (w0 : World) (H0 : Hs (fps [.blk t #[.slice (some ⟨g, 0, none⟩) (List.length xs) cap, .int .i64 ((room : Nat) : Int), .func (.func 103) #[] #[]] 228, .row (.slice (some ⟨g, 0, none⟩) (List.length xs) cap) 230 3 (List.length xs) (List.flatMap pairLB xs), .blk b #[.pointer (some ⟨p, 0, none⟩)] 82, .blk p #[.int .i64 rL, .int .i64 rE, .int .i64 pL, .int .i64 pE, .int .i64 ((room : Nat) : Int), .int .i64 hv, .slice (some ⟨gr, 0, none⟩) ranks ranks, .pointer (some ⟨t, 0, none⟩)] 187]) w0 w0 [.blk t #[.slice (some ⟨g, 0, none⟩) (List.length xs) cap, .int .i64 ((room : Nat) : Int), .func (.func 103) #[] #[]] 228, .row (.slice (some ⟨g, 0, none⟩) (List.length xs) cap) 230 3 (List.length xs) (List.flatMap pairLB xs), .blk b #[.pointer (some ⟨p, 0, none⟩)] 82, .blk p #[.int .i64 rL, .int .i64 rE, .int .i64 pL, .int .i64 pE, .int .i64 ((room : Nat) : Int), .int .i64 hv, .slice (some ⟨gr, 0, none⟩) ranks ranks, .pointer (some ⟨t, 0, none⟩)] 187]) :
    Calls Try.prog 108 #[.pointer (some ⟨t, 0, none⟩), .func (.func 109) #[] #[.pointer (some ⟨b, 0, none⟩)]] w0 fun e w' => e = .returned (.tuple #[]) ∧ Hs (fps [.blk t #[.slice (some ⟨g, 0, none⟩) (List.length xs) cap, .int .i64 ((room : Nat) : Int), .func (.func 103) #[] #[]] 228, .row (.slice (some ⟨g, 0, none⟩) (List.length xs) cap) 230 3 (List.length xs) (List.flatMap pairLB xs), .blk b #[.pointer (some ⟨p, 0, none⟩)] 82, .blk p #[.int .i64 rL, .int .i64 rE, .int .i64 pL, .int .i64 pE, .int .i64 ((room : Nat) : Int), .int .i64 hv, .slice (some ⟨gr, 0, none⟩) ranks ranks, .pointer (some ⟨t, 0, none⟩)] 187]) w0 w' [.blk t #[.slice (some ⟨g, 0, none⟩) (List.length xs) cap, .int .i64 ((room : Nat) : Int), .func (.func 103) #[] #[]] 228, .row (.slice (some ⟨g, 0, none⟩) (List.length xs) cap) 230 3 (List.length (xs.map (tickX pE))) (List.flatMap pairLB (xs.map (tickX pE))), .blk b #[.pointer (some ⟨p, 0, none⟩)] 82, .blk p #[.int .i64 rL, .int .i64 rE, .int .i64 pL, .int .i64 pE, .int .i64 ((room : Nat) : Int), .int .i64 hv, .slice (some ⟨gr, 0, none⟩) ranks ranks, .pointer (some ⟨t, 0, none⟩)] 187] := by
  refine x_enter Try.func108 rfl #[.pointer (some ⟨t, 0, none⟩), .func (.func 109) #[] #[.pointer (some ⟨b, 0, none⟩)], undef, undef, undef, undef, undef, undef, undef, undef, undef, undef, undef, undef, undef, undef, undef, undef, undef, undef, undef, undef, undef, undef, undef, undef, undef, undef, undef, undef] (by kernel_rfl) ?_
  have H := H0
  refine x_seq ?_
  refine x_region ?_
  refine x_val (.pointer (some ⟨t, 0, none⟩)) (by kernel_rfl) rfl (by kernel_rfl) ?_
  refine x_val (.pointer (some ⟨t, 0, none⟩)) (by kernel_rfl) rfl (by kernel_rfl) ?_
  refine x_val (.pointer (some ⟨t, 0, none⟩)) (by kernel_rfl) rfl (by kernel_rfl) ?_
  refine x_load1 H 0 t 0 _ _ (.slice (some ⟨g, 0, none⟩) (List.length xs) cap) rfl (by kernel_rfl) (by kernel_rfl) rfl (by kernel_rfl) ?_
  refine x_val (.int .i64 (((List.length xs) : Nat) : Int)) (by kernel_rfl) rfl (by kernel_rfl) ?_
  refine x_val (.int .i64 0) (by kernel_rfl) rfl (by kernel_rfl) ?_
  refine x_nil ?_
  refine x_then ?_
  refine x_block ?_
  refine x_loop (G := Nat) (fun (k : Nat) a w' => ∃ uf1 : Nat → Value, a = { tmps := #[.pointer (some ⟨t, 0, none⟩), .func (.func 109) #[] #[.pointer (some ⟨b, 0, none⟩)], undef, undef, (uf1 0), (uf1 1), .pointer (some ⟨t, 0, none⟩), .pointer (some ⟨t, 0, none⟩), .pointer (some ⟨t, 0, none⟩), .slice (some ⟨g, 0, none⟩) (List.length xs) cap, .int .i64 (((List.length xs) : Nat) : Int), .int .i64 ((k : Nat) : Int), (uf1 2), (uf1 3), (uf1 4), (uf1 5), (uf1 6), (uf1 7), (uf1 8), (uf1 9), (uf1 10), (uf1 11), (uf1 12), (uf1 13), (uf1 14), (uf1 15), (uf1 16), (uf1 17), (uf1 18), (uf1 19)], defers := [] } ∧ Hs (fps [.blk t #[.slice (some ⟨g, 0, none⟩) (List.length xs) cap, .int .i64 ((room : Nat) : Int), .func (.func 103) #[] #[]] 228, .row (.slice (some ⟨g, 0, none⟩) (List.length xs) cap) 230 3 (List.length xs) (List.flatMap pairLB xs), .blk b #[.pointer (some ⟨p, 0, none⟩)] 82, .blk p #[.int .i64 rL, .int .i64 rE, .int .i64 pL, .int .i64 pE, .int .i64 ((room : Nat) : Int), .int .i64 hv, .slice (some ⟨gr, 0, none⟩) ranks ranks, .pointer (some ⟨t, 0, none⟩)] 187]) w0 w' [.blk t #[.slice (some ⟨g, 0, none⟩) (List.length xs) cap, .int .i64 ((room : Nat) : Int), .func (.func 103) #[] #[]] 228, .row (.slice (some ⟨g, 0, none⟩) (List.length xs) cap) 230 3 (List.length xs) (List.flatMap pairLB (updF (tickX pE) (0, 0, 0) xs k)), .blk b #[.pointer (some ⟨p, 0, none⟩)] 82, .blk p #[.int .i64 rL, .int .i64 rE, .int .i64 pL, .int .i64 pE, .int .i64 ((room : Nat) : Int), .int .i64 hv, .slice (some ⟨gr, 0, none⟩) ranks ranks, .pointer (some ⟨t, 0, none⟩)] 187] ∧ (k ≤ xs.length)) (fun (k : Nat) => xs.length - k) 0 ⟨(nthV [undef, undef, undef, undef, undef, undef, undef, undef, undef, undef, undef, undef, undef, undef, undef, undef, undef, undef, undef, undef]), (by kernel_rfl), H, (Nat.zero_le _)⟩ ?_
  clear H
  rintro k _ v1 ⟨uf1, rfl, H, r1⟩
  have hul := updF_len (tickX pE) (0, 0, 0) xs k
  refine x_seq ?_
  refine x_region ?_
  refine x_val (.bool (decide (((k : Nat) : Int) < (((List.length xs) : Nat) : Int)))) (by kernel_rfl) rfl (by kernel_rfl) ?_
  refine x_nil ?_
  refine x_then ?_
  refine x_seq ?_
  cases h1 : decide (((k : Nat) : Int) < (((List.length xs) : Nat) : Int))
  · skip
    have h1p := of_decide_eq_false h1
    refine x_f (by kernel_rfl) ?_
    refine x_exit ?_
    refine x_then_exit ?_
    refine x_then_exit ?_
    refine x_blk_exit ?_
    refine x_end (.tuple #[]) (by kernel_rfl) (by kernel_rfl) ?_
    have hk : k = xs.length := by omega
    subst hk
    have hx := H
    rw [updF_all] at hx
    refine ⟨rfl, ?_⟩
    rw [List.length_map]
    exact hx
  · skip
    have h1p := of_decide_eq_true h1
    refine x_t (by kernel_rfl) ?_
    refine x_skipc ?_
    refine x_then ?_
    refine x_seq ?_
    refine x_block ?_
    refine x_seq ?_
    refine x_region ?_
    refine x_val (.int .i64 ((k : Nat) : Int)) (by kernel_rfl) rfl (by kernel_rfl) ?_
    refine x_ix (t := 226) g 0 k (List.length xs) cap 230 3 (k * 3) (by omega) (by omega) (by kernel_rfl) (by kernel_rfl) (by kernel_rfl) rfl (by kernel_rfl) ?_
    refine x_loadcn (t := 230) g (k * 3) [.int .i64 (((updF (tickX pE) (0, 0, 0) xs k).getD k (0, 0, 0)).1), .int .i64 (((updF (tickX pE) (0, 0, 0) xs k).getD k (0, 0, 0)).2.1), .int .i64 (((updF (tickX pE) (0, 0, 0) xs k).getD k (0, 0, 0)).2.2)] (H.rowCells 1 rfl (k * 3) (flatAt pairLenB (0, 0, 0) _ (by omega))) (by kernel_rfl) rfl (by kernel_rfl) (by kernel_rfl) ?_
    refine x_box H #[.int .i64 0, .int .i64 0, .int .i64 0] 230 (by kernel_rfl) rfl (by kernel_rfl) ?_
    clear H
    intro v2 g1 H
    refine x_val (.int .i64 ((k : Nat) : Int)) (by kernel_rfl) rfl (by kernel_rfl) ?_
    refine x_store (t := 230) (v := .agg #[.int .i64 (((updF (tickX pE) (0, 0, 0) xs k).getD k (0, 0, 0)).1), .int .i64 (((updF (tickX pE) (0, 0, 0) xs k).getD k (0, 0, 0)).2.1), .int .i64 (((updF (tickX pE) (0, 0, 0) xs k).getD k (0, 0, 0)).2.2)]) H 0 g1 0 _ #[.int .i64 (((updF (tickX pE) (0, 0, 0) xs k).getD k (0, 0, 0)).1), .int .i64 (((updF (tickX pE) (0, 0, 0) xs k).getD k (0, 0, 0)).2.1), .int .i64 (((updF (tickX pE) (0, 0, 0) xs k).getD k (0, 0, 0)).2.2)] 230 [.int .i64 (((updF (tickX pE) (0, 0, 0) xs k).getD k (0, 0, 0)).1), .int .i64 (((updF (tickX pE) (0, 0, 0) xs k).getD k (0, 0, 0)).2.1), .int .i64 (((updF (tickX pE) (0, 0, 0) xs k).getD k (0, 0, 0)).2.2)] _ rfl rfl (by kernel_rfl) (by kernel_rfl) (by kernel_rfl) rfl (by kernel_rfl) (by kernel_rfl) (by kernel_rfl) (by kernel_rfl) ?_
    clear H
    intro v3 H
    refine x_nil ?_
    refine x_then ?_
    refine x_region_head 13 (fun w' => Hs (fps [.blk t #[.slice (some ⟨g, 0, none⟩) (List.length xs) cap, .int .i64 ((room : Nat) : Int), .func (.func 103) #[] #[]] 228, .row (.slice (some ⟨g, 0, none⟩) (List.length xs) cap) 230 3 (List.length xs) (List.flatMap pairLB xs), .blk b #[.pointer (some ⟨p, 0, none⟩)] 82, .blk p #[.int .i64 rL, .int .i64 rE, .int .i64 pL, .int .i64 pE, .int .i64 ((room : Nat) : Int), .int .i64 hv, .slice (some ⟨gr, 0, none⟩) ranks ranks, .pointer (some ⟨t, 0, none⟩)] 187]) w0 w' [.blk g1 #[.int .i64 (((updF (tickX pE) (0, 0, 0) xs k).getD k (0, 0, 0)).1), .int .i64 (((updF (tickX pE) (0, 0, 0) xs k).getD k (0, 0, 0)).2.1), .int .i64 (((updF (tickX pE) (0, 0, 0) xs k).getD k (0, 0, 0)).2.2)] 230, .blk t #[.slice (some ⟨g, 0, none⟩) (List.length xs) cap, .int .i64 ((room : Nat) : Int), .func (.func 103) #[] #[]] 228, .row (.slice (some ⟨g, 0, none⟩) (List.length xs) cap) 230 3 (List.length xs) (List.flatMap pairLB (updF (tickX pE) (0, 0, 0) xs k)), .blk b #[.pointer (some ⟨p, 0, none⟩)] 82, .blk p #[.int .i64 rL, .int .i64 rE, .int .i64 pL, .int .i64 pE, .int .i64 ((room : Nat) : Int), .int .i64 hv, .slice (some ⟨gr, 0, none⟩) ranks ranks, .pointer (some ⟨t, 0, none⟩)] 187]) (by kernel_rfl) (by kernel_rfl) (by kernel_rfl) H.drew ?_
    simp only [List.take_succ_cons, List.take_zero, List.drop_succ_cons, List.drop_zero]
    refine q_val (.pointer (some ⟨t, 0, none⟩)) (by kernel_rfl) (fun _ => by kernel_rfl) ?_
    refine q_val (.pointer (some ⟨t, 0, none⟩)) (by kernel_rfl) (fun _ => by kernel_rfl) ?_
    refine q_val (.pointer (some ⟨t, 0, none⟩)) (by kernel_rfl) (fun _ => by kernel_rfl) ?_
    refine q_load1 1 t 0 #[.slice (some ⟨g, 0, none⟩) (List.length xs) cap, .int .i64 ((room : Nat) : Int), .func (.func 103) #[] #[]] 228 (.slice (some ⟨g, 0, none⟩) (List.length xs) cap) (by kernel_rfl) (by kernel_rfl) (by kernel_rfl) (fun _ => by kernel_rfl) ?_
    refine q_val (.int .i64 ((k : Nat) : Int)) (by kernel_rfl) (fun _ => by kernel_rfl) ?_
    refine q_val (.func (.func 109) #[] #[.pointer (some ⟨b, 0, none⟩)]) (by kernel_rfl) (fun _ => by kernel_rfl) ?_
    refine q_val (.pointer (some ⟨g1, 0, none⟩)) (by kernel_rfl) (fun _ => by kernel_rfl) ?_
    refine q_load1 0 g1 0 #[.int .i64 (((updF (tickX pE) (0, 0, 0) xs k).getD k (0, 0, 0)).1), .int .i64 (((updF (tickX pE) (0, 0, 0) xs k).getD k (0, 0, 0)).2.1), .int .i64 (((updF (tickX pE) (0, 0, 0) xs k).getD k (0, 0, 0)).2.2)] 230 (.int .i64 (((updF (tickX pE) (0, 0, 0) xs k).getD k (0, 0, 0)).1)) (by kernel_rfl) (by kernel_rfl) (by kernel_rfl) (fun _ => by kernel_rfl) ?_
    refine q_val (.pointer (some ⟨g1, 1, none⟩)) (by kernel_rfl) (fun _ => by kernel_rfl) ?_
    refine q_loadn (t := 86) 0 g1 1 #[.int .i64 (((updF (tickX pE) (0, 0, 0) xs k).getD k (0, 0, 0)).1), .int .i64 (((updF (tickX pE) (0, 0, 0) xs k).getD k (0, 0, 0)).2.1), .int .i64 (((updF (tickX pE) (0, 0, 0) xs k).getD k (0, 0, 0)).2.2)] 230 [.int .i64 (((updF (tickX pE) (0, 0, 0) xs k).getD k (0, 0, 0)).2.1), .int .i64 (((updF (tickX pE) (0, 0, 0) xs k).getD k (0, 0, 0)).2.2)] (by kernel_rfl) (by kernel_rfl) (by kernel_rfl) (by kernel_rfl) (by kernel_rfl) ?_
    have hb2 : RB pE ((updF (tickX pE) (0, 0, 0) xs k).getD k (0, 0, 0)).2 := by rw [(updF_eq (tickX pE) (0, 0, 0) xs k (by omega)).2 (by omega)]; exact getD_all (P := fun x : PairB => RB pE x.2) hc (by omega) _
    refine q_callR (.agg #[.int .i64 ((btick pE ((updF (tickX pE) (0, 0, 0) xs k).getD k (0, 0, 0)).2).1), .int .i64 ((btick pE ((updF (tickX pE) (0, 0, 0) xs k).getD k (0, 0, 0)).2).2)]) (by kernel_rfl) (fun _ => by kernel_rfl) (fun _ H => (tick1 (((updF (tickX pE) (0, 0, 0) xs k).getD k (0, 0, 0)).1) (((updF (tickX pE) (0, 0, 0) xs k).getD k (0, 0, 0)).2.1) (((updF (tickX pE) (0, 0, 0) xs k).getD k (0, 0, 0)).2.2) hp hb2 _ (H.roOf [3, 4] [.blk b #[.pointer (some ⟨p, 0, none⟩)] 82, .blk p #[.int .i64 rL, .int .i64 rE, .int .i64 pL, .int .i64 pE, .int .i64 ((room : Nat) : Int), .int .i64 hv, .slice (some ⟨gr, 0, none⟩) ranks ranks, .pointer (some ⟨t, 0, none⟩)] 187] (by kernel_rfl)))) ?_
    refine q_ix (t := 226) g 0 k (List.length xs) cap 230 3 (k * 3) (by omega) (by omega) (by kernel_rfl) (by kernel_rfl) (by kernel_rfl) (fun _ => by kernel_rfl) ?_
    refine q_val (.pointer (some ⟨g, k * 3 + 1, none⟩)) (by kernel_rfl) (fun _ => by kernel_rfl) ?_
    refine q_nil ?_
    clear H
    intro v4 H
    refine x_storeRow (t := 86) (v := .agg #[.int .i64 ((btick pE ((updF (tickX pE) (0, 0, 0) xs k).getD k (0, 0, 0)).2).1), .int .i64 ((btick pE ((updF (tickX pE) (0, 0, 0) xs k).getD k (0, 0, 0)).2).2)]) H 2 g (k * 3 + 1) (List.length xs) cap 230 3 (List.flatMap pairLB (updF (tickX pE) (0, 0, 0) xs k)) [.int .i64 ((btick pE ((updF (tickX pE) (0, 0, 0) xs k).getD k (0, 0, 0)).2).1), .int .i64 ((btick pE ((updF (tickX pE) (0, 0, 0) xs k).getD k (0, 0, 0)).2).2)] (List.flatMap pairLB ((updF (tickX pE) (0, 0, 0) xs k).set k (tickX pE ((updF (tickX pE) (0, 0, 0) xs k).getD k (0, 0, 0))))) [.blk g1 #[.int .i64 (((updF (tickX pE) (0, 0, 0) xs k).getD k (0, 0, 0)).1), .int .i64 (((updF (tickX pE) (0, 0, 0) xs k).getD k (0, 0, 0)).2.1), .int .i64 (((updF (tickX pE) (0, 0, 0) xs k).getD k (0, 0, 0)).2.2)] 230, .blk t #[.slice (some ⟨g, 0, none⟩) (List.length xs) cap, .int .i64 ((room : Nat) : Int), .func (.func 103) #[] #[]] 228, .row (.slice (some ⟨g, 0, none⟩) (List.length xs) cap) 230 3 (List.length xs) (List.flatMap pairLB ((updF (tickX pE) (0, 0, 0) xs k).set k (tickX pE ((updF (tickX pE) (0, 0, 0) xs k).getD k (0, 0, 0))))), .blk b #[.pointer (some ⟨p, 0, none⟩)] 82, .blk p #[.int .i64 rL, .int .i64 rE, .int .i64 pL, .int .i64 pE, .int .i64 ((room : Nat) : Int), .int .i64 hv, .slice (some ⟨gr, 0, none⟩) ranks ranks, .pointer (some ⟨t, 0, none⟩)] 187] rfl (by simp only [List.length_cons, List.length_nil]; omega) (by kernel_rfl) (flatSetN pairLenB (d := (0, 0, 0)) (updF (tickX pE) (0, 0, 0) xs k) (by omega) 1 _ _ rfl (Nat.le_of_ble_eq_true rfl)) rfl (by kernel_rfl) rfl (by kernel_rfl) (by kernel_rfl) (by kernel_rfl) ?_
    clear H
    intro v5 H
    refine x_nil ?_
    refine x_blk ?_
    refine x_then ?_
    refine x_region ?_
    refine x_ar (((k : Nat) : Int) + 1) ⟨by omega, by omega⟩ (by kernel_rfl) rfl (by kernel_rfl) ?_
    refine x_val (.int .i64 (((k : Nat) : Int) + 1)) (by kernel_rfl) rfl (by kernel_rfl) ?_
    refine x_nil ?_
    refine x_then ?_
    replace H := H.pick [1, 2, 3, 4] [.blk t #[.slice (some ⟨g, 0, none⟩) (List.length xs) cap, .int .i64 ((room : Nat) : Int), .func (.func 103) #[] #[]] 228, .row (.slice (some ⟨g, 0, none⟩) (List.length xs) cap) 230 3 (List.length xs) (List.flatMap pairLB ((updF (tickX pE) (0, 0, 0) xs k).set k (tickX pE ((updF (tickX pE) (0, 0, 0) xs k).getD k (0, 0, 0))))), .blk b #[.pointer (some ⟨p, 0, none⟩)] 82, .blk p #[.int .i64 rL, .int .i64 rE, .int .i64 pL, .int .i64 pE, .int .i64 ((room : Nat) : Int), .int .i64 hv, .slice (some ⟨gr, 0, none⟩) ranks ranks, .pointer (some ⟨t, 0, none⟩)] 187] (by decide) (by kernel_rfl)
    exact ⟨(k + 1), (by omega), (nthV [.int .i64 ((k : Nat) : Int), .pointer (some ⟨g1, 0, none⟩), .bool true, .int .i64 ((k : Nat) : Int), .pointer (some ⟨g, k * 3, none⟩), .agg #[.int .i64 (((updF (tickX pE) (0, 0, 0) xs k).getD k (0, 0, 0)).1), .int .i64 (((updF (tickX pE) (0, 0, 0) xs k).getD k (0, 0, 0)).2.1), .int .i64 (((updF (tickX pE) (0, 0, 0) xs k).getD k (0, 0, 0)).2.2)], .pointer (some ⟨t, 0, none⟩), .pointer (some ⟨t, 0, none⟩), .pointer (some ⟨t, 0, none⟩), .slice (some ⟨g, 0, none⟩) (List.length xs) cap, .int .i64 ((k : Nat) : Int), .func (.func 109) #[] #[.pointer (some ⟨b, 0, none⟩)], .pointer (some ⟨g1, 0, none⟩), .int .i64 (((updF (tickX pE) (0, 0, 0) xs k).getD k (0, 0, 0)).1), .pointer (some ⟨g1, 1, none⟩), .agg #[.int .i64 (((updF (tickX pE) (0, 0, 0) xs k).getD k (0, 0, 0)).2.1), .int .i64 (((updF (tickX pE) (0, 0, 0) xs k).getD k (0, 0, 0)).2.2)], .agg #[.int .i64 ((btick pE ((updF (tickX pE) (0, 0, 0) xs k).getD k (0, 0, 0)).2).1), .int .i64 ((btick pE ((updF (tickX pE) (0, 0, 0) xs k).getD k (0, 0, 0)).2).2)], .pointer (some ⟨g, k * 3, none⟩), .pointer (some ⟨g, k * 3 + 1, none⟩), .int .i64 (((k : Nat) : Int) + 1)]), (by kernel_rfl), H, (by omega)⟩

set_option maxRecDepth 100000 in
set_option maxHeartbeats 4000000 in
theorem UpdB_n {p t gr b : Nat} {ranks room : Nat} {rL rE pL pE hv : Int} {xs : List PairB} (hp : RR pL pE) (hc : ∀ x ∈ xs, RB pE x.2) (hn : xs.length ≤ 4096) (h0 : xs.length = 0) (w0 : World) (H0 : Hs (fps [.blk t #[.slice none 0 0, .int .i64 ((room : Nat) : Int), .func (.func 103) #[] #[]] 228, .row (.slice none 0 0) 230 3 (List.length xs) (List.flatMap pairLB xs), .blk b #[.pointer (some ⟨p, 0, none⟩)] 82, .blk p #[.int .i64 rL, .int .i64 rE, .int .i64 pL, .int .i64 pE, .int .i64 ((room : Nat) : Int), .int .i64 hv, .slice (some ⟨gr, 0, none⟩) ranks ranks, .pointer (some ⟨t, 0, none⟩)] 187]) w0 w0 [.blk t #[.slice none 0 0, .int .i64 ((room : Nat) : Int), .func (.func 103) #[] #[]] 228, .row (.slice none 0 0) 230 3 (List.length xs) (List.flatMap pairLB xs), .blk b #[.pointer (some ⟨p, 0, none⟩)] 82, .blk p #[.int .i64 rL, .int .i64 rE, .int .i64 pL, .int .i64 pE, .int .i64 ((room : Nat) : Int), .int .i64 hv, .slice (some ⟨gr, 0, none⟩) ranks ranks, .pointer (some ⟨t, 0, none⟩)] 187]) :
    Calls Try.prog 108 #[.pointer (some ⟨t, 0, none⟩), .func (.func 109) #[] #[.pointer (some ⟨b, 0, none⟩)]] w0 fun e w' => e = .returned (.tuple #[]) ∧ Hs (fps [.blk t #[.slice none 0 0, .int .i64 ((room : Nat) : Int), .func (.func 103) #[] #[]] 228, .row (.slice none 0 0) 230 3 (List.length xs) (List.flatMap pairLB xs), .blk b #[.pointer (some ⟨p, 0, none⟩)] 82, .blk p #[.int .i64 rL, .int .i64 rE, .int .i64 pL, .int .i64 pE, .int .i64 ((room : Nat) : Int), .int .i64 hv, .slice (some ⟨gr, 0, none⟩) ranks ranks, .pointer (some ⟨t, 0, none⟩)] 187]) w0 w' [.blk t #[.slice none 0 0, .int .i64 ((room : Nat) : Int), .func (.func 103) #[] #[]] 228, .row (.slice none 0 0) 230 3 (List.length (xs.map (tickX pE))) (List.flatMap pairLB (xs.map (tickX pE))), .blk b #[.pointer (some ⟨p, 0, none⟩)] 82, .blk p #[.int .i64 rL, .int .i64 rE, .int .i64 pL, .int .i64 pE, .int .i64 ((room : Nat) : Int), .int .i64 hv, .slice (some ⟨gr, 0, none⟩) ranks ranks, .pointer (some ⟨t, 0, none⟩)] 187] := by
  refine x_enter Try.func108 rfl #[.pointer (some ⟨t, 0, none⟩), .func (.func 109) #[] #[.pointer (some ⟨b, 0, none⟩)], undef, undef, undef, undef, undef, undef, undef, undef, undef, undef, undef, undef, undef, undef, undef, undef, undef, undef, undef, undef, undef, undef, undef, undef, undef, undef, undef, undef] (by kernel_rfl) ?_
  have H := H0
  refine x_seq ?_
  refine x_region ?_
  refine x_val (.pointer (some ⟨t, 0, none⟩)) (by kernel_rfl) rfl (by kernel_rfl) ?_
  refine x_val (.pointer (some ⟨t, 0, none⟩)) (by kernel_rfl) rfl (by kernel_rfl) ?_
  refine x_val (.pointer (some ⟨t, 0, none⟩)) (by kernel_rfl) rfl (by kernel_rfl) ?_
  refine x_load1 H 0 t 0 _ _ (.slice none 0 0) rfl (by kernel_rfl) (by kernel_rfl) rfl (by kernel_rfl) ?_
  refine x_val (.int .i64 0) (by kernel_rfl) rfl (by kernel_rfl) ?_
  refine x_val (.int .i64 0) (by kernel_rfl) rfl (by kernel_rfl) ?_
  refine x_nil ?_
  refine x_then ?_
  refine x_block ?_
  refine x_loop (G := Unit) (fun (_ : Unit) a w' => ∃ uf1 : Nat → Value, a = { tmps := #[.pointer (some ⟨t, 0, none⟩), .func (.func 109) #[] #[.pointer (some ⟨b, 0, none⟩)], undef, undef, (uf1 0), (uf1 1), .pointer (some ⟨t, 0, none⟩), .pointer (some ⟨t, 0, none⟩), .pointer (some ⟨t, 0, none⟩), .slice none 0 0, .int .i64 0, .int .i64 0, (uf1 2), (uf1 3), (uf1 4), (uf1 5), (uf1 6), (uf1 7), (uf1 8), (uf1 9), (uf1 10), (uf1 11), (uf1 12), (uf1 13), (uf1 14), (uf1 15), (uf1 16), (uf1 17), (uf1 18), (uf1 19)], defers := [] } ∧ Hs (fps [.blk t #[.slice none 0 0, .int .i64 ((room : Nat) : Int), .func (.func 103) #[] #[]] 228, .row (.slice none 0 0) 230 3 (List.length xs) (List.flatMap pairLB xs), .blk b #[.pointer (some ⟨p, 0, none⟩)] 82, .blk p #[.int .i64 rL, .int .i64 rE, .int .i64 pL, .int .i64 pE, .int .i64 ((room : Nat) : Int), .int .i64 hv, .slice (some ⟨gr, 0, none⟩) ranks ranks, .pointer (some ⟨t, 0, none⟩)] 187]) w0 w' [.blk t #[.slice none 0 0, .int .i64 ((room : Nat) : Int), .func (.func 103) #[] #[]] 228, .row (.slice none 0 0) 230 3 (List.length xs) (List.flatMap pairLB xs), .blk b #[.pointer (some ⟨p, 0, none⟩)] 82, .blk p #[.int .i64 rL, .int .i64 rE, .int .i64 pL, .int .i64 pE, .int .i64 ((room : Nat) : Int), .int .i64 hv, .slice (some ⟨gr, 0, none⟩) ranks ranks, .pointer (some ⟨t, 0, none⟩)] 187]) (fun _ => 0) () ⟨(nthV [undef, undef, undef, undef, undef, undef, undef, undef, undef, undef, undef, undef, undef, undef, undef, undef, undef, undef, undef, undef]), (by kernel_rfl), H⟩ ?_
  clear H
  rintro _ _ v1 ⟨uf1, rfl, H⟩
  refine x_seq ?_
  refine x_region ?_
  refine x_val (.bool false) (by kernel_rfl) rfl (by kernel_rfl) ?_
  refine x_nil ?_
  refine x_then ?_
  refine x_seq ?_
  refine x_f (by kernel_rfl) ?_
  refine x_exit ?_
  refine x_then_exit ?_
  refine x_then_exit ?_
  refine x_blk_exit ?_
  refine x_end (.tuple #[]) (by kernel_rfl) (by kernel_rfl) ?_
  have hx0 : xs = [] := List.length_eq_zero_iff.1 h0
  subst hx0
  exact ⟨rfl, H⟩

theorem UpdB {p t gr b : Nat} {ranks room : Nat} {rL rE pL pE hv : Int} {xs : List PairB} {sv : Value} (hp : RR pL pE) (hc : ∀ x ∈ xs, RB pE x.2) (hn : xs.length ≤ 4096) (w0 : World) (H0 : Hs (fps [.blk t #[sv, .int .i64 ((room : Nat) : Int), .func (.func 103) #[] #[]] 228, .row (sv) 230 3 (List.length xs) (List.flatMap pairLB xs), .blk b #[.pointer (some ⟨p, 0, none⟩)] 82, .blk p #[.int .i64 rL, .int .i64 rE, .int .i64 pL, .int .i64 pE, .int .i64 ((room : Nat) : Int), .int .i64 hv, .slice (some ⟨gr, 0, none⟩) ranks ranks, .pointer (some ⟨t, 0, none⟩)] 187]) w0 w0 [.blk t #[sv, .int .i64 ((room : Nat) : Int), .func (.func 103) #[] #[]] 228, .row (sv) 230 3 (List.length xs) (List.flatMap pairLB xs), .blk b #[.pointer (some ⟨p, 0, none⟩)] 82, .blk p #[.int .i64 rL, .int .i64 rE, .int .i64 pL, .int .i64 pE, .int .i64 ((room : Nat) : Int), .int .i64 hv, .slice (some ⟨gr, 0, none⟩) ranks ranks, .pointer (some ⟨t, 0, none⟩)] 187]) : Calls Try.prog 108 #[.pointer (some ⟨t, 0, none⟩), .func (.func 109) #[] #[.pointer (some ⟨b, 0, none⟩)]] w0 fun e w' => ∃ sv', e = .returned (.tuple #[]) ∧ Hs (fps [.blk t #[sv, .int .i64 ((room : Nat) : Int), .func (.func 103) #[] #[]] 228, .row (sv) 230 3 (List.length xs) (List.flatMap pairLB xs), .blk b #[.pointer (some ⟨p, 0, none⟩)] 82, .blk p #[.int .i64 rL, .int .i64 rE, .int .i64 pL, .int .i64 pE, .int .i64 ((room : Nat) : Int), .int .i64 hv, .slice (some ⟨gr, 0, none⟩) ranks ranks, .pointer (some ⟨t, 0, none⟩)] 187]) w0 w' [.blk t #[sv', .int .i64 ((room : Nat) : Int), .func (.func 103) #[] #[]] 228, .row (sv') 230 3 (List.length (xs.map (tickX pE))) (List.flatMap pairLB (xs.map (tickX pE))), .blk b #[.pointer (some ⟨p, 0, none⟩)] 82, .blk p #[.int .i64 rL, .int .i64 rE, .int .i64 pL, .int .i64 pE, .int .i64 ((room : Nat) : Int), .int .i64 hv, .slice (some ⟨gr, 0, none⟩) ranks ranks, .pointer (some ⟨t, 0, none⟩)] 187] := by
  rcases H0.rowForm 1 rfl with ⟨rfl, h0⟩ | ⟨g, cap, rfl, h9, _⟩
  · exact (UpdB_n hp hc hn h0 w0 H0).mono (fun e w' ⟨q1, q2⟩ => ⟨_, q1, q2⟩)
  · refine (UpdB_s hp hc hn w0 H0).mono (fun e w' ⟨q1, q2⟩ => ⟨.slice (some ⟨g, 0, none⟩) (List.length xs) cap, q1, ?_⟩)
    rw [List.length_map] at q2 ⊢
    exact q2

set_option maxRecDepth 100000 in
set_option maxHeartbeats 4000000 in
theorem TkTick {p t gr : Nat} {sv : Value} {rs : List Buk} {xs : List PairB} {ranks room : Nat} {rL rE pL pE hv : Int} (hrs : rs.length = ranks) (hxs : xs.length ≤ room) (hm : room ≤ 256 ∧ ranks ≤ 8) (hr : RR rL rE) (hp : RR pL pE) (hb : ∀ b ∈ rs, RB rE b) (hc : ∀ x ∈ xs, RB pE x.2) (w0 : World) (H0 : Hs (fps [.blk p #[.int .i64 rL, .int .i64 rE, .int .i64 pL, .int .i64 pE, .int .i64 ((room : Nat) : Int), .int .i64 hv, .slice (some ⟨gr, 0, none⟩) ranks ranks, .pointer (some ⟨t, 0, none⟩)] 187, .row (.slice (some ⟨gr, 0, none⟩) ranks ranks) 86 2 ranks (List.flatMap bukL rs), .blk t #[sv, .int .i64 ((room : Nat) : Int), .func (.func 103) #[] #[]] 228, .row (sv) 230 3 (List.length xs) (List.flatMap pairLB xs)]) w0 w0 [.blk p #[.int .i64 rL, .int .i64 rE, .int .i64 pL, .int .i64 pE, .int .i64 ((room : Nat) : Int), .int .i64 hv, .slice (some ⟨gr, 0, none⟩) ranks ranks, .pointer (some ⟨t, 0, none⟩)] 187, .row (.slice (some ⟨gr, 0, none⟩) ranks ranks) 86 2 ranks (List.flatMap bukL rs), .blk t #[sv, .int .i64 ((room : Nat) : Int), .func (.func 103) #[] #[]] 228, .row (sv) 230 3 (List.length xs) (List.flatMap pairLB xs)]) :
    Calls Try.prog 43 #[.pointer (some ⟨p, 0, none⟩)] w0 fun e w' => ∃ sv', e = .returned (.tuple #[]) ∧ Hs (fps [.blk p #[.int .i64 rL, .int .i64 rE, .int .i64 pL, .int .i64 pE, .int .i64 ((room : Nat) : Int), .int .i64 hv, .slice (some ⟨gr, 0, none⟩) ranks ranks, .pointer (some ⟨t, 0, none⟩)] 187, .row (.slice (some ⟨gr, 0, none⟩) ranks ranks) 86 2 ranks (List.flatMap bukL rs), .blk t #[sv, .int .i64 ((room : Nat) : Int), .func (.func 103) #[] #[]] 228, .row (sv) 230 3 (List.length xs) (List.flatMap pairLB xs)]) w0 w' [.blk p #[.int .i64 rL, .int .i64 rE, .int .i64 pL, .int .i64 pE, .int .i64 ((room : Nat) : Int), .int .i64 hv, .slice (some ⟨gr, 0, none⟩) ranks ranks, .pointer (some ⟨t, 0, none⟩)] 187, .row (.slice (some ⟨gr, 0, none⟩) ranks ranks) 86 2 ranks (List.flatMap bukL (rs.map (btick rE))), .blk t #[sv', .int .i64 ((room : Nat) : Int), .func (.func 103) #[] #[]] 228, .row (sv') 230 3 (List.length (xs.map (tickX pE))) (List.flatMap pairLB (xs.map (tickX pE)))] := by
  refine x_enter Try.func43 rfl #[.pointer (some ⟨p, 0, none⟩), undef, undef, undef, undef, undef, undef, undef, undef, undef, undef, undef, undef, undef, undef, undef, undef, undef, undef, undef, undef, undef, undef, undef, undef, undef, undef, undef, undef, undef, undef, undef, undef, undef] (by kernel_rfl) ?_
  have H := H0
  refine x_seq ?_
  refine x_region ?_
  refine x_box H #[.pointer (some ⟨p, 0, none⟩)] 82 (by kernel_rfl) rfl (by kernel_rfl) ?_
  clear H
  intro v1 g1 H
  refine x_nil ?_
  refine x_then ?_
  refine x_seq ?_
  refine x_seq ?_
  refine x_region ?_
  refine x_load1 H 0 g1 0 _ _ (.pointer (some ⟨p, 0, none⟩)) rfl (by kernel_rfl) (by kernel_rfl) rfl (by kernel_rfl) ?_
  refine x_val (.pointer (some ⟨p, 0, none⟩)) (by kernel_rfl) rfl (by kernel_rfl) ?_
  refine x_val (.pointer (some ⟨p, 6, none⟩)) (by kernel_rfl) rfl (by kernel_rfl) ?_
  refine x_load1 H 1 p 6 _ _ (.slice (some ⟨gr, 0, none⟩) ranks ranks) rfl (by kernel_rfl) (by kernel_rfl) rfl (by kernel_rfl) ?_
  refine x_val (.int .i64 ((ranks : Nat) : Int)) (by kernel_rfl) rfl (by kernel_rfl) ?_
  refine x_val (.int .i64 0) (by kernel_rfl) rfl (by kernel_rfl) ?_
  refine x_nil ?_
  refine x_then ?_
  refine x_block ?_
  replace H := H.pick [1, 2, 3, 4, 0] [.blk p #[.int .i64 rL, .int .i64 rE, .int .i64 pL, .int .i64 pE, .int .i64 ((room : Nat) : Int), .int .i64 hv, .slice (some ⟨gr, 0, none⟩) ranks ranks, .pointer (some ⟨t, 0, none⟩)] 187, .row (.slice (some ⟨gr, 0, none⟩) ranks ranks) 86 2 ranks (List.flatMap bukL rs), .blk t #[sv, .int .i64 ((room : Nat) : Int), .func (.func 103) #[] #[]] 228, .row (sv) 230 3 (List.length xs) (List.flatMap pairLB xs), .blk g1 #[.pointer (some ⟨p, 0, none⟩)] 82] (by decide) (by kernel_rfl)
  refine x_loop (G := Nat) (fun (k : Nat) a w' => ∃ uf1 : Nat → Value, a = { tmps := #[.pointer (some ⟨p, 0, none⟩), .pointer (some ⟨g1, 0, none⟩), (uf1 0), (uf1 1), .pointer (some ⟨p, 0, none⟩), .pointer (some ⟨p, 0, none⟩), .pointer (some ⟨p, 6, none⟩), .slice (some ⟨gr, 0, none⟩) ranks ranks, .int .i64 ((ranks : Nat) : Int), .int .i64 ((k : Nat) : Int), (uf1 2), (uf1 3), (uf1 4), (uf1 5), (uf1 6), (uf1 7), (uf1 8), (uf1 9), (uf1 10), (uf1 11), (uf1 12), (uf1 13), (uf1 14), (uf1 15), (uf1 16), (uf1 17), (uf1 18), (uf1 19), undef, undef, undef, undef, undef, undef], defers := [] } ∧ Hs (fps [.blk p #[.int .i64 rL, .int .i64 rE, .int .i64 pL, .int .i64 pE, .int .i64 ((room : Nat) : Int), .int .i64 hv, .slice (some ⟨gr, 0, none⟩) ranks ranks, .pointer (some ⟨t, 0, none⟩)] 187, .row (.slice (some ⟨gr, 0, none⟩) ranks ranks) 86 2 ranks (List.flatMap bukL rs), .blk t #[sv, .int .i64 ((room : Nat) : Int), .func (.func 103) #[] #[]] 228, .row (sv) 230 3 (List.length xs) (List.flatMap pairLB xs)]) w0 w' [.blk p #[.int .i64 rL, .int .i64 rE, .int .i64 pL, .int .i64 pE, .int .i64 ((room : Nat) : Int), .int .i64 hv, .slice (some ⟨gr, 0, none⟩) ranks ranks, .pointer (some ⟨t, 0, none⟩)] 187, .row (.slice (some ⟨gr, 0, none⟩) ranks ranks) 86 2 ranks (List.flatMap bukL (updF (btick rE) (0, 0) rs k)), .blk t #[sv, .int .i64 ((room : Nat) : Int), .func (.func 103) #[] #[]] 228, .row (sv) 230 3 (List.length xs) (List.flatMap pairLB xs), .blk g1 #[.pointer (some ⟨p, 0, none⟩)] 82] ∧ (k ≤ ranks)) (fun (k : Nat) => ranks - k) 0 ⟨(nthV [undef, undef, undef, undef, undef, undef, undef, undef, undef, undef, undef, undef, undef, undef, undef, undef, undef, undef, undef, undef]), (by kernel_rfl), H, (Nat.zero_le _)⟩ ?_
  clear H
  rintro k _ v2 ⟨uf1, rfl, H, r1⟩
  have hul := updF_len (btick rE) (0, 0) rs k
  refine x_seq ?_
  refine x_region ?_
  refine x_val (.bool (decide (((k : Nat) : Int) < ((ranks : Nat) : Int)))) (by kernel_rfl) rfl (by kernel_rfl) ?_
  refine x_nil ?_
  refine x_then ?_
  refine x_seq ?_
  cases h1 : decide (((k : Nat) : Int) < ((ranks : Nat) : Int))
  · skip
    have h1p := of_decide_eq_false h1
    refine x_f (by kernel_rfl) ?_
    refine x_exit ?_
    refine x_then_exit ?_
    refine x_then_exit ?_
    refine x_blk_exit ?_
    refine x_then ?_
    refine x_region ?_
    refine x_load1 H 4 g1 0 _ _ (.pointer (some ⟨p, 0, none⟩)) rfl (by kernel_rfl) (by kernel_rfl) rfl (by kernel_rfl) ?_
    refine x_val (.pointer (some ⟨p, 0, none⟩)) (by kernel_rfl) rfl (by kernel_rfl) ?_
    refine x_val (.pointer (some ⟨p, 7, none⟩)) (by kernel_rfl) rfl (by kernel_rfl) ?_
    refine x_load1 H 0 p 7 _ _ (.pointer (some ⟨t, 0, none⟩)) rfl (by kernel_rfl) (by kernel_rfl) rfl (by kernel_rfl) ?_
    refine x_val (.func (.func 109) #[] #[.pointer (some ⟨g1, 0, none⟩)]) (by kernel_rfl) rfl (by kernel_rfl) ?_
    have hk : k = rs.length := by omega
    rw [hk, updF_all] at H
    replace H : Hs (fps [.blk p #[.int .i64 rL, .int .i64 rE, .int .i64 pL, .int .i64 pE, .int .i64 ((room : Nat) : Int), .int .i64 hv, .slice (some ⟨gr, 0, none⟩) ranks ranks, .pointer (some ⟨t, 0, none⟩)] 187, .row (.slice (some ⟨gr, 0, none⟩) ranks ranks) 86 2 ranks (List.flatMap bukL rs), .blk t #[sv, .int .i64 ((room : Nat) : Int), .func (.func 103) #[] #[]] 228, .row (sv) 230 3 (List.length xs) (List.flatMap pairLB xs)]) w0 _ [.blk p #[.int .i64 rL, .int .i64 rE, .int .i64 pL, .int .i64 pE, .int .i64 ((room : Nat) : Int), .int .i64 hv, .slice (some ⟨gr, 0, none⟩) ranks ranks, .pointer (some ⟨t, 0, none⟩)] 187, .row (.slice (some ⟨gr, 0, none⟩) ranks ranks) 86 2 ranks (List.flatMap bukL (rs.map (btick rE))), .blk t #[sv, .int .i64 ((room : Nat) : Int), .func (.func 103) #[] #[]] 228, .row (sv) 230 3 (List.length xs) (List.flatMap pairLB xs), .blk g1 #[.pointer (some ⟨p, 0, none⟩)] 82] := H
    refine x_call (by kernel_rfl) rfl (by kernel_rfl) (Hs.useE (A := [.blk t #[sv, .int .i64 ((room : Nat) : Int), .func (.func 103) #[] #[]] 228, .row (sv) 230 3 (List.length xs) (List.flatMap pairLB xs), .blk g1 #[.pointer (some ⟨p, 0, none⟩)] 82, .blk p #[.int .i64 rL, .int .i64 rE, .int .i64 pL, .int .i64 pE, .int .i64 ((room : Nat) : Int), .int .i64 hv, .slice (some ⟨gr, 0, none⟩) ranks ranks, .pointer (some ⟨t, 0, none⟩)] 187]) (R := [.row (.slice (some ⟨gr, 0, none⟩) ranks ranks) 86 2 ranks (List.flatMap bukL (rs.map (btick rE)))]) (fun svu => [.blk t #[svu, .int .i64 ((room : Nat) : Int), .func (.func 103) #[] #[]] 228, .row (svu) 230 3 (List.length (xs.map (tickX pE))) (List.flatMap pairLB (xs.map (tickX pE))), .blk g1 #[.pointer (some ⟨p, 0, none⟩)] 82, .blk p #[.int .i64 rL, .int .i64 rE, .int .i64 pL, .int .i64 pE, .int .i64 ((room : Nat) : Int), .int .i64 hv, .slice (some ⟨gr, 0, none⟩) ranks ranks, .pointer (some ⟨t, 0, none⟩)] 187]) (fun _ => .tuple #[]) (H.pick [2, 3, 4, 0, 1] _ (by decide) (by kernel_rfl)) (fun h => UpdB (b := g1) hp hc (by omega) _ h)) ?_
    rintro _ v3 ⟨svu, rfl, H'⟩
    refine ⟨_, rfl, ?_⟩
    clear H
    have H : Hs (fps [.blk p #[.int .i64 rL, .int .i64 rE, .int .i64 pL, .int .i64 pE, .int .i64 ((room : Nat) : Int), .int .i64 hv, .slice (some ⟨gr, 0, none⟩) ranks ranks, .pointer (some ⟨t, 0, none⟩)] 187, .row (.slice (some ⟨gr, 0, none⟩) ranks ranks) 86 2 ranks (List.flatMap bukL rs), .blk t #[sv, .int .i64 ((room : Nat) : Int), .func (.func 103) #[] #[]] 228, .row (sv) 230 3 (List.length xs) (List.flatMap pairLB xs)]) w0 _ [.blk t #[svu, .int .i64 ((room : Nat) : Int), .func (.func 103) #[] #[]] 228, .row (svu) 230 3 (List.length (xs.map (tickX pE))) (List.flatMap pairLB (xs.map (tickX pE))), .blk g1 #[.pointer (some ⟨p, 0, none⟩)] 82, .blk p #[.int .i64 rL, .int .i64 rE, .int .i64 pL, .int .i64 pE, .int .i64 ((room : Nat) : Int), .int .i64 hv, .slice (some ⟨gr, 0, none⟩) ranks ranks, .pointer (some ⟨t, 0, none⟩)] 187, .row (.slice (some ⟨gr, 0, none⟩) ranks ranks) 86 2 ranks (List.flatMap bukL (rs.map (btick rE)))] := H'
    clear H'
    refine x_nil ?_
    refine x_end (.tuple #[]) (by kernel_rfl) (by kernel_rfl) ?_
    replace H := H.pick [3, 4, 0, 1] [.blk p #[.int .i64 rL, .int .i64 rE, .int .i64 pL, .int .i64 pE, .int .i64 ((room : Nat) : Int), .int .i64 hv, .slice (some ⟨gr, 0, none⟩) ranks ranks, .pointer (some ⟨t, 0, none⟩)] 187, .row (.slice (some ⟨gr, 0, none⟩) ranks ranks) 86 2 ranks (List.flatMap bukL (rs.map (btick rE))), .blk t #[svu, .int .i64 ((room : Nat) : Int), .func (.func 103) #[] #[]] 228, .row (svu) 230 3 (List.length (xs.map (tickX pE))) (List.flatMap pairLB (xs.map (tickX pE)))] (by decide) (by kernel_rfl)
    exact ⟨_, rfl, H⟩
  · skip
    have h1p := of_decide_eq_true h1
    refine x_t (by kernel_rfl) ?_
    refine x_skipc ?_
    refine x_then ?_
    refine x_seq ?_
    refine x_block ?_
    refine x_seq ?_
    refine x_region ?_
    refine x_val (.int .i64 ((k : Nat) : Int)) (by kernel_rfl) rfl (by kernel_rfl) ?_
    refine x_ix (t := 145) gr 0 k ranks ranks 86 2 (k * 2) (by omega) (by omega) (by kernel_rfl) (by kernel_rfl) (by kernel_rfl) rfl (by kernel_rfl) ?_
    refine x_loadcn (t := 86) gr (k * 2) [.int .i64 (((updF (btick rE) (0, 0) rs k).getD k (0, 0)).1), .int .i64 (((updF (btick rE) (0, 0) rs k).getD k (0, 0)).2)] (H.rowCells 1 rfl (k * 2) (flatAt bukLen (0, 0) _ (by omega))) (by kernel_rfl) rfl (by kernel_rfl) (by kernel_rfl) ?_
    refine x_box H #[.int .i64 0, .int .i64 0] 86 (by kernel_rfl) rfl (by kernel_rfl) ?_
    clear H
    intro v4 g2 H
    refine x_val (.int .i64 ((k : Nat) : Int)) (by kernel_rfl) rfl (by kernel_rfl) ?_
    refine x_store (t := 86) (v := .agg #[.int .i64 (((updF (btick rE) (0, 0) rs k).getD k (0, 0)).1), .int .i64 (((updF (btick rE) (0, 0) rs k).getD k (0, 0)).2)]) H 0 g2 0 _ #[.int .i64 (((updF (btick rE) (0, 0) rs k).getD k (0, 0)).1), .int .i64 (((updF (btick rE) (0, 0) rs k).getD k (0, 0)).2)] 86 [.int .i64 (((updF (btick rE) (0, 0) rs k).getD k (0, 0)).1), .int .i64 (((updF (btick rE) (0, 0) rs k).getD k (0, 0)).2)] _ rfl rfl (by kernel_rfl) (by kernel_rfl) (by kernel_rfl) rfl (by kernel_rfl) (by kernel_rfl) (by kernel_rfl) (by kernel_rfl) ?_
    clear H
    intro v5 H
    refine x_nil ?_
    refine x_then ?_
    refine x_region_head 13 (fun w' => Hs (fps [.blk p #[.int .i64 rL, .int .i64 rE, .int .i64 pL, .int .i64 pE, .int .i64 ((room : Nat) : Int), .int .i64 hv, .slice (some ⟨gr, 0, none⟩) ranks ranks, .pointer (some ⟨t, 0, none⟩)] 187, .row (.slice (some ⟨gr, 0, none⟩) ranks ranks) 86 2 ranks (List.flatMap bukL rs), .blk t #[sv, .int .i64 ((room : Nat) : Int), .func (.func 103) #[] #[]] 228, .row (sv) 230 3 (List.length xs) (List.flatMap pairLB xs)]) w0 w' [.blk g2 #[.int .i64 (((updF (btick rE) (0, 0) rs k).getD k (0, 0)).1), .int .i64 (((updF (btick rE) (0, 0) rs k).getD k (0, 0)).2)] 86, .blk p #[.int .i64 rL, .int .i64 rE, .int .i64 pL, .int .i64 pE, .int .i64 ((room : Nat) : Int), .int .i64 hv, .slice (some ⟨gr, 0, none⟩) ranks ranks, .pointer (some ⟨t, 0, none⟩)] 187, .row (.slice (some ⟨gr, 0, none⟩) ranks ranks) 86 2 ranks (List.flatMap bukL (updF (btick rE) (0, 0) rs k)), .blk t #[sv, .int .i64 ((room : Nat) : Int), .func (.func 103) #[] #[]] 228, .row (sv) 230 3 (List.length xs) (List.flatMap pairLB xs), .blk g1 #[.pointer (some ⟨p, 0, none⟩)] 82]) (by kernel_rfl) (by kernel_rfl) (by kernel_rfl) H.drew ?_
    simp only [List.take_succ_cons, List.take_zero, List.drop_succ_cons, List.drop_zero]
    refine q_load1 5 g1 0 #[.pointer (some ⟨p, 0, none⟩)] 82 (.pointer (some ⟨p, 0, none⟩)) (by kernel_rfl) (by kernel_rfl) (by kernel_rfl) (fun _ => by kernel_rfl) ?_
    refine q_val (.pointer (some ⟨p, 0, none⟩)) (by kernel_rfl) (fun _ => by kernel_rfl) ?_
    refine q_val (.pointer (some ⟨p, 6, none⟩)) (by kernel_rfl) (fun _ => by kernel_rfl) ?_
    refine q_load1 1 p 6 #[.int .i64 rL, .int .i64 rE, .int .i64 pL, .int .i64 pE, .int .i64 ((room : Nat) : Int), .int .i64 hv, .slice (some ⟨gr, 0, none⟩) ranks ranks, .pointer (some ⟨t, 0, none⟩)] 187 (.slice (some ⟨gr, 0, none⟩) ranks ranks) (by kernel_rfl) (by kernel_rfl) (by kernel_rfl) (fun _ => by kernel_rfl) ?_
    refine q_val (.int .i64 ((k : Nat) : Int)) (by kernel_rfl) (fun _ => by kernel_rfl) ?_
    refine q_loadn (t := 86) 0 g2 0 #[.int .i64 (((updF (btick rE) (0, 0) rs k).getD k (0, 0)).1), .int .i64 (((updF (btick rE) (0, 0) rs k).getD k (0, 0)).2)] 86 [.int .i64 (((updF (btick rE) (0, 0) rs k).getD k (0, 0)).1), .int .i64 (((updF (btick rE) (0, 0) rs k).getD k (0, 0)).2)] (by kernel_rfl) (by kernel_rfl) (by kernel_rfl) (by kernel_rfl) (by kernel_rfl) ?_
    refine q_load1 5 g1 0 #[.pointer (some ⟨p, 0, none⟩)] 82 (.pointer (some ⟨p, 0, none⟩)) (by kernel_rfl) (by kernel_rfl) (by kernel_rfl) (fun _ => by kernel_rfl) ?_
    refine q_val (.pointer (some ⟨p, 0, none⟩)) (by kernel_rfl) (fun _ => by kernel_rfl) ?_
    refine q_val (.pointer (some ⟨p, 0, none⟩)) (by kernel_rfl) (fun _ => by kernel_rfl) ?_
    refine q_val (.pointer (some ⟨p, 0, none⟩)) (by kernel_rfl) (fun _ => by kernel_rfl) ?_
    refine q_loadn (t := 78) 1 p 0 #[.int .i64 rL, .int .i64 rE, .int .i64 pL, .int .i64 pE, .int .i64 ((room : Nat) : Int), .int .i64 hv, .slice (some ⟨gr, 0, none⟩) ranks ranks, .pointer (some ⟨t, 0, none⟩)] 187 [.int .i64 rL, .int .i64 rE] (by kernel_rfl) (by kernel_rfl) (by kernel_rfl) (by kernel_rfl) (by kernel_rfl) ?_
    have hb2 : RB rE ((updF (btick rE) (0, 0) rs k).getD k (0, 0)) := by first | exact hb' | (rw [(updF_eq (btick rE) (0, 0) rs k (by omega)).2 (by omega)]; exact getD_all hb (by omega) _)
    refine q_callB (.agg #[.int .i64 ((btick rE ((updF (btick rE) (0, 0) rs k).getD k (0, 0))).1), .int .i64 ((btick rE ((updF (btick rE) (0, 0) rs k).getD k (0, 0))).2)]) (by kernel_rfl) (fun _ => by kernel_rfl) (fun _ => (Tick_b rL rE (((updF (btick rE) (0, 0) rs k).getD k (0, 0)).1) (((updF (btick rE) (0, 0) rs k).getD k (0, 0)).2) hr hb2 _)) ?_
    refine q_ix (t := 145) gr 0 k ranks ranks 86 2 (k * 2) (by omega) (by omega) (by kernel_rfl) (by kernel_rfl) (by kernel_rfl) (fun _ => by kernel_rfl) ?_
    refine q_nil ?_
    clear H
    intro v6 H
    refine x_storeRow (t := 86) (v := .agg #[.int .i64 ((btick rE ((updF (btick rE) (0, 0) rs k).getD k (0, 0))).1), .int .i64 ((btick rE ((updF (btick rE) (0, 0) rs k).getD k (0, 0))).2)]) H 2 gr (k * 2) ranks ranks 86 2 (List.flatMap bukL (updF (btick rE) (0, 0) rs k)) [.int .i64 ((btick rE ((updF (btick rE) (0, 0) rs k).getD k (0, 0))).1), .int .i64 ((btick rE ((updF (btick rE) (0, 0) rs k).getD k (0, 0))).2)] (List.flatMap bukL ((updF (btick rE) (0, 0) rs k).set k (btick rE ((updF (btick rE) (0, 0) rs k).getD k (0, 0))))) [.blk g2 #[.int .i64 (((updF (btick rE) (0, 0) rs k).getD k (0, 0)).1), .int .i64 (((updF (btick rE) (0, 0) rs k).getD k (0, 0)).2)] 86, .blk p #[.int .i64 rL, .int .i64 rE, .int .i64 pL, .int .i64 pE, .int .i64 ((room : Nat) : Int), .int .i64 hv, .slice (some ⟨gr, 0, none⟩) ranks ranks, .pointer (some ⟨t, 0, none⟩)] 187, .row (.slice (some ⟨gr, 0, none⟩) ranks ranks) 86 2 ranks (List.flatMap bukL ((updF (btick rE) (0, 0) rs k).set k (btick rE ((updF (btick rE) (0, 0) rs k).getD k (0, 0))))), .blk t #[sv, .int .i64 ((room : Nat) : Int), .func (.func 103) #[] #[]] 228, .row (sv) 230 3 (List.length xs) (List.flatMap pairLB xs), .blk g1 #[.pointer (some ⟨p, 0, none⟩)] 82] rfl (by simp only [List.length_cons, List.length_nil]; omega) (by kernel_rfl) (setFlat bukLen (by omega) (btick rE ((updF (btick rE) (0, 0) rs k).getD k (0, 0)))) rfl (by kernel_rfl) rfl (by kernel_rfl) (by kernel_rfl) (by kernel_rfl) ?_
    clear H
    intro v7 H
    refine x_nil ?_
    refine x_blk ?_
    refine x_then ?_
    refine x_region ?_
    refine x_ar (((k : Nat) : Int) + 1) ⟨by omega, by omega⟩ (by kernel_rfl) rfl (by kernel_rfl) ?_
    refine x_val (.int .i64 (((k : Nat) : Int) + 1)) (by kernel_rfl) rfl (by kernel_rfl) ?_
    refine x_nil ?_
    refine x_then ?_
    replace H := H.pick [1, 2, 3, 4, 5] [.blk p #[.int .i64 rL, .int .i64 rE, .int .i64 pL, .int .i64 pE, .int .i64 ((room : Nat) : Int), .int .i64 hv, .slice (some ⟨gr, 0, none⟩) ranks ranks, .pointer (some ⟨t, 0, none⟩)] 187, .row (.slice (some ⟨gr, 0, none⟩) ranks ranks) 86 2 ranks (List.flatMap bukL ((updF (btick rE) (0, 0) rs k).set k (btick rE ((updF (btick rE) (0, 0) rs k).getD k (0, 0))))), .blk t #[sv, .int .i64 ((room : Nat) : Int), .func (.func 103) #[] #[]] 228, .row (sv) 230 3 (List.length xs) (List.flatMap pairLB xs), .blk g1 #[.pointer (some ⟨p, 0, none⟩)] 82] (by decide) (by kernel_rfl)
    exact ⟨(k + 1), (by omega), (nthV [.int .i64 ((k : Nat) : Int), .pointer (some ⟨g2, 0, none⟩), .bool true, .int .i64 ((k : Nat) : Int), .pointer (some ⟨gr, k * 2, none⟩), .agg #[.int .i64 (((updF (btick rE) (0, 0) rs k).getD k (0, 0)).1), .int .i64 (((updF (btick rE) (0, 0) rs k).getD k (0, 0)).2)], .pointer (some ⟨p, 0, none⟩), .pointer (some ⟨p, 0, none⟩), .pointer (some ⟨p, 6, none⟩), .slice (some ⟨gr, 0, none⟩) ranks ranks, .int .i64 ((k : Nat) : Int), .agg #[.int .i64 (((updF (btick rE) (0, 0) rs k).getD k (0, 0)).1), .int .i64 (((updF (btick rE) (0, 0) rs k).getD k (0, 0)).2)], .pointer (some ⟨p, 0, none⟩), .pointer (some ⟨p, 0, none⟩), .pointer (some ⟨p, 0, none⟩), .pointer (some ⟨p, 0, none⟩), .agg #[.int .i64 rL, .int .i64 rE], .agg #[.int .i64 ((btick rE ((updF (btick rE) (0, 0) rs k).getD k (0, 0))).1), .int .i64 ((btick rE ((updF (btick rE) (0, 0) rs k).getD k (0, 0))).2)], .pointer (some ⟨gr, k * 2, none⟩), .int .i64 (((k : Nat) : Int) + 1)]), (by kernel_rfl), H, (by omega)⟩

set_option maxRecDepth 100000 in
set_option maxHeartbeats 4000000 in
theorem Quiet_any {p t gr : Nat} {sv : Value} {rs : List Buk} {xs : List PairB} {ranks room : Nat} {rL rE pL pE hv : Int} (hrs : rs.length = ranks) (hxs : xs.length ≤ room) (hm : room ≤ 256 ∧ ranks ≤ 8) (hb : ∀ b ∈ rs, RB rE b) (hc : ∀ x ∈ xs, RB pE x.2) (w0 : World) (H0 : Hs (fps [.blk p #[.int .i64 rL, .int .i64 rE, .int .i64 pL, .int .i64 pE, .int .i64 ((room : Nat) : Int), .int .i64 hv, .slice (some ⟨gr, 0, none⟩) ranks ranks, .pointer (some ⟨t, 0, none⟩)] 187, .row (.slice (some ⟨gr, 0, none⟩) ranks ranks) 86 2 ranks (List.flatMap bukL rs), .blk t #[sv, .int .i64 ((room : Nat) : Int), .func (.func 103) #[] #[]] 228, .row (sv) 230 3 (List.length xs) (List.flatMap pairLB xs)]) w0 w0 [.blk p #[.int .i64 rL, .int .i64 rE, .int .i64 pL, .int .i64 pE, .int .i64 ((room : Nat) : Int), .int .i64 hv, .slice (some ⟨gr, 0, none⟩) ranks ranks, .pointer (some ⟨t, 0, none⟩)] 187, .row (.slice (some ⟨gr, 0, none⟩) ranks ranks) 86 2 ranks (List.flatMap bukL rs), .blk t #[sv, .int .i64 ((room : Nat) : Int), .func (.func 103) #[] #[]] 228, .row (sv) 230 3 (List.length xs) (List.flatMap pairLB xs)]) :
    Calls Try.prog 101 #[.pointer (some ⟨p, 0, none⟩)] w0 fun e w' => e = .returned (.bool (decide (lev rs + levX xs = 0))) ∧ Hs (fps [.blk p #[.int .i64 rL, .int .i64 rE, .int .i64 pL, .int .i64 pE, .int .i64 ((room : Nat) : Int), .int .i64 hv, .slice (some ⟨gr, 0, none⟩) ranks ranks, .pointer (some ⟨t, 0, none⟩)] 187, .row (.slice (some ⟨gr, 0, none⟩) ranks ranks) 86 2 ranks (List.flatMap bukL rs), .blk t #[sv, .int .i64 ((room : Nat) : Int), .func (.func 103) #[] #[]] 228, .row (sv) 230 3 (List.length xs) (List.flatMap pairLB xs)]) w0 w' [.blk p #[.int .i64 rL, .int .i64 rE, .int .i64 pL, .int .i64 pE, .int .i64 ((room : Nat) : Int), .int .i64 hv, .slice (some ⟨gr, 0, none⟩) ranks ranks, .pointer (some ⟨t, 0, none⟩)] 187, .row (.slice (some ⟨gr, 0, none⟩) ranks ranks) 86 2 ranks (List.flatMap bukL rs), .blk t #[sv, .int .i64 ((room : Nat) : Int), .func (.func 103) #[] #[]] 228, .row (sv) 230 3 (List.length xs) (List.flatMap pairLB xs)] := by
  refine x_enterM Try.func101 rfl #[.pointer (some ⟨p, 0, none⟩), undef, undef, undef, undef, undef, undef, undef, undef, undef, undef, undef, undef, undef, undef, undef, undef, undef, undef, undef, undef, undef, undef, undef, undef, undef, undef, undef, undef, undef, undef, undef, undef, undef, undef] (by kernel_rfl) ?_
  have H := H0
  refine x_seq ?_
  refine x_region ?_
  refine x_val (.bool false) (by kernel_rfl) rfl (by kernel_rfl) ?_
  refine x_nil ?_
  refine x_then ?_
  refine x_seq ?_
  refine x_region ?_
  refine x_box H #[.int .i64 0] 3 (by kernel_rfl) rfl (by kernel_rfl) ?_
  clear H
  intro v1 g1 H
  refine x_store (t := 3) (v := .int .i64 0) H 0 g1 0 _ #[.int .i64 0] 3 [.int .i64 0] _ rfl rfl (by kernel_rfl) (by kernel_rfl) (by kernel_rfl) rfl (by kernel_rfl) (by kernel_rfl) (by kernel_rfl) (by kernel_rfl) ?_
  clear H
  intro v2 H
  refine x_nil ?_
  refine x_then ?_
  refine x_seq ?_
  refine x_seq ?_
  refine x_region ?_
  refine x_val (.pointer (some ⟨p, 0, none⟩)) (by kernel_rfl) rfl (by kernel_rfl) ?_
  refine x_val (.pointer (some ⟨p, 0, none⟩)) (by kernel_rfl) rfl (by kernel_rfl) ?_
  refine x_val (.pointer (some ⟨p, 6, none⟩)) (by kernel_rfl) rfl (by kernel_rfl) ?_
  refine x_load1 H 1 p 6 _ _ (.slice (some ⟨gr, 0, none⟩) ranks ranks) rfl (by kernel_rfl) (by kernel_rfl) rfl (by kernel_rfl) ?_
  refine x_val (.int .i64 ((ranks : Nat) : Int)) (by kernel_rfl) rfl (by kernel_rfl) ?_
  refine x_val (.int .i64 0) (by kernel_rfl) rfl (by kernel_rfl) ?_
  refine x_nil ?_
  refine x_then ?_
  refine x_block ?_
  replace H := H.pick [1, 2, 3, 4, 0] [.blk p #[.int .i64 rL, .int .i64 rE, .int .i64 pL, .int .i64 pE, .int .i64 ((room : Nat) : Int), .int .i64 hv, .slice (some ⟨gr, 0, none⟩) ranks ranks, .pointer (some ⟨t, 0, none⟩)] 187, .row (.slice (some ⟨gr, 0, none⟩) ranks ranks) 86 2 ranks (List.flatMap bukL rs), .blk t #[sv, .int .i64 ((room : Nat) : Int), .func (.func 103) #[] #[]] 228, .row (sv) 230 3 (List.length xs) (List.flatMap pairLB xs), .blk g1 #[.int .i64 0] 3] (by decide) (by kernel_rfl)
  refine x_loop (G := Nat) (fun (k : Nat) a w' => ∃ uf1 : Nat → Value, a = { tmps := #[.pointer (some ⟨p, 0, none⟩), undef, .bool false, .pointer (some ⟨g1, 0, none⟩), undef, (uf1 0), undef, undef, .pointer (some ⟨p, 0, none⟩), .pointer (some ⟨p, 0, none⟩), .pointer (some ⟨p, 6, none⟩), .slice (some ⟨gr, 0, none⟩) ranks ranks, .int .i64 ((ranks : Nat) : Int), .int .i64 ((k : Nat) : Int), (uf1 1), (uf1 2), (uf1 3), (uf1 4), (uf1 5), (uf1 6), (uf1 7), (uf1 8), undef, undef, undef, undef, undef, undef, undef, undef, undef, undef, undef, undef, undef], defers := [] } ∧ Hs (fps [.blk p #[.int .i64 rL, .int .i64 rE, .int .i64 pL, .int .i64 pE, .int .i64 ((room : Nat) : Int), .int .i64 hv, .slice (some ⟨gr, 0, none⟩) ranks ranks, .pointer (some ⟨t, 0, none⟩)] 187, .row (.slice (some ⟨gr, 0, none⟩) ranks ranks) 86 2 ranks (List.flatMap bukL rs), .blk t #[sv, .int .i64 ((room : Nat) : Int), .func (.func 103) #[] #[]] 228, .row (sv) 230 3 (List.length xs) (List.flatMap pairLB xs)]) w0 w' [.blk p #[.int .i64 rL, .int .i64 rE, .int .i64 pL, .int .i64 pE, .int .i64 ((room : Nat) : Int), .int .i64 hv, .slice (some ⟨gr, 0, none⟩) ranks ranks, .pointer (some ⟨t, 0, none⟩)] 187, .row (.slice (some ⟨gr, 0, none⟩) ranks ranks) 86 2 ranks (List.flatMap bukL rs), .blk t #[sv, .int .i64 ((room : Nat) : Int), .func (.func 103) #[] #[]] 228, .row (sv) 230 3 (List.length xs) (List.flatMap pairLB xs), .blk g1 #[.int .i64 (lev (List.take k rs))] 3] ∧ (k ≤ ranks)) (fun (k : Nat) => ranks - k) 0 ⟨(nthV [undef, undef, undef, undef, undef, undef, undef, undef, undef]), (by kernel_rfl), H, (Nat.zero_le _)⟩ ?_
  clear H
  rintro k _ v3 ⟨uf1, rfl, H, r1⟩
  refine x_seq ?_
  refine x_region ?_
  refine x_val (.bool (decide (((k : Nat) : Int) < ((ranks : Nat) : Int)))) (by kernel_rfl) rfl (by kernel_rfl) ?_
  refine x_nil ?_
  refine x_then ?_
  refine x_seq ?_
  cases h1 : decide (((k : Nat) : Int) < ((ranks : Nat) : Int))
  · skip
    have h1p := of_decide_eq_false h1
    refine x_f (by kernel_rfl) ?_
    refine x_exit ?_
    refine x_then_exit ?_
    refine x_then_exit ?_
    refine x_blk_exit ?_
    refine x_then ?_
    refine x_seq ?_
    refine x_seq ?_
    refine x_region ?_
    refine x_val (.pointer (some ⟨p, 0, none⟩)) (by kernel_rfl) rfl (by kernel_rfl) ?_
    refine x_val (.pointer (some ⟨p, 0, none⟩)) (by kernel_rfl) rfl (by kernel_rfl) ?_
    refine x_val (.pointer (some ⟨p, 7, none⟩)) (by kernel_rfl) rfl (by kernel_rfl) ?_
    refine x_load1 H 0 p 7 _ _ (.pointer (some ⟨t, 0, none⟩)) rfl (by kernel_rfl) (by kernel_rfl) rfl (by kernel_rfl) ?_
    refine x_call (by kernel_rfl) rfl (by kernel_rfl) (TAllB_of t _) ?_
    rintro _ v4 ⟨q, rfl, hN'⟩
    refine ⟨_, rfl, ?_⟩
    replace H := H.more hN'
    clear hN'
    replace H : Hs (fps [.blk p #[.int .i64 rL, .int .i64 rE, .int .i64 pL, .int .i64 pE, .int .i64 ((room : Nat) : Int), .int .i64 hv, .slice (some ⟨gr, 0, none⟩) ranks ranks, .pointer (some ⟨t, 0, none⟩)] 187, .row (.slice (some ⟨gr, 0, none⟩) ranks ranks) 86 2 ranks (List.flatMap bukL rs), .blk t #[sv, .int .i64 ((room : Nat) : Int), .func (.func 103) #[] #[]] 228, .row (sv) 230 3 (List.length xs) (List.flatMap pairLB xs)]) w0 _ [.blk q #[.pointer (some ⟨t, 0, none⟩)] 182, .blk p #[.int .i64 rL, .int .i64 rE, .int .i64 pL, .int .i64 pE, .int .i64 ((room : Nat) : Int), .int .i64 hv, .slice (some ⟨gr, 0, none⟩) ranks ranks, .pointer (some ⟨t, 0, none⟩)] 187, .row (.slice (some ⟨gr, 0, none⟩) ranks ranks) 86 2 ranks (List.flatMap bukL rs), .blk t #[sv, .int .i64 ((room : Nat) : Int), .func (.func 103) #[] #[]] 228, .row (sv) 230 3 (List.length xs) (List.flatMap pairLB xs), .blk g1 #[.int .i64 (lev (List.take k rs))] 3] := H
    refine x_nil ?_
    refine x_then ?_
    refine x_block ?_
    have hk : k = rs.length := by omega
    rw [hk, List.take_length] at H
    replace H : Hs (fps [.blk p #[.int .i64 rL, .int .i64 rE, .int .i64 pL, .int .i64 pE, .int .i64 ((room : Nat) : Int), .int .i64 hv, .slice (some ⟨gr, 0, none⟩) ranks ranks, .pointer (some ⟨t, 0, none⟩)] 187, .row (.slice (some ⟨gr, 0, none⟩) ranks ranks) 86 2 ranks (List.flatMap bukL rs), .blk t #[sv, .int .i64 ((room : Nat) : Int), .func (.func 103) #[] #[]] 228, .row (sv) 230 3 (List.length xs) (List.flatMap pairLB xs)]) w0 _ [.blk q #[.pointer (some ⟨t, 0, none⟩)] 182, .blk p #[.int .i64 rL, .int .i64 rE, .int .i64 pL, .int .i64 pE, .int .i64 ((room : Nat) : Int), .int .i64 hv, .slice (some ⟨gr, 0, none⟩) ranks ranks, .pointer (some ⟨t, 0, none⟩)] 187, .row (.slice (some ⟨gr, 0, none⟩) ranks ranks) 86 2 ranks (List.flatMap bukL rs), .blk t #[sv, .int .i64 ((room : Nat) : Int), .func (.func 103) #[] #[]] 228, .row (sv) 230 3 (List.length xs) (List.flatMap pairLB xs), .blk g1 #[.int .i64 (lev rs)] 3] := H
    replace H := H.pick [5, 0, 3, 4, 1, 2] [.blk g1 #[.int .i64 (lev rs)] 3, .blk q #[.pointer (some ⟨t, 0, none⟩)] 182, .blk t #[sv, .int .i64 ((room : Nat) : Int), .func (.func 103) #[] #[]] 228, .row (sv) 230 3 (List.length xs) (List.flatMap pairLB xs), .blk p #[.int .i64 rL, .int .i64 rE, .int .i64 pL, .int .i64 pE, .int .i64 ((room : Nat) : Int), .int .i64 hv, .slice (some ⟨gr, 0, none⟩) ranks ranks, .pointer (some ⟨t, 0, none⟩)] 187, .row (.slice (some ⟨gr, 0, none⟩) ranks ranks) 86 2 ranks (List.flatMap bukL rs)] (by decide) (by kernel_rfl)
    replace H : Hs (fps [.blk p #[.int .i64 rL, .int .i64 rE, .int .i64 pL, .int .i64 pE, .int .i64 ((room : Nat) : Int), .int .i64 hv, .slice (some ⟨gr, 0, none⟩) ranks ranks, .pointer (some ⟨t, 0, none⟩)] 187, .row (.slice (some ⟨gr, 0, none⟩) ranks ranks) 86 2 ranks (List.flatMap bukL rs), .blk t #[sv, .int .i64 ((room : Nat) : Int), .func (.func 103) #[] #[]] 228, .row (sv) 230 3 (List.length xs) (List.flatMap pairLB xs)]) w0 _ [.blk g1 #[.int .i64 (lev rs)] 3, .blk q #[.pointer (some ⟨t, 0, none⟩)] 182, .blk t #[sv, .int .i64 ((room : Nat) : Int), .func (.func 103) #[] #[]] 228, .row (sv) 230 3 (List.length xs) (List.flatMap pairLB xs), .blk p #[.int .i64 rL, .int .i64 rE, .int .i64 pL, .int .i64 pE, .int .i64 ((room : Nat) : Int), .int .i64 hv, .slice (some ⟨gr, 0, none⟩) ranks ranks, .pointer (some ⟨t, 0, none⟩)] 187, .row (.slice (some ⟨gr, 0, none⟩) ranks ranks) 86 2 ranks (List.flatMap bukL rs)] := H
    refine x_rangeB (α := PairB) (G := Int) xs (fun x => #[.int .i64 x.1, .agg #[.int .i64 x.2.1, .int .i64 x.2.2]]) [.blk q #[.pointer (some ⟨t, 0, none⟩)] 182, .blk t #[sv, .int .i64 ((room : Nat) : Int), .func (.func 103) #[] #[]] 228, .row (sv) 230 3 (List.length xs) (List.flatMap pairLB xs)] [1, 2, 3] (fps [.blk g1 #[.int .i64 (lev rs)] 3, .blk q #[.pointer (some ⟨t, 0, none⟩)] 182, .blk t #[sv, .int .i64 ((room : Nat) : Int), .func (.func 103) #[] #[]] 228, .row (sv) 230 3 (List.length xs) (List.flatMap pairLB xs), .blk p #[.int .i64 rL, .int .i64 rE, .int .i64 pL, .int .i64 pE, .int .i64 ((room : Nat) : Int), .int .i64 hv, .slice (some ⟨gr, 0, none⟩) ranks ranks, .pointer (some ⟨t, 0, none⟩)] 187, .row (.slice (some ⟨gr, 0, none⟩) ranks ranks) 86 2 ranks (List.flatMap bukL rs)]) (fun pre (n : Int) => pre <+: xs → n = lev rs + levX pre) (fun pre (n : Int) => [.blk g1 #[.int .i64 n] 3, .blk q #[.pointer (some ⟨t, 0, none⟩)] 182, .blk t #[sv, .int .i64 ((room : Nat) : Int), .func (.func 103) #[] #[]] 228, .row (sv) 230 3 (List.length xs) (List.flatMap pairLB xs), .blk p #[.int .i64 rL, .int .i64 rE, .int .i64 pL, .int .i64 pE, .int .i64 ((room : Nat) : Int), .int .i64 hv, .slice (some ⟨gr, 0, none⟩) ranks ranks, .pointer (some ⟨t, 0, none⟩)] 187, .row (.slice (some ⟨gr, 0, none⟩) ranks ranks) 86 2 ranks (List.flatMap bukL rs)]) (fun cd pre (n : Int) => False) (fun x b => [.blk b #[.int .i64 x.2.1, .int .i64 x.2.2] 86]) (fun x b => { tmps := #[.pointer (some ⟨p, 0, none⟩), undef, .bool false, .pointer (some ⟨g1, 0, none⟩), undef, (uf1 0), undef, .pointer (some ⟨b, 0, none⟩), .pointer (some ⟨p, 0, none⟩), .pointer (some ⟨p, 0, none⟩), .pointer (some ⟨p, 6, none⟩), .slice (some ⟨gr, 0, none⟩) ranks ranks, .int .i64 ((ranks : Nat) : Int), .int .i64 ((k : Nat) : Int), .bool false, (uf1 2), (uf1 3), (uf1 4), (uf1 5), (uf1 6), (uf1 7), (uf1 8), .pointer (some ⟨p, 0, none⟩), .pointer (some ⟨p, 0, none⟩), .pointer (some ⟨p, 7, none⟩), .pointer (some ⟨t, 0, none⟩), .func (.func 167) #[] #[.pointer (some ⟨q, 0, none⟩)], .int .i64 x.1, .agg #[.int .i64 x.2.1, .int .i64 x.2.2], undef, undef, undef, undef, undef, undef], defers := [] }) (lev rs) (by kernel_rfl) (enters_of Try.func167 (by kernel_rfl) rfl) (tvalsB_of (by omega) _ (H.roOf [1, 2, 3] _ (by kernel_rfl))) (fun _ => rfl) rfl (by rintro _ n; rfl) (by rintro _ n; rfl) (by rintro _ n; rfl) (fun _ _ => rfl) (fun _ _ => rfl) H (fun _ => by simp [levX]) ?_ ?_ ?_ ?_
    · skip
      clear H
      rintro lrnd pre x n W1 hI H
      refine x_at (b := { tmps := #[.pointer (some ⟨p, 0, none⟩), undef, .bool false, .pointer (some ⟨g1, 0, none⟩), undef, (uf1 0), undef, undef, .pointer (some ⟨p, 0, none⟩), .pointer (some ⟨p, 0, none⟩), .pointer (some ⟨p, 6, none⟩), .slice (some ⟨gr, 0, none⟩) ranks ranks, .int .i64 ((ranks : Nat) : Int), .int .i64 ((k : Nat) : Int), .bool false, (uf1 2), (uf1 3), (uf1 4), (uf1 5), (uf1 6), (uf1 7), (uf1 8), .pointer (some ⟨p, 0, none⟩), .pointer (some ⟨p, 0, none⟩), .pointer (some ⟨p, 7, none⟩), .pointer (some ⟨t, 0, none⟩), .func (.func 167) #[] #[.pointer (some ⟨q, 0, none⟩)], .int .i64 x.1, .agg #[.int .i64 x.2.1, .int .i64 x.2.2], undef, undef, undef, undef, undef, undef], defers := [] }) (by kernel_rfl) ?_
      refine x_region ?_
      refine x_box H #[.int .i64 0, .int .i64 0] 86 (by kernel_rfl) rfl (by kernel_rfl) ?_
      clear H
      intro v5 g2 H
      refine x_store (t := 86) (v := .agg #[.int .i64 x.2.1, .int .i64 x.2.2]) H 0 g2 0 _ #[.int .i64 x.2.1, .int .i64 x.2.2] 86 [.int .i64 x.2.1, .int .i64 x.2.2] _ rfl rfl (by kernel_rfl) (by kernel_rfl) (by kernel_rfl) rfl (by kernel_rfl) (by kernel_rfl) (by kernel_rfl) (by kernel_rfl) ?_
      clear H
      intro v6 H
      refine x_nil ?_
      refine x_then ?_
      exact ⟨g2, (by kernel_rfl), H⟩
    · skip
      clear H
      rintro lrnd pre x n b W1 hI hlen H
      replace H : Hs (fps [.blk b #[.int .i64 x.2.1, .int .i64 x.2.2] 86] ++ (fps [.blk g1 #[.int .i64 (lev rs)] 3, .blk q #[.pointer (some ⟨t, 0, none⟩)] 182, .blk t #[sv, .int .i64 ((room : Nat) : Int), .func (.func 103) #[] #[]] 228, .row (sv) 230 3 (List.length xs) (List.flatMap pairLB xs), .blk p #[.int .i64 rL, .int .i64 rE, .int .i64 pL, .int .i64 pE, .int .i64 ((room : Nat) : Int), .int .i64 hv, .slice (some ⟨gr, 0, none⟩) ranks ranks, .pointer (some ⟨t, 0, none⟩)] 187, .row (.slice (some ⟨gr, 0, none⟩) ranks ranks) 86 2 ranks (List.flatMap bukL rs)])) W1 W1 [.blk b #[.int .i64 x.2.1, .int .i64 x.2.2] 86, .blk g1 #[.int .i64 n] 3, .blk q #[.pointer (some ⟨t, 0, none⟩)] 182, .blk t #[sv, .int .i64 ((room : Nat) : Int), .func (.func 103) #[] #[]] 228, .row (sv) 230 3 (List.length xs) (List.flatMap pairLB xs), .blk p #[.int .i64 rL, .int .i64 rE, .int .i64 pL, .int .i64 pE, .int .i64 ((room : Nat) : Int), .int .i64 hv, .slice (some ⟨gr, 0, none⟩) ranks ranks, .pointer (some ⟨t, 0, none⟩)] 187, .row (.slice (some ⟨gr, 0, none⟩) ranks ranks) 86 2 ranks (List.flatMap bukL rs)] := H
      refine x_block ?_
      refine x_region ?_
      refine x_load1 H 1 g1 0 _ _ (.int .i64 n) rfl (by kernel_rfl) (by kernel_rfl) rfl (by kernel_rfl) ?_
      refine x_val (.pointer (some ⟨b, 0, none⟩)) (by kernel_rfl) rfl (by kernel_rfl) ?_
      refine x_load1 H 0 b 0 _ _ (.int .i64 x.2.1) rfl (by kernel_rfl) (by kernel_rfl) rfl (by kernel_rfl) ?_
      refine x_val (.int .i64 (IntKind.i64.wrap (n + x.2.1))) (by kernel_rfl) rfl (by kernel_rfl) ?_
      refine x_store (t := 3) (v := .int .i64 (IntKind.i64.wrap (n + x.2.1))) H 1 g1 0 _ #[.int .i64 (IntKind.i64.wrap (n + x.2.1))] 3 [.int .i64 (IntKind.i64.wrap (n + x.2.1))] _ rfl rfl (by kernel_rfl) (by kernel_rfl) (by kernel_rfl) rfl (by kernel_rfl) (by kernel_rfl) (by kernel_rfl) (by kernel_rfl) ?_
      clear H
      intro v7 H
      refine x_nil ?_
      refine x_blk ?_
      replace H := H.pick [1, 2, 3, 4, 5, 6] [.blk g1 #[.int .i64 (IntKind.i64.wrap (n + x.2.1))] 3, .blk q #[.pointer (some ⟨t, 0, none⟩)] 182, .blk t #[sv, .int .i64 ((room : Nat) : Int), .func (.func 103) #[] #[]] 228, .row (sv) 230 3 (List.length xs) (List.flatMap pairLB xs), .blk p #[.int .i64 rL, .int .i64 rE, .int .i64 pL, .int .i64 pE, .int .i64 ((room : Nat) : Int), .int .i64 hv, .slice (some ⟨gr, 0, none⟩) ranks ranks, .pointer (some ⟨t, 0, none⟩)] 187, .row (.slice (some ⟨gr, 0, none⟩) ranks ranks) 86 2 ranks (List.flatMap bukL rs)] (by decide) (by kernel_rfl)
      exact ⟨(IntKind.i64.wrap (n + x.2.1)), (fun hpp => by have hp1 : pre <+: xs := (List.prefix_append _ _).trans hpp; have e := hI hp1; have q := levX_le (pre ++ [x]) (fun y hy => hc y (hpp.subset hy)); have q2 := lev_le rs hb; have q3 := hpp.length_le; rw [levX_snoc] at q ⊢; have q4 : (List.length (pre ++ [x]) : Int) ≤ 256 := (by omega); rw [wrap64 (by omega) (by omega), e]; omega), H⟩
    · skip
      clear H
      rintro D n W1 hI H
      have hI2 := hI (List.prefix_refl _)
      refine x_blk ?_
      refine x_then ?_
      refine x_seq ?_
      refine x_region ?_
      refine x_load1 H 1 g1 0 _ _ (.int .i64 n) rfl (by kernel_rfl) (by kernel_rfl) rfl (by kernel_rfl) ?_
      refine x_val (.bool (decide (n = 0))) (by kernel_rfl) rfl (by kernel_rfl) ?_
      refine x_val (.bool (decide (n = 0))) (by kernel_rfl) rfl (by kernel_rfl) ?_
      refine x_nil ?_
      refine x_then ?_
      refine x_retc ?_
      refine x_retM1 [0, 1, 2, 3, 4, 5, 6] [.blk g1 #[.int .i64 n] 3, .blk q #[.pointer (some ⟨t, 0, none⟩)] 182, .blk t #[sv, .int .i64 ((room : Nat) : Int), .func (.func 103) #[] #[]] 228, .row (sv) 230 3 (List.length xs) (List.flatMap pairLB xs), .blk p #[.int .i64 rL, .int .i64 rE, .int .i64 pL, .int .i64 pE, .int .i64 ((room : Nat) : Int), .int .i64 hv, .slice (some ⟨gr, 0, none⟩) ranks ranks, .pointer (some ⟨t, 0, none⟩)] 187, .row (.slice (some ⟨gr, 0, none⟩) ranks ranks) 86 2 ranks (List.flatMap bukL rs)] (.bool (decide (n = 0))) H (by kernel_rfl) rfl (by decide) (fun _ H => (by kernel_rfl)) ?_
      clear H
      intro v8 H
      replace H := H.pick [4, 5, 2, 3] [.blk p #[.int .i64 rL, .int .i64 rE, .int .i64 pL, .int .i64 pE, .int .i64 ((room : Nat) : Int), .int .i64 hv, .slice (some ⟨gr, 0, none⟩) ranks ranks, .pointer (some ⟨t, 0, none⟩)] 187, .row (.slice (some ⟨gr, 0, none⟩) ranks ranks) 86 2 ranks (List.flatMap bukL rs), .blk t #[sv, .int .i64 ((room : Nat) : Int), .func (.func 103) #[] #[]] 228, .row (sv) 230 3 (List.length xs) (List.flatMap pairLB xs)] (by decide) (by kernel_rfl)
      have e : (decide (n = 0)) = decide (lev rs + levX xs = 0) := by rw [hI2]
      exact ⟨by rw [← e], H⟩
    · skip
      clear H
      rintro D c pre n W1 hpre hJ H
      exact hJ.elim
  · skip
    have h1p := of_decide_eq_true h1
    refine x_t (by kernel_rfl) ?_
    refine x_skipc ?_
    refine x_then ?_
    refine x_seq ?_
    refine x_block ?_
    refine x_seq ?_
    refine x_region ?_
    refine x_ix (t := 145) gr 0 k ranks ranks 86 2 (k * 2) (by omega) (by omega) (by kernel_rfl) (by kernel_rfl) (by kernel_rfl) rfl (by kernel_rfl) ?_
    refine x_loadcn (t := 86) gr (k * 2) [.int .i64 ((rs.getD k (0, 0)).1), .int .i64 ((rs.getD k (0, 0)).2)] (H.rowCells 1 rfl (k * 2) (flatAt bukLen (0, 0) _ (by omega))) (by kernel_rfl) rfl (by kernel_rfl) (by kernel_rfl) ?_
    refine x_box H #[.int .i64 0, .int .i64 0] 86 (by kernel_rfl) rfl (by kernel_rfl) ?_
    clear H
    intro v9 g3 H
    refine x_store (t := 86) (v := .agg #[.int .i64 ((rs.getD k (0, 0)).1), .int .i64 ((rs.getD k (0, 0)).2)]) H 0 g3 0 _ #[.int .i64 ((rs.getD k (0, 0)).1), .int .i64 ((rs.getD k (0, 0)).2)] 86 [.int .i64 ((rs.getD k (0, 0)).1), .int .i64 ((rs.getD k (0, 0)).2)] _ rfl rfl (by kernel_rfl) (by kernel_rfl) (by kernel_rfl) rfl (by kernel_rfl) (by kernel_rfl) (by kernel_rfl) (by kernel_rfl) ?_
    clear H
    intro v10 H
    refine x_nil ?_
    refine x_then ?_
    refine x_region ?_
    refine x_load1 H 5 g1 0 _ _ (.int .i64 (lev (List.take k rs))) rfl (by kernel_rfl) (by kernel_rfl) rfl (by kernel_rfl) ?_
    refine x_val (.pointer (some ⟨g3, 0, none⟩)) (by kernel_rfl) rfl (by kernel_rfl) ?_
    refine x_load1 H 0 g3 0 _ _ (.int .i64 ((rs.getD k (0, 0)).1)) rfl (by kernel_rfl) (by kernel_rfl) rfl (by kernel_rfl) ?_
    have hl1 := lev_le (rs.take k) (fun b hb1 => hb b (List.mem_of_mem_take hb1))
    have hl2 := getD_all hb (show k < rs.length by omega) (0, 0)
    unfold RB at hl2
    have hl3 : ((rs.take k).length : Int) ≤ 8 := by rw [List.length_take]; omega
    refine x_ar ((lev (List.take k rs)) + ((rs.getD k (0, 0)).1)) ⟨by omega, by omega⟩ (by kernel_rfl) rfl (by kernel_rfl) ?_
    refine x_store (t := 3) (v := .int .i64 ((lev (List.take k rs)) + ((rs.getD k (0, 0)).1))) H 5 g1 0 _ #[.int .i64 ((lev (List.take k rs)) + ((rs.getD k (0, 0)).1))] 3 [.int .i64 ((lev (List.take k rs)) + ((rs.getD k (0, 0)).1))] [.blk g3 #[.int .i64 ((rs.getD k (0, 0)).1), .int .i64 ((rs.getD k (0, 0)).2)] 86, .blk p #[.int .i64 rL, .int .i64 rE, .int .i64 pL, .int .i64 pE, .int .i64 ((room : Nat) : Int), .int .i64 hv, .slice (some ⟨gr, 0, none⟩) ranks ranks, .pointer (some ⟨t, 0, none⟩)] 187, .row (.slice (some ⟨gr, 0, none⟩) ranks ranks) 86 2 ranks (List.flatMap bukL rs), .blk t #[sv, .int .i64 ((room : Nat) : Int), .func (.func 103) #[] #[]] 228, .row (sv) 230 3 (List.length xs) (List.flatMap pairLB xs), .blk g1 #[.int .i64 ((lev (List.take k rs)) + ((rs.getD k (0, 0)).1))] 3] rfl rfl (by kernel_rfl) (by kernel_rfl) (by kernel_rfl) (by kernel_rfl) (by kernel_rfl) (by kernel_rfl) (by kernel_rfl) (by kernel_rfl) ?_
    clear H
    intro v11 H
    refine x_nil ?_
    refine x_blk ?_
    refine x_then ?_
    refine x_region ?_
    refine x_ar (((k : Nat) : Int) + 1) ⟨by omega, by omega⟩ (by kernel_rfl) rfl (by kernel_rfl) ?_
    refine x_val (.int .i64 (((k : Nat) : Int) + 1)) (by kernel_rfl) rfl (by kernel_rfl) ?_
    refine x_nil ?_
    refine x_then ?_
    replace H := H.pick [1, 2, 3, 4, 5] [.blk p #[.int .i64 rL, .int .i64 rE, .int .i64 pL, .int .i64 pE, .int .i64 ((room : Nat) : Int), .int .i64 hv, .slice (some ⟨gr, 0, none⟩) ranks ranks, .pointer (some ⟨t, 0, none⟩)] 187, .row (.slice (some ⟨gr, 0, none⟩) ranks ranks) 86 2 ranks (List.flatMap bukL rs), .blk t #[sv, .int .i64 ((room : Nat) : Int), .func (.func 103) #[] #[]] 228, .row (sv) 230 3 (List.length xs) (List.flatMap pairLB xs), .blk g1 #[.int .i64 ((lev (List.take k rs)) + ((rs.getD k (0, 0)).1))] 3] (by decide) (by kernel_rfl)
    rw [← lev_next rs k (by omega)] at H
    exact ⟨(k + 1), (by omega), (nthV [.pointer (some ⟨g3, 0, none⟩), .bool true, .pointer (some ⟨gr, k * 2, none⟩), .agg #[.int .i64 ((rs.getD k (0, 0)).1), .int .i64 ((rs.getD k (0, 0)).2)], .int .i64 (lev (List.take k rs)), .pointer (some ⟨g3, 0, none⟩), .int .i64 ((rs.getD k (0, 0)).1), .int .i64 ((lev (List.take k rs)) + ((rs.getD k (0, 0)).1)), .int .i64 (((k : Nat) : Int) + 1)]), (by kernel_rfl), H, (by omega)⟩

end Go.Proofs.Ytgpalgbdacoagaa
