/- The document's Put at any list; Update; a step of a table and of the document's list. -/
import Derived.Test.YtpeefnbcgilihaaTabE
namespace Go.Proofs.Ytpeefnbcgilihaa
open Go Go.RowKit
set_option linter.unusedVariables false
set_option linter.unusedSimpArgs false

theorem RPut {sv : Value} (xs : List PairI) (room : Nat) (k v : Int) (hn : xs.length ≤ 4096) (h1 : 1 ≤ room) (w0 : World) (hR : Ro w0 [.row (sv) 77 2 (List.length xs) (List.flatMap pairLI xs)]) : Calls Try.prog 44 #[sv, .int .i64 ((room : Nat) : Int), .int .i64 k, .int .i64 v] w0 fun e w' => ∃ u, e = .returned (.tuple #[u, .int .i64 (putI room xs k v).2.1, .bool (putI room xs k v).2.2]) ∧ Hs [] w0 w' [.row (u) 77 2 (List.length ((putI room xs k v).1)) (List.flatMap pairLI ((putI room xs k v).1))] := by
  rcases rowForm (hR 0 _ rfl : w0.ownsRow 0 _ 2 sv _ _) with ⟨rfl, h0⟩ | ⟨g, cap, rfl, hc, _⟩
  · have e : putI room xs k v = (xs ++ [(k, v)], 0, false) := by unfold putI; rw [if_neg (by omega), if_pos (by omega)]
    rw [e]; exact RPut_room_n xs room k v hn (by omega) (by omega) w0 hR
  · by_cases hq : fkI xs k < xs.length
    · have e : putI room xs k v = (xs.set (fkI xs k) ((xs.getD (fkI xs k) (0, 0)).1, v), 0, false) := by unfold putI; rw [if_pos hq]
      rw [e]; exact RPut_set xs room k v hn hq w0 hR
    · by_cases hlt : xs.length < room
      · have e : putI room xs k v = (xs ++ [(k, v)], 0, false) := by unfold putI; rw [if_neg hq, if_pos hlt]
        rw [e]; exact RPut_room_s xs room k v hn hq hlt w0 hR
      · have e : putI room xs k v = (xs.eraseIdx (ltI xs xs.length).1 ++ [(k, v)], (xs.getD (ltI xs xs.length).1 (0, 0)).1, true) := by unfold putI; rw [if_neg hq, if_neg hlt]
        rw [e]; exact RPut_evict xs room k v hn hq hlt h1 w0 hR
/-- All values, turned by some. -/
def xorI (V : Int) (xs : List PairI) : List PairI := xs.map fun x => (x.1, bits .xor .i64 x.2 V)
theorem xorI_len (V : Int) (xs : List PairI) : (xorI V xs).length = xs.length := by simp [xorI]
theorem xorI_app (V : Int) (xs ys : List PairI) : xorI V (xs ++ ys) = xorI V xs ++ xorI V ys := by simp [xorI]
/-- The first so many values, turned in place. -/
def updI (V : Int) (xs : List PairI) : Nat → List PairI
  | 0 => xs
  | k + 1 => (updI V xs k).set k (((updI V xs k).getD k (0, 0)).1, bits .xor .i64 ((updI V xs k).getD k (0, 0)).2 V)
theorem updI_len (V : Int) (xs : List PairI) : ∀ k, (updI V xs k).length = xs.length
  | 0 => rfl
  | k + 1 => by rw [updI, List.length_set, updI_len V xs k]
theorem updI_eq (V : Int) (xs : List PairI) : ∀ k, k ≤ xs.length → updI V xs k = xorI V (xs.take k) ++ xs.drop k
  | 0, _ => rfl
  | k + 1, h => by
    have hl : (xorI V (xs.take k)).length = k := by rw [xorI_len, List.length_take]; omega
    have e : xs.drop k = xs.getD k (0, 0) :: xs.drop (k + 1) := by rw [List.drop_eq_getElem_cons (by omega)]; simp [List.getD, show k < xs.length by omega]
    have e2 : (xorI V (xs.take k) ++ xs.drop k).getD k (0, 0) = xs.getD k (0, 0) := by
      simp [List.getD, List.getElem?_append, hl]
    rw [updI, updI_eq V xs k (by omega), e2, e, List.set_append, if_neg (by omega), hl, Nat.sub_self, List.set_cons_zero, take_nextP xs k (by omega), xorI_app]
    simp [xorI]
theorem updI_all (V : Int) (xs : List PairI) : updI V xs xs.length = xorI V xs := by
  rw [updI_eq V xs _ (Nat.le_refl _), List.take_length, List.drop_length, List.append_nil]

set_option maxRecDepth 100000 in
set_option maxHeartbeats 4000000 in
theorem TRoom {t : Nat} {sv : Value} {xs : List PairI} {room : Nat} (w0 : World) (hR : Ro w0 [.blk t #[sv, .int .i64 ((room : Nat) : Int), .func (.func 26) #[] #[]] 90, .row (sv) 92 2 (List.length xs) (List.flatMap pairLI xs)]) :
    Calls Try.prog 49 #[.pointer (some ⟨t, 0, none⟩)] w0 fun e w' => e = .returned (.int .i64 ((room : Nat) : Int)) ∧ Below w0.heap.size w0 w' := by
  refine x_enter Try.func49 rfl #[.pointer (some ⟨t, 0, none⟩), undef, undef, undef, undef, undef, undef] (by kernel_rfl) ?_
  have H := Hs.nil w0
  have R0 := hR
  refine x_seq ?_
  refine x_region ?_
  refine x_val (.int .i64 0) (by kernel_rfl) rfl (by kernel_rfl) ?_
  refine x_nil ?_
  refine x_then ?_
  refine x_seq ?_
  refine x_region ?_
  refine x_val (.pointer (some ⟨t, 0, none⟩)) (by kernel_rfl) rfl (by kernel_rfl) ?_
  refine x_val (.pointer (some ⟨t, 0, none⟩)) (by kernel_rfl) rfl (by kernel_rfl) ?_
  refine x_val (.pointer (some ⟨t, 1, none⟩)) (by kernel_rfl) rfl (by kernel_rfl) ?_
  refine x_loadc t 1 (.int .i64 ((room : Nat) : Int)) ((H.ro R0).cell 0 rfl 1 rfl) (by kernel_rfl) rfl (by kernel_rfl) ?_
  refine x_val (.int .i64 ((room : Nat) : Int)) (by kernel_rfl) rfl (by kernel_rfl) ?_
  refine x_nil ?_
  refine x_then ?_
  refine x_retc ?_
  refine x_ret (.int .i64 ((room : Nat) : Int)) (by kernel_rfl) (by kernel_rfl) ?_
  exact ⟨rfl, H.below⟩

set_option maxRecDepth 100000 in
set_option maxHeartbeats 4000000 in
theorem upd1 {b : Nat} {o1 o2 V : Int} (k v : Int) (w0 : World) (hR : Ro w0 [.blk b #[.int .i64 o1, .int .i64 o2, .int .i64 V] 69]) :
    Calls Try.prog 48 #[.int .i64 k, .int .i64 v, .pointer (some ⟨b, 0, none⟩)] w0 fun e w' => e = .returned (.int .i64 (bits .xor .i64 v V)) ∧ Below w0.heap.size w0 w' := by
  refine x_enter Try.func48 rfl #[.int .i64 k, .int .i64 v, .pointer (some ⟨b, 0, none⟩), undef, undef, undef, undef, undef, undef, undef] (by kernel_rfl) ?_
  have H := Hs.nil w0
  have R0 := hR
  refine x_seq ?_
  refine x_region ?_
  refine x_val (.int .i64 0) (by kernel_rfl) rfl (by kernel_rfl) ?_
  refine x_nil ?_
  refine x_then ?_
  refine x_seq ?_
  refine x_region ?_
  refine x_val (.int .i64 v) (by kernel_rfl) rfl (by kernel_rfl) ?_
  refine x_val (.pointer (some ⟨b, 2, none⟩)) (by kernel_rfl) rfl (by kernel_rfl) ?_
  refine x_loadc b 2 (.int .i64 V) ((H.ro R0).cell 0 rfl 2 rfl) (by kernel_rfl) rfl (by kernel_rfl) ?_
  refine x_val (.int .i64 (bits .xor .i64 v V)) (by kernel_rfl) rfl (by kernel_rfl) ?_
  refine x_val (.int .i64 (bits .xor .i64 v V)) (by kernel_rfl) rfl (by kernel_rfl) ?_
  refine x_nil ?_
  refine x_then ?_
  refine x_retc ?_
  refine x_ret (.int .i64 (bits .xor .i64 v V)) (by kernel_rfl) (by kernel_rfl) ?_
  exact ⟨rfl, H.below⟩

set_option maxRecDepth 100000 in
set_option maxHeartbeats 4000000 in
theorem Update_s {t b room : Nat} {g cap : Nat} {xs : List PairI} {o1 o2 V : Int} (hn : xs.length ≤ 4096) (w0 : World) (H0 : Hs (fps [.blk t #[.slice (some ⟨g, 0, none⟩) (List.length xs) cap, .int .i64 ((room : Nat) : Int), .func (.func 26) #[] #[]] 90, .row (.slice (some ⟨g, 0, none⟩) (List.length xs) cap) 92 2 (List.length xs) (List.flatMap pairLI xs), .blk b #[.int .i64 o1, .int .i64 o2, .int .i64 V] 69]) w0 w0 [.blk t #[.slice (some ⟨g, 0, none⟩) (List.length xs) cap, .int .i64 ((room : Nat) : Int), .func (.func 26) #[] #[]] 90, .row (.slice (some ⟨g, 0, none⟩) (List.length xs) cap) 92 2 (List.length xs) (List.flatMap pairLI xs), .blk b #[.int .i64 o1, .int .i64 o2, .int .i64 V] 69]) :
    Calls Try.prog 47 #[.pointer (some ⟨t, 0, none⟩), .func (.func 48) #[] #[.pointer (some ⟨b, 0, none⟩)]] w0 fun e w' => e = .returned (.tuple #[]) ∧ Hs (fps [.blk t #[.slice (some ⟨g, 0, none⟩) (List.length xs) cap, .int .i64 ((room : Nat) : Int), .func (.func 26) #[] #[]] 90, .row (.slice (some ⟨g, 0, none⟩) (List.length xs) cap) 92 2 (List.length xs) (List.flatMap pairLI xs), .blk b #[.int .i64 o1, .int .i64 o2, .int .i64 V] 69]) w0 w' [.blk t #[.slice (some ⟨g, 0, none⟩) (List.length xs) cap, .int .i64 ((room : Nat) : Int), .func (.func 26) #[] #[]] 90, .row (.slice (some ⟨g, 0, none⟩) (List.length xs) cap) 92 2 (List.length (xorI V xs)) (List.flatMap pairLI (xorI V xs)), .blk b #[.int .i64 o1, .int .i64 o2, .int .i64 V] 69] := by
  refine x_enter Try.func47 rfl #[.pointer (some ⟨t, 0, none⟩), .func (.func 48) #[] #[.pointer (some ⟨b, 0, none⟩)], undef, undef, undef, undef, undef, undef, undef, undef, undef, undef, undef, undef, undef, undef, undef, undef, undef, undef, undef, undef, undef, undef, undef, undef, undef, undef, undef, undef] (by kernel_rfl) ?_
  have H := H0
  refine x_seq ?_
  refine x_region ?_
  refine x_val (.pointer (some ⟨t, 0, none⟩)) (by kernel_rfl) rfl (by kernel_rfl) ?_
  refine x_val (.pointer (some ⟨t, 0, none⟩)) (by kernel_rfl) rfl (by kernel_rfl) ?_
  refine x_val (.pointer (some ⟨t, 0, none⟩)) (by kernel_rfl) rfl (by kernel_rfl) ?_
  refine x_load1 H 0 t 0 #[.slice (some ⟨g, 0, none⟩) (List.length xs) cap, .int .i64 ((room : Nat) : Int), .func (.func 26) #[] #[]] 90 (.slice (some ⟨g, 0, none⟩) (List.length xs) cap) (by kernel_rfl) (by kernel_rfl) (by kernel_rfl) rfl (by kernel_rfl) ?_
  refine x_val (.int .i64 (((List.length xs) : Nat) : Int)) (by kernel_rfl) rfl (by kernel_rfl) ?_
  refine x_val (.int .i64 0) (by kernel_rfl) rfl (by kernel_rfl) ?_
  refine x_nil ?_
  refine x_then ?_
  refine x_block ?_
  refine x_loop (G := Nat) (fun (k : Nat) a w' => ∃ uf1 : Nat → Value, a = { tmps := #[.pointer (some ⟨t, 0, none⟩), .func (.func 48) #[] #[.pointer (some ⟨b, 0, none⟩)], undef, undef, (uf1 0), (uf1 1), .pointer (some ⟨t, 0, none⟩), .pointer (some ⟨t, 0, none⟩), .pointer (some ⟨t, 0, none⟩), .slice (some ⟨g, 0, none⟩) (List.length xs) cap, .int .i64 (((List.length xs) : Nat) : Int), .int .i64 ((k : Nat) : Int), (uf1 2), (uf1 3), (uf1 4), (uf1 5), (uf1 6), (uf1 7), (uf1 8), (uf1 9), (uf1 10), (uf1 11), (uf1 12), (uf1 13), (uf1 14), (uf1 15), (uf1 16), (uf1 17), (uf1 18), (uf1 19)], defers := [] } ∧ Hs (fps [.blk t #[.slice (some ⟨g, 0, none⟩) (List.length xs) cap, .int .i64 ((room : Nat) : Int), .func (.func 26) #[] #[]] 90, .row (.slice (some ⟨g, 0, none⟩) (List.length xs) cap) 92 2 (List.length xs) (List.flatMap pairLI xs), .blk b #[.int .i64 o1, .int .i64 o2, .int .i64 V] 69]) w0 w' [.blk t #[.slice (some ⟨g, 0, none⟩) (List.length xs) cap, .int .i64 ((room : Nat) : Int), .func (.func 26) #[] #[]] 90, .row (.slice (some ⟨g, 0, none⟩) (List.length xs) cap) 92 2 (List.length xs) (List.flatMap pairLI (updI V xs k)), .blk b #[.int .i64 o1, .int .i64 o2, .int .i64 V] 69] ∧ (k ≤ xs.length)) (fun (k : Nat) => xs.length - k) 0 ⟨(nthV [undef, undef, undef, undef, undef, undef, undef, undef, undef, undef, undef, undef, undef, undef, undef, undef, undef, undef, undef, undef]), (by kernel_rfl), H, (Nat.zero_le _)⟩ ?_
  clear H
  rintro k _ v1 ⟨uf1, rfl, H, r1⟩
  have hul := updI_len V xs k
  refine x_seq ?_
  refine x_region ?_
  refine x_val (.bool (decide (((k : Nat) : Int) < (((List.length xs) : Nat) : Int)))) (by kernel_rfl) rfl (by kernel_rfl) ?_
  refine x_nil ?_
  refine x_then ?_
  refine x_seq ?_
  cases h1 : decide (((k : Nat) : Int) < (((List.length xs) : Nat) : Int))
  · skip
    have h1p := of_decide_eq_false h1
    refine x_f (by kernel_rfl) ?_
    refine x_exit ?_
    refine x_then_exit ?_
    refine x_then_exit ?_
    refine x_blk_exit ?_
    refine x_end (.tuple #[]) (by kernel_rfl) (by kernel_rfl) ?_
    have hk : k = xs.length := by omega
    subst hk
    have hx := H
    rw [updI_all] at hx
    refine ⟨rfl, ?_⟩
    rw [xorI_len]
    exact hx
  · skip
    have h1p := of_decide_eq_true h1
    refine x_t (by kernel_rfl) ?_
    refine x_skipc ?_
    refine x_then ?_
    refine x_seq ?_
    refine x_block ?_
    refine x_seq ?_
    refine x_region ?_
    refine x_val (.int .i64 ((k : Nat) : Int)) (by kernel_rfl) rfl (by kernel_rfl) ?_
    refine x_ix (t := 88) g 0 k (List.length xs) cap 92 2 (k * 2) (by omega) (by omega) (by kernel_rfl) (by kernel_rfl) (by kernel_rfl) rfl (by kernel_rfl) ?_
    refine x_loadcn (t := 92) g (k * 2) [.int .i64 (((updI V xs k).getD k (0, 0)).1), .int .i64 (((updI V xs k).getD k (0, 0)).2)] (H.rowCells 1 rfl (k * 2) (flatAt pairLenI (0, 0) _ (by omega))) (by kernel_rfl) rfl (by kernel_rfl) (by kernel_rfl) ?_
    refine x_box H #[.int .i64 0, .int .i64 0] 92 (by kernel_rfl) rfl (by kernel_rfl) ?_
    clear H
    intro v2 g1 H
    refine x_val (.int .i64 ((k : Nat) : Int)) (by kernel_rfl) rfl (by kernel_rfl) ?_
    refine x_store (t := 92) (v := .agg #[.int .i64 (((updI V xs k).getD k (0, 0)).1), .int .i64 (((updI V xs k).getD k (0, 0)).2)]) H 0 g1 0 #[.int .i64 0, .int .i64 0] #[.int .i64 (((updI V xs k).getD k (0, 0)).1), .int .i64 (((updI V xs k).getD k (0, 0)).2)] 92 [.int .i64 (((updI V xs k).getD k (0, 0)).1), .int .i64 (((updI V xs k).getD k (0, 0)).2)] [.blk g1 #[.int .i64 (((updI V xs k).getD k (0, 0)).1), .int .i64 (((updI V xs k).getD k (0, 0)).2)] 92, .blk t #[.slice (some ⟨g, 0, none⟩) (List.length xs) cap, .int .i64 ((room : Nat) : Int), .func (.func 26) #[] #[]] 90, .row (.slice (some ⟨g, 0, none⟩) (List.length xs) cap) 92 2 (List.length xs) (List.flatMap pairLI (updI V xs k)), .blk b #[.int .i64 o1, .int .i64 o2, .int .i64 V] 69] (by kernel_rfl) rfl (by kernel_rfl) (by kernel_rfl) (by kernel_rfl) (by kernel_rfl) (by kernel_rfl) (by kernel_rfl) (by kernel_rfl) (by kernel_rfl) ?_
    clear H
    intro v3 H
    refine x_nil ?_
    refine x_then ?_
    refine x_region_head 13 (fun w' => Hs (fps [.blk t #[.slice (some ⟨g, 0, none⟩) (List.length xs) cap, .int .i64 ((room : Nat) : Int), .func (.func 26) #[] #[]] 90, .row (.slice (some ⟨g, 0, none⟩) (List.length xs) cap) 92 2 (List.length xs) (List.flatMap pairLI xs), .blk b #[.int .i64 o1, .int .i64 o2, .int .i64 V] 69]) w0 w' [.blk g1 #[.int .i64 (((updI V xs k).getD k (0, 0)).1), .int .i64 (((updI V xs k).getD k (0, 0)).2)] 92, .blk t #[.slice (some ⟨g, 0, none⟩) (List.length xs) cap, .int .i64 ((room : Nat) : Int), .func (.func 26) #[] #[]] 90, .row (.slice (some ⟨g, 0, none⟩) (List.length xs) cap) 92 2 (List.length xs) (List.flatMap pairLI (updI V xs k)), .blk b #[.int .i64 o1, .int .i64 o2, .int .i64 V] 69]) (by kernel_rfl) (by kernel_rfl) (by kernel_rfl) H.drew ?_
    simp only [List.take_succ_cons, List.take_zero, List.drop_succ_cons, List.drop_zero]
    refine q_val (.pointer (some ⟨t, 0, none⟩)) (by kernel_rfl) (fun _ => by kernel_rfl) ?_
    refine q_val (.pointer (some ⟨t, 0, none⟩)) (by kernel_rfl) (fun _ => by kernel_rfl) ?_
    refine q_val (.pointer (some ⟨t, 0, none⟩)) (by kernel_rfl) (fun _ => by kernel_rfl) ?_
    refine q_load1 1 t 0 #[.slice (some ⟨g, 0, none⟩) (List.length xs) cap, .int .i64 ((room : Nat) : Int), .func (.func 26) #[] #[]] 90 (.slice (some ⟨g, 0, none⟩) (List.length xs) cap) (by kernel_rfl) (by kernel_rfl) (by kernel_rfl) (fun _ => by kernel_rfl) ?_
    refine q_val (.int .i64 ((k : Nat) : Int)) (by kernel_rfl) (fun _ => by kernel_rfl) ?_
    refine q_val (.func (.func 48) #[] #[.pointer (some ⟨b, 0, none⟩)]) (by kernel_rfl) (fun _ => by kernel_rfl) ?_
    refine q_val (.pointer (some ⟨g1, 0, none⟩)) (by kernel_rfl) (fun _ => by kernel_rfl) ?_
    refine q_load1 0 g1 0 #[.int .i64 (((updI V xs k).getD k (0, 0)).1), .int .i64 (((updI V xs k).getD k (0, 0)).2)] 92 (.int .i64 (((updI V xs k).getD k (0, 0)).1)) (by kernel_rfl) (by kernel_rfl) (by kernel_rfl) (fun _ => by kernel_rfl) ?_
    refine q_val (.pointer (some ⟨g1, 1, none⟩)) (by kernel_rfl) (fun _ => by kernel_rfl) ?_
    refine q_load1 0 g1 1 #[.int .i64 (((updI V xs k).getD k (0, 0)).1), .int .i64 (((updI V xs k).getD k (0, 0)).2)] 92 (.int .i64 (((updI V xs k).getD k (0, 0)).2)) (by kernel_rfl) (by kernel_rfl) (by kernel_rfl) (fun _ => by kernel_rfl) ?_
    refine q_callR (.int .i64 (bits .xor .i64 (((updI V xs k).getD k (0, 0)).2) V)) (by kernel_rfl) (fun _ => by kernel_rfl) (fun _ H => (upd1 (((updI V xs k).getD k (0, 0)).1) (((updI V xs k).getD k (0, 0)).2) _ (H.roOf [3] [.blk b #[.int .i64 o1, .int .i64 o2, .int .i64 V] 69] (by kernel_rfl)))) ?_
    refine q_ix (t := 88) g 0 k (List.length xs) cap 92 2 (k * 2) (by omega) (by omega) (by kernel_rfl) (by kernel_rfl) (by kernel_rfl) (fun _ => by kernel_rfl) ?_
    refine q_val (.pointer (some ⟨g, k * 2 + 1, none⟩)) (by kernel_rfl) (fun _ => by kernel_rfl) ?_
    refine q_nil ?_
    clear H
    intro v4 H
    refine x_storeRow (t := 3) (v := .int .i64 (bits .xor .i64 (((updI V xs k).getD k (0, 0)).2) V)) H 2 g (k * 2 + 1) (List.length xs) cap 92 2 (List.flatMap pairLI (updI V xs k)) [.int .i64 (bits .xor .i64 (((updI V xs k).getD k (0, 0)).2) V)] (List.flatMap pairLI ((updI V xs k).set k (((updI V xs k).getD k (0, 0)).1, bits .xor .i64 ((updI V xs k).getD k (0, 0)).2 V))) [.blk g1 #[.int .i64 (((updI V xs k).getD k (0, 0)).1), .int .i64 (((updI V xs k).getD k (0, 0)).2)] 92, .blk t #[.slice (some ⟨g, 0, none⟩) (List.length xs) cap, .int .i64 ((room : Nat) : Int), .func (.func 26) #[] #[]] 90, .row (.slice (some ⟨g, 0, none⟩) (List.length xs) cap) 92 2 (List.length xs) (List.flatMap pairLI ((updI V xs k).set k (((updI V xs k).getD k (0, 0)).1, bits .xor .i64 ((updI V xs k).getD k (0, 0)).2 V))), .blk b #[.int .i64 o1, .int .i64 o2, .int .i64 V] 69] rfl (by simp only [List.length_cons, List.length_nil]; omega) (by kernel_rfl) (flatSet pairLenI (d := (0, 0)) (updI V xs k) (by omega) 1 _ _ rfl) rfl (by kernel_rfl) rfl (by kernel_rfl) (by kernel_rfl) (by kernel_rfl) ?_
    clear H
    intro v5 H
    refine x_nil ?_
    refine x_blk ?_
    refine x_then ?_
    refine x_region ?_
    refine x_ar (((k : Nat) : Int) + 1) ⟨by omega, by omega⟩ (by kernel_rfl) rfl (by kernel_rfl) ?_
    refine x_val (.int .i64 (((k : Nat) : Int) + 1)) (by kernel_rfl) rfl (by kernel_rfl) ?_
    refine x_nil ?_
    refine x_then ?_
    replace H := H.pick [1, 2, 3] [.blk t #[.slice (some ⟨g, 0, none⟩) (List.length xs) cap, .int .i64 ((room : Nat) : Int), .func (.func 26) #[] #[]] 90, .row (.slice (some ⟨g, 0, none⟩) (List.length xs) cap) 92 2 (List.length xs) (List.flatMap pairLI ((updI V xs k).set k (((updI V xs k).getD k (0, 0)).1, bits .xor .i64 ((updI V xs k).getD k (0, 0)).2 V))), .blk b #[.int .i64 o1, .int .i64 o2, .int .i64 V] 69] (by decide) (by kernel_rfl)
    exact ⟨(k + 1), (by omega), (nthV [.int .i64 ((k : Nat) : Int), .pointer (some ⟨g1, 0, none⟩), .bool true, .int .i64 ((k : Nat) : Int), .pointer (some ⟨g, k * 2, none⟩), .agg #[.int .i64 (((updI V xs k).getD k (0, 0)).1), .int .i64 (((updI V xs k).getD k (0, 0)).2)], .pointer (some ⟨t, 0, none⟩), .pointer (some ⟨t, 0, none⟩), .pointer (some ⟨t, 0, none⟩), .slice (some ⟨g, 0, none⟩) (List.length xs) cap, .int .i64 ((k : Nat) : Int), .func (.func 48) #[] #[.pointer (some ⟨b, 0, none⟩)], .pointer (some ⟨g1, 0, none⟩), .int .i64 (((updI V xs k).getD k (0, 0)).1), .pointer (some ⟨g1, 1, none⟩), .int .i64 (((updI V xs k).getD k (0, 0)).2), .int .i64 (bits .xor .i64 (((updI V xs k).getD k (0, 0)).2) V), .pointer (some ⟨g, k * 2, none⟩), .pointer (some ⟨g, k * 2 + 1, none⟩), .int .i64 (((k : Nat) : Int) + 1)]), (by kernel_rfl), H, (by omega)⟩

set_option maxRecDepth 100000 in
set_option maxHeartbeats 4000000 in
theorem Update_n {t b room : Nat} {xs : List PairI} {o1 o2 V : Int} (hn : xs.length ≤ 4096) (h0 : xs.length = 0) (w0 : World) (H0 : Hs (fps [.blk t #[.slice none 0 0, .int .i64 ((room : Nat) : Int), .func (.func 26) #[] #[]] 90, .row (.slice none 0 0) 92 2 (List.length xs) (List.flatMap pairLI xs), .blk b #[.int .i64 o1, .int .i64 o2, .int .i64 V] 69]) w0 w0 [.blk t #[.slice none 0 0, .int .i64 ((room : Nat) : Int), .func (.func 26) #[] #[]] 90, .row (.slice none 0 0) 92 2 (List.length xs) (List.flatMap pairLI xs), .blk b #[.int .i64 o1, .int .i64 o2, .int .i64 V] 69]) :
    Calls Try.prog 47 #[.pointer (some ⟨t, 0, none⟩), .func (.func 48) #[] #[.pointer (some ⟨b, 0, none⟩)]] w0 fun e w' => e = .returned (.tuple #[]) ∧ Hs (fps [.blk t #[.slice none 0 0, .int .i64 ((room : Nat) : Int), .func (.func 26) #[] #[]] 90, .row (.slice none 0 0) 92 2 (List.length xs) (List.flatMap pairLI xs), .blk b #[.int .i64 o1, .int .i64 o2, .int .i64 V] 69]) w0 w' [.blk t #[.slice none 0 0, .int .i64 ((room : Nat) : Int), .func (.func 26) #[] #[]] 90, .row (.slice none 0 0) 92 2 (List.length (xorI V xs)) (List.flatMap pairLI (xorI V xs)), .blk b #[.int .i64 o1, .int .i64 o2, .int .i64 V] 69] := by
  refine x_enter Try.func47 rfl #[.pointer (some ⟨t, 0, none⟩), .func (.func 48) #[] #[.pointer (some ⟨b, 0, none⟩)], undef, undef, undef, undef, undef, undef, undef, undef, undef, undef, undef, undef, undef, undef, undef, undef, undef, undef, undef, undef, undef, undef, undef, undef, undef, undef, undef, undef] (by kernel_rfl) ?_
  have H := H0
  refine x_seq ?_
  refine x_region ?_
  refine x_val (.pointer (some ⟨t, 0, none⟩)) (by kernel_rfl) rfl (by kernel_rfl) ?_
  refine x_val (.pointer (some ⟨t, 0, none⟩)) (by kernel_rfl) rfl (by kernel_rfl) ?_
  refine x_val (.pointer (some ⟨t, 0, none⟩)) (by kernel_rfl) rfl (by kernel_rfl) ?_
  refine x_load1 H 0 t 0 #[.slice none 0 0, .int .i64 ((room : Nat) : Int), .func (.func 26) #[] #[]] 90 (.slice none 0 0) (by kernel_rfl) (by kernel_rfl) (by kernel_rfl) rfl (by kernel_rfl) ?_
  refine x_val (.int .i64 0) (by kernel_rfl) rfl (by kernel_rfl) ?_
  refine x_val (.int .i64 0) (by kernel_rfl) rfl (by kernel_rfl) ?_
  refine x_nil ?_
  refine x_then ?_
  refine x_block ?_
  refine x_loop (G := Unit) (fun (_ : Unit) a w' => ∃ uf1 : Nat → Value, a = { tmps := #[.pointer (some ⟨t, 0, none⟩), .func (.func 48) #[] #[.pointer (some ⟨b, 0, none⟩)], undef, undef, (uf1 0), (uf1 1), .pointer (some ⟨t, 0, none⟩), .pointer (some ⟨t, 0, none⟩), .pointer (some ⟨t, 0, none⟩), .slice none 0 0, .int .i64 0, .int .i64 0, (uf1 2), (uf1 3), (uf1 4), (uf1 5), (uf1 6), (uf1 7), (uf1 8), (uf1 9), (uf1 10), (uf1 11), (uf1 12), (uf1 13), (uf1 14), (uf1 15), (uf1 16), (uf1 17), (uf1 18), (uf1 19)], defers := [] } ∧ Hs (fps [.blk t #[.slice none 0 0, .int .i64 ((room : Nat) : Int), .func (.func 26) #[] #[]] 90, .row (.slice none 0 0) 92 2 (List.length xs) (List.flatMap pairLI xs), .blk b #[.int .i64 o1, .int .i64 o2, .int .i64 V] 69]) w0 w' [.blk t #[.slice none 0 0, .int .i64 ((room : Nat) : Int), .func (.func 26) #[] #[]] 90, .row (.slice none 0 0) 92 2 (List.length xs) (List.flatMap pairLI xs), .blk b #[.int .i64 o1, .int .i64 o2, .int .i64 V] 69]) (fun _ => 0) () ⟨(nthV [undef, undef, undef, undef, undef, undef, undef, undef, undef, undef, undef, undef, undef, undef, undef, undef, undef, undef, undef, undef]), (by kernel_rfl), H⟩ ?_
  clear H
  rintro _ _ v1 ⟨uf1, rfl, H⟩
  refine x_seq ?_
  refine x_region ?_
  refine x_val (.bool false) (by kernel_rfl) rfl (by kernel_rfl) ?_
  refine x_nil ?_
  refine x_then ?_
  refine x_seq ?_
  refine x_f (by kernel_rfl) ?_
  refine x_exit ?_
  refine x_then_exit ?_
  refine x_then_exit ?_
  refine x_blk_exit ?_
  refine x_end (.tuple #[]) (by kernel_rfl) (by kernel_rfl) ?_
  have hx0 : xs = [] := List.length_eq_zero_iff.1 h0
  subst hx0
  exact ⟨rfl, H⟩

theorem Update {t b room : Nat} {sv : Value} {xs : List PairI} {o1 o2 V : Int} (hn : xs.length ≤ 4096) (w0 : World) (H0 : Hs (fps [.blk t #[sv, .int .i64 ((room : Nat) : Int), .func (.func 26) #[] #[]] 90, .row (sv) 92 2 (List.length xs) (List.flatMap pairLI xs), .blk b #[.int .i64 o1, .int .i64 o2, .int .i64 V] 69]) w0 w0 [.blk t #[sv, .int .i64 ((room : Nat) : Int), .func (.func 26) #[] #[]] 90, .row (sv) 92 2 (List.length xs) (List.flatMap pairLI xs), .blk b #[.int .i64 o1, .int .i64 o2, .int .i64 V] 69]) : Calls Try.prog 47 #[.pointer (some ⟨t, 0, none⟩), .func (.func 48) #[] #[.pointer (some ⟨b, 0, none⟩)]] w0 fun e w' => ∃ sv', e = .returned (.tuple #[]) ∧ Hs (fps [.blk t #[sv, .int .i64 ((room : Nat) : Int), .func (.func 26) #[] #[]] 90, .row (sv) 92 2 (List.length xs) (List.flatMap pairLI xs), .blk b #[.int .i64 o1, .int .i64 o2, .int .i64 V] 69]) w0 w' [.blk t #[sv', .int .i64 ((room : Nat) : Int), .func (.func 26) #[] #[]] 90, .row (sv') 92 2 (List.length (xorI V xs)) (List.flatMap pairLI (xorI V xs)), .blk b #[.int .i64 o1, .int .i64 o2, .int .i64 V] 69] := by
  rcases H0.rowForm 1 rfl with ⟨rfl, h0⟩ | ⟨g, cap, rfl, hc, _⟩
  · exact (Update_n hn h0 w0 H0).mono (fun e w' ⟨q1, q2⟩ => ⟨_, q1, q2⟩)
  · refine (Update_s hn w0 H0).mono (fun e w' ⟨q1, q2⟩ => ⟨.slice (some ⟨g, 0, none⟩) (List.length xs) cap, q1, ?_⟩)
    rw [xorI_len] at q2 ⊢
    exact q2

end Go.Proofs.Ytpeefnbcgilihaa
