/- Contract: a word taken apart (regs.part), a truth as a number (regs.flag). -/
import Derived.Test.YthmbiddnpogolaaJoin
namespace Go.Proofs.Ythmbiddnpogolaa
open Go.ChangeShapes Go.WideShapes Go.ChangeAt Go.RowKit
set_option linter.unusedVariables false

theorem info_int : (Try.prog.info? 3).map (fun i => (i.zero, i.size, i.bytes)) = some (some (.int .i64 0), 1, 8) := by kernel_rfl

/-- The parts of a word, by their widths. -/
def partsN (x : Nat) (ws : List Nat) : List Value := (List.range ws.length).map fun i => .int .i64 (P26.getV x (ws.take i).sum (ws.getD i 0))
theorem partsN_len (x : Nat) (ws : List Nat) : (partsN x ws).length = ws.length := by simp [partsN]
theorem sum_take_snoc (ws : List Nat) (k : Nat) (h : k < ws.length) : (ws.take (k + 1)).sum = (ws.take k).sum + ws.getD k 0 := by
  rw [take_snoc ws k h 0]; simp
theorem sum_take_le (ws : List Nat) (k : Nat) : (ws.take k).sum ≤ ws.sum := by
  have : (ws.take k ++ ws.drop k).sum = ws.sum := by rw [List.take_append_drop]
  rw [List.sum_append] at this
  omega

def widthsAt (w : World) (g : Nat) (ws : List Nat) : Prop := ∀ i, i < ws.length → w.cell? ⟨g, i, none⟩ = some (.int .i64 (ws.getD i 0))

def PartPost (w : World) (x : Nat) (ws : List Nat) (e : Ending) (w' : World) : Prop :=
  ∃ v, e = .returned v ∧ w'.ownsRow w.heap.size 3 1 v ws.length (partsN x ws) ∧ Below w.heap.size w w'

set_option maxRecDepth 100000 in
set_option maxHeartbeats 1000000 in
theorem part_any (x g cap : Nat) (ws : List Nat) (hx : x < 18446744073709551616) (h1 : ∀ n ∈ ws, 1 ≤ n ∧ n ≤ 63) (h2 : ws.sum ≤ 64) (hl : ws.length ≤ 64) (w : World) (hg : g < w.heap.size) (hf : widthsAt w g ws) :
    Calls Try.prog 79 #[.int .u64 x, .slice (some ⟨g, 0, none⟩) ws.length cap] w (PartPost w x ws) := by
  obtain ⟨i0, hi, hz0, hz1, hz2⟩ := info_parts info_int
  go_enter Try.func79, Try.ntmps79
  go_wp2
  go_loopw [5, 6, 13] (fun v p i wr => ∃ k : Nat, k ≤ ws.length ∧ i = .int .i64 k ∧ p = .int .i64 ((ws.take k).sum : Nat) ∧ wr.ownsRow w.heap.size 3 1 v k ((partsN x ws).take k) ∧ Below w.heap.size w wr)
    (fun _ _ i _ => ws.length - (intOf i).toNat)
  case atStart => exact ⟨0, Nat.zero_le _, rfl, rfl, World.ownsRow_nil _ _ _ _, Below.refl _ _⟩
  case round =>
    obtain ⟨k, hk, rfl, rfl, hown, hb⟩ := hrel
    by_cases hlt : k < ws.length
    · have c0 := (hb.cell (p := ⟨g, k, none⟩) hg).trans (hf k hlt)
      obtain ⟨n1, n2⟩ := h1 _ (show ws.getD k 0 ∈ ws by rw [List.getD_eq_getElem?_getD, List.getElem?_eq_getElem hlt]; exact List.getElem_mem _)
      have hs1 := sum_take_snoc ws k hlt
      have hs2 := sum_take_le ws (k + 1)
      rw [hs1] at hs2
      have HS := Lib.hid hs1
      clear hs1
      have hv0 : (partsN x ws).getD k .nilFunc = .int .i64 (P26.getV x (ws.take k).sum (ws.getD k 0)) := by
        rw [List.getD_eq_getElem?_getD]; simp [partsN, hlt]
      have htk : (partsN x ws).take (k + 1) = (partsN x ws).take k ++ [.int .i64 (P26.getV x (ws.take k).sum (ws.getD k 0))] := by
        rw [List.take_succ_eq_append_getElem (by rw [partsN_len]; exact hlt), ← hv0]
        congr 1
        rw [List.getD_eq_getElem?_getD, List.getElem?_eq_getElem (by rw [partsN_len]; exact hlt)]; rfl
      have HT := Lib.hid htk
      clear htk hv0
      generalize ws.getD k 0 = n at *
      generalize (ws.take k).sum = A at *
      have hgl := P26.get_lt x A n
      have hgl2 : P26.getV x A n < 9223372036854775808 := Nat.lt_of_lt_of_le hgl (by have := Nat.pow_le_pow_right (show 0 < 2 by omega) n2; omega)
      generalize hG : P26.getV x A n = G at *
      have HG := Lib.hid hG
      clear hG hgl
      go_wp2_with fail
      refine (get_yes x A n hx n1 (by omega) _).mono ?_
      rw [HG.out]
      rintro e w' ⟨rfl, rfl⟩
      go_wp2_with (at_builtin; refine wpList_append_own _ rfl _ _ 51 rfl w.heap.size 3 i0 (.int .i64 0) 1 8 Try.underlying51 hi hz0 hz1 hz2 rfl (by decide) _ _ _ rfl (hown.alloc _) ⟨wr.heap.size, 0, none⟩ 1 1 [.int .i64 G] rfl rfl ?c1 ?c2 ?c3 ?c4 ?c5 ?_)
      case c1 =>
        intro j u hj
        match j, hj with
        | 0, hj => simp at hj; subst hj; simp [Addr.add]
      case c2 => intro u hu; simp at hu; subst hu; rfl
      case c3 => unfold maxLen; omega
      case c4 => omega
      case c5 => have := hb.size; simp; omega
      intro v' w1 hown' hgrow _
      have hb1 : Below w.heap.size w w1 := (hb.alloc hb.size _).grown hgrow (by have := hb.size; simp; omega) (by
        intro q hq
        rcases hown.2 with ⟨rfl, _⟩ | ⟨g', cap', cur, rfl, hg', _⟩
        · cases hq
        · cases hq; exact hg')
      rw [← HT.out] at hown'
      clear hgrow hown
      go_wp2
      go_roundw
      case rel => exact ⟨k + 1, by omega, by go_num, by rw [HS.out]; go_num, hown', hb1⟩
      case measure => simp [intOf]; omega
    · obtain rfl : k = ws.length := by omega
      have e : (partsN x ws).take ws.length = partsN x ws := List.take_of_length_le (by rw [partsN_len]; exact Nat.le_refl _)
      rw [e] at hown
      go_wp2
      go_ret
      exact ⟨_, rfl, hown, hb⟩

theorem flag_any (b : Bool) (w : World) : Calls Try.prog 92 #[.bool b] w fun e w' => e = .returned (.int .u64 (if b then 1 else 0)) ∧ w = w' := by
  cases b
  all_goals
    go_enter Try.func92, Try.ntmps92
    go_wp2
    go_ret
    exact ⟨rfl, rfl⟩
end Go.Proofs.Ythmbiddnpogolaa
