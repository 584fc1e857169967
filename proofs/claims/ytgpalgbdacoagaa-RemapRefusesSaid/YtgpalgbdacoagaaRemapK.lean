/- Restore: the map of a state, or none. -/
import Derived.Test.YtgpalgbdacoagaaRemapQ
import Derived.Test.YtgpalgbdacoagaaOpenMix
namespace Go.Proofs.Ytgpalgbdacoagaa
open Go Go.RowKit
set_option linter.unusedVariables false
set_option linter.unusedSimpArgs false

/-- Is a number one of the first k? -/
def hasK (l : List Int) (k : Nat) (x : Int) : Bool := (List.range k).any fun i => decide (x = l.getD i 0)
theorem hasK_zero (l : List Int) (x : Int) : hasK l 0 x = false := rfl
theorem hasK_of {l : List Int} {k n : Nat} {x : Int} (h : k < n) (e : x = l.getD k 0) : hasK l n x = true := by
  unfold hasK; rw [List.any_eq_true]; exact ⟨k, List.mem_range.2 h, decide_eq_true e⟩
theorem hasK_ex {l : List Int} {n : Nat} {x : Int} (h : hasK l n x = true) : ∃ k, k < n ∧ x = l.getD k 0 := by
  unfold hasK at h; rw [List.any_eq_true] at h
  obtain ⟨k, hk, e⟩ := h; exact ⟨k, List.mem_range.1 hk, of_decide_eq_true e⟩
theorem hasK_next {l : List Int} {k : Nat} {x : Int} (h : hasK l k x = false) (e : ¬ x = l.getD k 0) : hasK l (k + 1) x = false := by
  rw [Bool.eq_false_iff] at h ⊢
  intro h'; obtain ⟨i, hi, e'⟩ := hasK_ex h'
  by_cases hik : i = k
  · subst hik; exact e e'
  · exact h (hasK_of (by omega) e')
theorem getD_setK (S : List Int) (q k : Nat) (v : Int) (hq : q < S.length) : (S.set q v).getD k 0 = if q = k then v else S.getD k 0 := by
  simp only [List.getD, List.getElem?_set]
  split
  · rename_i e; subst e; simp [hq]
  · rfl
def lastD (l : List Int) : Nat → Int
  | 0 => -1
  | k + 1 => l.getD k 0
/-- The dead ones rise, and are pages. -/
def okD (pg : Nat) (l : List Int) : Nat → Bool
  | 0 => true
  | k + 1 => okD pg l k && (decide (lastD l k < l.getD k 0) && decide (l.getD k 0 < ((pg : Nat) : Int)))
theorem okD_le {pg : Nat} {l : List Int} {k n : Nat} (h : k ≤ n) (hn : okD pg l n = true) : okD pg l k = true := by
  induction n with
  | zero => obtain rfl : k = 0 := by omega
            exact hn
  | succ n ih =>
    rcases Nat.lt_or_ge k (n + 1) with h1 | h1
    · rw [okD, Bool.and_eq_true] at hn; exact ih (by omega) hn.1
    · obtain rfl : k = n + 1 := by omega
      exact hn
theorem okD_at {pg : Nat} {l : List Int} {k n : Nat} (hn : okD pg l n = true) (h : k < n) : lastD l k < l.getD k 0 ∧ l.getD k 0 < (pg : Int) := by
  have := okD_le (k := k + 1) (by omega) hn
  rw [okD, Bool.and_eq_true, Bool.and_eq_true, decide_eq_true_eq, decide_eq_true_eq] at this
  exact this.2
theorem okD_nn {pg : Nat} {l : List Int} {n : Nat} (hn : okD pg l n = true) : ∀ k, k < n → 0 ≤ l.getD k 0 := by
  intro k
  induction k with
  | zero => intro h; have := (okD_at hn h).1; simp only [lastD] at this; omega
  | succ k ih => intro h; have := (okD_at hn h).1; simp only [lastD] at this; have := ih (by omega); omega
theorem okD_no {pg : Nat} {l : List Int} {k n : Nat} (hn : okD pg l n = true) (h : k < n) (hx : l.getD k 0 ≤ lastD l k ∨ (pg : Int) ≤ l.getD k 0) : False := by
  have := okD_at hn h; omega
theorem okD_yes {pg : Nat} {l : List Int} {k : Nat} (hn : okD pg l k = true) (h1 : lastD l k < l.getD k 0) (h2 : l.getD k 0 < (pg : Int)) : okD pg l (k + 1) = true := by
  rw [okD, hn, decide_eq_true h1, decide_eq_true h2]; rfl
theorem last_nn {pg : Nat} {l : List Int} {k : Nat} (hn : okD pg l k = true) : -1 ≤ lastD l k := by
  cases k with
  | zero => simp [lastD]
  | succ k => have := okD_nn hn k (by omega); simp only [lastD]; omega
def marks (pg : Nat) (l : List Int) : Nat → List Bool
  | 0 => List.replicate pg false
  | k + 1 => (marks pg l k).set (l.getD k 0).toNat true
theorem marks_len (pg : Nat) (l : List Int) (k : Nat) : (marks pg l k).length = pg := by
  induction k with
  | zero => simp [marks]
  | succ k ih => simp [marks, ih]
theorem marks_get {pg : Nat} {l : List Int} {k : Nat} (hn : okD pg l k = true) {h : Nat} (hh : h < pg) : (marks pg l k).getD h false = hasK l k ((h : Nat) : Int) := by
  induction k with
  | zero => rw [marks, rep_get, hasK_zero]
  | succ k ih =>
    have i1 := ih (okD_le (by omega) hn)
    have hp := okD_nn hn k (by omega)
    rw [marks, getD_set, marks_len, i1]
    by_cases e : (l.getD k 0).toNat = h
    · rw [if_pos ⟨e, hh⟩, hasK_of (k := k) (by omega) (by omega)]
    · rw [if_neg (fun x => e x.1)]
      cases hc : hasK l k (h : Int) with
      | true => obtain ⟨i, hi, e'⟩ := hasK_ex hc; rw [hasK_of (k := i) (by omega) e']
      | false => rw [hasK_next hc (by omega)]
/-- Pages live where the document says. -/
def okS (top : Int) (D : List Bool) (l : List Int) : Nat → Bool
  | 0 => true
  | k + 1 => okS top D l k && (((decide (0 ≤ l.getD k 0) && decide (l.getD k 0 < top)) && !(D.getD (l.getD k 0).toNat false)) && (D.getD k false == !(decide (l.getD k 0 = (k : Int)))))
theorem okS_le {top : Int} {D : List Bool} {l : List Int} {k n : Nat} (h : k ≤ n) (hn : okS top D l n = true) : okS top D l k = true := by
  induction n with
  | zero => obtain rfl : k = 0 := by omega
            exact hn
  | succ n ih =>
    rcases Nat.lt_or_ge k (n + 1) with h1 | h1
    · rw [okS, Bool.and_eq_true] at hn; exact ih (by omega) hn.1
    · obtain rfl : k = n + 1 := by omega
      exact hn
theorem okS_next {top : Int} {D : List Bool} {l : List Int} {k : Nat} (h : okS top D l k = true) (hu : ((decide (0 ≤ l.getD k 0) && decide (l.getD k 0 < top)) && !(D.getD (l.getD k 0).toNat false)) = true) (he : (D.getD k false != !(decide (l.getD k 0 = (k : Int)))) = false) : okS top D l (k + 1) = true := by
  have he' : (D.getD k false == !(decide (l.getD k 0 = (k : Int)))) = true := by
    revert he; cases D.getD k false <;> cases (decide (l.getD k 0 = (k : Int))) <;> decide
  rw [okS, h, hu, he']; rfl
theorem okS_not1 {top : Int} {D : List Bool} {l : List Int} {k : Nat} (hu : ((decide (0 ≤ l.getD k 0) && decide (l.getD k 0 < top)) && !(D.getD (l.getD k 0).toNat false)) = false) : okS top D l (k + 1) = false := by
  rw [okS, hu, Bool.false_and, Bool.and_false]
theorem okS_not2 {top : Int} {D : List Bool} {l : List Int} {k : Nat} (he : (D.getD k false != !(decide (l.getD k 0 = (k : Int)))) = true) : okS top D l (k + 1) = false := by
  have he' : (D.getD k false == !(decide (l.getD k 0 = (k : Int)))) = false := by
    revert he; cases D.getD k false <;> cases (decide (l.getD k 0 = (k : Int))) <;> decide
  rw [okS, he', Bool.and_false, Bool.and_false]
theorem off_le {f : Nat → Bool} {k n : Nat} (hle : ∀ k, k ≤ n → f n = true → f k = true) (h : f k = false) (hk : k ≤ n) : f n = false := by
  cases e : f n with
  | false => rfl
  | true => rw [hle k hk e] at h; exact h
def setsL (l L : List Int) : Nat → List Int
  | 0 => L
  | k + 1 => (setsL l L k).set k (l.getD k 0)
theorem setsL_len (l L : List Int) (k : Nat) : (setsL l L k).length = L.length := by
  induction k with
  | zero => rfl
  | succ k ih => simp [setsL, ih]
theorem setsL_get (l L : List Int) (n k : Nat) (hk : k < n) (hn : n ≤ L.length) : (setsL l L n).getD k 0 = l.getD k 0 := by
  induction n with
  | zero => omega
  | succ n ih =>
    rw [setsL, getD_setK _ _ _ _ (by rw [setsL_len]; omega)]
    split
    · rename_i e; rw [e]
    · exact ih (by omega) (by omega)
/-- Spares stand where the document says. -/
def okT (r ru : Int) (l : List Int) : Nat → Bool
  | 0 => true
  | k + 1 => okT r ru l k && (decide (l.getD k 0 = 0) || (decide (r ≤ l.getD k 0) && decide (l.getD k 0 < r + ru)))
theorem okT_le {r ru : Int} {l : List Int} {k n : Nat} (h : k ≤ n) (hn : okT r ru l n = true) : okT r ru l k = true := by
  induction n with
  | zero => obtain rfl : k = 0 := by omega
            exact hn
  | succ n ih =>
    rcases Nat.lt_or_ge k (n + 1) with h1 | h1
    · rw [okT, Bool.and_eq_true] at hn; exact ih (by omega) hn.1
    · obtain rfl : k = n + 1 := by omega
      exact hn
theorem okT_zero {r ru : Int} {l : List Int} {k : Nat} (h : okT r ru l k = true) (h0 : decide (l.getD k 0 = 0) = true) : okT r ru l (k + 1) = true := by
  rw [okT, h, h0]; rfl
theorem okT_in {r ru : Int} {l : List Int} {k : Nat} (h : okT r ru l k = true) (hb : (decide (r ≤ l.getD k 0) && decide (l.getD k 0 < r + ru)) = true) : okT r ru l (k + 1) = true := by
  rw [okT, h, hb, Bool.or_true]; rfl
theorem okT_not {r ru : Int} {l : List Int} {k : Nat} (h0 : decide (l.getD k 0 = 0) = false) (hb : (decide (r ≤ l.getD k 0) && decide (l.getD k 0 < r + ru)) = false) : okT r ru l (k + 1) = false := by
  rw [okT, h0, hb, Bool.or_false, Bool.and_false]
theorem okD_not {pg : Nat} {l : List Int} {k : Nat} (h : l.getD k 0 ≤ lastD l k ∨ ((pg : Nat) : Int) ≤ l.getD k 0) : okD pg l (k + 1) = false := by
  rw [okD]
  rcases h with h | h
  · rw [decide_eq_false (show ¬ lastD l k < l.getD k 0 by omega), Bool.false_and, Bool.and_false]
  · rw [decide_eq_false (show ¬ l.getD k 0 < (pg : Int) by omega), Bool.and_false, Bool.and_false]
def standL (l S : List Int) : Nat → List Int
  | 0 => S
  | k + 1 => if l.getD k 0 = 0 then standL l S k else (standL l S k).set k (l.getD k 0)
theorem standL_len (l S : List Int) (k : Nat) : (standL l S k).length = S.length := by
  induction k with
  | zero => rfl
  | succ k ih => rw [standL]; split <;> simp [ih]
theorem standL_get (l S : List Int) (n k : Nat) (hn : n ≤ S.length) : (standL l S n).getD k 0 = if k < n ∧ ¬ l.getD k 0 = 0 then l.getD k 0 else S.getD k 0 := by
  induction n with
  | zero => rw [if_neg (by omega)]; rfl
  | succ n ih =>
    have i1 := ih (by omega)
    rw [standL]
    by_cases e : l.getD n 0 = 0
    · rw [if_pos e, i1]
      by_cases hk : k < n ∧ ¬ l.getD k 0 = 0
      · rw [if_pos hk, if_pos ⟨by omega, hk.2⟩]
      · rw [if_neg hk, if_neg]
        intro h
        by_cases hkn : k = n
        · subst hkn; exact h.2 e
        · exact hk ⟨by omega, h.2⟩
    · rw [if_neg e, getD_setK _ _ _ _ (by rw [standL_len]; omega)]
      by_cases hkn : n = k
      · subst hkn; rw [if_pos rfl, if_pos ⟨by omega, e⟩]
      · rw [if_neg hkn, i1]
        by_cases hk : k < n ∧ ¬ l.getD k 0 = 0
        · rw [if_pos hk, if_pos ⟨by omega, hk.2⟩]
        · rw [if_neg hk, if_neg (fun h => hk ⟨by omega, h.2⟩)]
theorem wrap_sub {x r ru : Int} (x0 : -9223372036854775808 ≤ x) (x1 : x ≤ 9223372036854775807) (r1 : 1 ≤ r) (r2 : r ≤ 8) (u0 : 0 ≤ ru) (u1 : ru ≤ 8) :
    (decide (0 ≤ IntKind.i64.wrap (x - r)) && decide (IntKind.i64.wrap (x - r) < ru)) = (decide (r ≤ x) && decide (x < r + ru)) := by
  rw [IntKind.wrap_i64]
  rw [Bool.eq_iff_iff, Bool.and_eq_true, Bool.and_eq_true, decide_eq_true_eq, decide_eq_true_eq, decide_eq_true_eq, decide_eq_true_eq]
  constructor
  · rintro ⟨a, b⟩
    constructor <;> omega
  · rintro ⟨a, b⟩
    constructor <;> omega
/-- Are a state's lists a layout's? -/
def fitsB (nl sn nq : Nat) (r z s pu ru : Int) : Bool := ((decide (((nl : Nat) : Int) = ((sn : Nat) : Int)) && decide (((nq : Nat) : Int) = r)) && (decide (0 ≤ pu) && decide (pu < z + 1))) && (decide (0 ≤ ru) && decide (ru < s + 1))
section
variable {r s b o c y z : Int} {pg sn ns : Nat} (hL : Lay r s b o c y z pg sn ns)
include hL
theorem Used_any {p gl cl gd cd gs cs : Nat} {L : List Int} {D : List Bool} {S : List Int} {pu ru : Nat} (hM : MapOk z s sn pg ns L D S pu ru) (a : Int) (w0 : World) (hR : Ro w0 [.blk p #[.int .i64 r, .int .i64 s, .int .i64 b, .int .i64 o, .int .i64 c, .int .i64 y, .int .i64 z, .slice (some ⟨gl, 0, none⟩) sn cl, .slice (some ⟨gd, 0, none⟩) pg cd, .slice (some ⟨gs, 0, none⟩) ns cs, .int .i64 ((pu : Nat) : Int), .int .i64 ((ru : Nat) : Int)] 181, .row (.slice (some ⟨gl, 0, none⟩) sn cl) 3 1 sn (List.map (Value.int .i64) L), .row (.slice (some ⟨gd, 0, none⟩) pg cd) 4 1 pg (List.map Value.bool D), .row (.slice (some ⟨gs, 0, none⟩) ns cs) 3 1 ns (List.map (Value.int .i64) S)]) : Calls Try.prog 37 #[.pointer (some ⟨p, 0, none⟩), .int .i64 a] w0 fun e w' => e = .returned (.bool (usedB sn pu D a)) ∧ Below w0.heap.size w0 w' := by
  by_cases h : 0 ≤ a ∧ a < (sn : Int) + pu
  · obtain ⟨k, rfl⟩ := Int.eq_ofNat_of_zero_le h.1
    have hk : k < sn + pu := by omega
    have e : usedB sn pu D ((k : Nat) : Int) = !(D.getD k false) := by simp [usedB]; omega
    rw [e]; exact Used_in hL hM k hk w0 hR
  · have e : usedB sn pu D a = false := by
      rw [Bool.eq_false_iff]; intro hb
      obtain ⟨n, e1, e2, -⟩ := usedB_parts hb
      exact h ⟨by omega, by omega⟩
    rw [e]; exact Used_out hL hM a (fun h0 => by omega) w0 hR
end
theorem x_ixE {ρ : Option Nat} {P : Program} {ops : Array Oper} {Q : Exit → Act → World → Prop} {a : Act} {w : World} {o : Oper} {rest : List Oper} {t : TypeId} {i : Int} (g off k n c : Nat) (hi : i = ((k : Nat) : Int)) (el : TypeId) (sz m : Nat) (hk : k < n) (hm : off + k * sz = m) (h2 : (P.info? el).map (·.size) = some sz) (h1 : P.underlying t = some (.slice el)) (hw : Region.wanted o (yielded ops a.tmps) = true) (hd : opNd o = true)
    (h : (execOp a.eval o).run P w = ((Instr.indexAt t (.slice (some ⟨g, off, none⟩) n c) (.int .i64 i)).bind fun v => .pure (.value v)).run P w)
    (kk : XL ρ P ops Q rest (a.put o.dst (.pointer (some ⟨g, m, none⟩))) w) : XL ρ P ops Q (o :: rest) a w := by
  subst hi; exact x_ix g off k n c el sz m hk hm h2 h1 hw hd h kk

set_option maxRecDepth 100000 in
set_option maxHeartbeats 2000000 in
theorem has_at (ad : Option Addr) (n ca : Nat) (l : List Int) (x : Int) (hn : n ≤ 9223372036854775807) (w0 : World) (hI : IntsAt w0 ad n l) :
    Calls Try.prog 59 #[.slice ad n ca, .int .i64 x] w0 fun e w' => e = .returned (.bool (hasK l n x)) ∧ Below w0.heap.size w0 w' := by
  refine x_enter Try.func59 rfl #[.slice ad n ca, .int .i64 x, undef, undef, undef, undef, undef, undef, undef, undef, undef, undef, undef, undef, undef, undef, undef] (by kernel_rfl) ?_
  have H := Hs.nil w0
  refine x_seq ?_
  refine x_region ?_
  refine x_val (.bool false) (by kernel_rfl) rfl (by kernel_rfl) ?_
  refine x_nil ?_
  refine x_then ?_
  refine x_seq ?_
  refine x_seq ?_
  refine x_region ?_
  refine x_val (.slice ad n ca) (by kernel_rfl) rfl (by kernel_rfl) ?_
  refine x_val (.int .i64 ((n : Nat) : Int)) (by kernel_rfl) rfl (by kernel_rfl) ?_
  refine x_val (.int .i64 0) (by kernel_rfl) rfl (by kernel_rfl) ?_
  refine x_nil ?_
  refine x_then ?_
  refine x_block ?_
  refine x_loop (G := Nat) (fun (k : Nat) a w' => ∃ u4 : Value, ∃ u6 : Value, ∃ u10 : Value, ∃ u11 : Value, ∃ u12 : Value, ∃ u13 : Value, ∃ u14 : Value, ∃ u15 : Value, ∃ u16 : Value, a = { tmps := #[.slice ad n ca, .int .i64 x, undef, undef, u4, undef, u6, .slice ad n ca, .int .i64 ((n : Nat) : Int), .int .i64 ((k : Nat) : Int), u10, u11, u12, u13, u14, u15, u16], defers := [] } ∧ Hs [] w0 w' [] ∧ (k ≤ n) ∧ (hasK l k x = false)) (fun (k : Nat) => n - k) 0 ⟨(.bool false), undef, undef, undef, undef, undef, undef, undef, undef, (by kernel_rfl), H, (Nat.zero_le _), rfl⟩ ?_
  clear H
  rintro k _ v1 ⟨u4, u6, u10, u11, u12, u13, u14, u15, u16, rfl, H, r1, r2⟩
  refine x_seq ?_
  refine x_region ?_
  refine x_val (.bool (decide (((k : Nat) : Int) < ((n : Nat) : Int)))) (by kernel_rfl) rfl (by kernel_rfl) ?_
  refine x_nil ?_
  refine x_then ?_
  refine x_seq ?_
  cases h1 : decide (((k : Nat) : Int) < ((n : Nat) : Int))
  · skip
    have h1p := of_decide_eq_false h1
    refine x_f (by kernel_rfl) ?_
    refine x_exit ?_
    refine x_then_exit ?_
    refine x_then_exit ?_
    refine x_blk_exit ?_
    refine x_then ?_
    refine x_seq ?_
    refine x_region ?_
    refine x_val (.bool false) (by kernel_rfl) rfl (by kernel_rfl) ?_
    refine x_nil ?_
    refine x_then ?_
    refine x_retc ?_
    refine x_ret (.bool false) (by kernel_rfl) (by kernel_rfl) ?_
    obtain rfl : k = n := by omega
    exact ⟨by rw [r2], H.below⟩
  · skip
    have h1p := of_decide_eq_true h1
    refine x_t (by kernel_rfl) ?_
    refine x_skipc ?_
    refine x_then ?_
    refine x_seq ?_
    refine x_block ?_
    refine x_seq ?_
    refine x_region ?_
    obtain ⟨ga, oa, had, hcell⟩ := hI (by omega)
    refine x_ixO (t := 106) had k n ca 3 1 (oa + k) (by omega) (by omega) (by kernel_rfl) (by kernel_rfl) (by kernel_rfl) rfl (by kernel_rfl) ?_
    refine x_loadc ga (oa + k) (.int .i64 (l.getD k 0)) (hcell _ H.below k (by omega)) (by kernel_rfl) rfl (by kernel_rfl) ?_
    refine x_val (.int .i64 (l.getD k 0)) (by kernel_rfl) rfl (by kernel_rfl) ?_
    refine x_nil ?_
    refine x_then ?_
    refine x_seq ?_
    refine x_region ?_
    refine x_val (.int .i64 x) (by kernel_rfl) rfl (by kernel_rfl) ?_
    refine x_val (.int .i64 (l.getD k 0)) (by kernel_rfl) rfl (by kernel_rfl) ?_
    refine x_val (.bool (decide (x = (l.getD k 0)))) (by kernel_rfl) rfl (by kernel_rfl) ?_
    refine x_nil ?_
    refine x_then ?_
    cases h2 : decide (x = (l.getD k 0))
    · skip
      have h2p := of_decide_eq_false h2
      refine x_f (by kernel_rfl) ?_
      refine x_skipc ?_
      refine x_blk ?_
      refine x_then ?_
      refine x_region ?_
      refine x_ar (((k : Nat) : Int) + 1) ⟨by omega, by omega⟩ (by kernel_rfl) rfl (by kernel_rfl) ?_
      refine x_val (.int .i64 (((k : Nat) : Int) + 1)) (by kernel_rfl) rfl (by kernel_rfl) ?_
      refine x_nil ?_
      refine x_then ?_
      exact ⟨(k + 1), (by omega), u4, (.int .i64 (l.getD k 0)), (.bool true), (.pointer (some ⟨ga, oa + k, none⟩)), (.int .i64 (l.getD k 0)), (.int .i64 x), (.int .i64 (l.getD k 0)), (.bool false), (.int .i64 (((k : Nat) : Int) + 1)), (by kernel_rfl), H, (by omega), (hasK_next r2 (of_decide_eq_false h2))⟩
    · skip
      have h2p := of_decide_eq_true h2
      refine x_t (by kernel_rfl) ?_
      refine x_seq ?_
      refine x_region ?_
      refine x_val (.bool true) (by kernel_rfl) rfl (by kernel_rfl) ?_
      refine x_nil ?_
      refine x_then ?_
      refine x_retc ?_
      refine x_blk_ret ?_
      refine x_then_ret ?_
      refine x_then_ret ?_
      refine x_blk_ret ?_
      refine x_then_ret ?_
      refine x_ret (.bool true) (by kernel_rfl) (by kernel_rfl) ?_
      exact ⟨by rw [hasK_of (show k < n by omega) (of_decide_eq_true h2)], H.below⟩

set_option maxRecDepth 100000 in
set_option maxHeartbeats 2000000 in
theorem fits_any {r s b o c y z : Int} {pg sn ns : Nat} (hL : Lay r s b o c y z pg sn ns) (aL aD aS : Option Addr) (nl cL nd cD nq cS : Nat) (pu ru : Int) (w0 : World) :
    Calls Try.prog 132 #[.agg #[.slice aL nl cL, .slice aD nd cD, .slice aS nq cS, .int .i64 pu, .int .i64 ru], .agg #[.int .i64 r, .int .i64 s, .int .i64 b, .int .i64 o, .int .i64 c, .int .i64 y, .int .i64 z]] w0 fun e w' => e = .returned (.bool (fitsB nl sn nq r z s pu ru)) ∧ Below w0.heap.size w0 w' := by
  refine x_enter Try.func132 rfl #[.agg #[.slice aL nl cL, .slice aD nd cD, .slice aS nq cS, .int .i64 pu, .int .i64 ru], .agg #[.int .i64 r, .int .i64 s, .int .i64 b, .int .i64 o, .int .i64 c, .int .i64 y, .int .i64 z], undef, undef, undef, undef, undef, undef, undef, undef, undef, undef, undef, undef, undef, undef, undef, undef, undef, undef, undef, undef, undef, undef, undef, undef, undef, undef, undef, undef, undef, undef, undef, undef, undef, undef, undef] (by kernel_rfl) ?_
  have H := Hs.nil w0
  have hok := hL.ok
  obtain ⟨-, r1, r8, s0, s8, b1, b2, o1, o2, c1, c2, y0, y4, z0, z2, hpg, hsn, hns, sn1, pg2, ln0, ln2⟩ := id hL
  refine x_seq ?_
  refine x_region ?_
  refine x_box H #[.slice aL nl cL, .slice aD nd cD, .slice aS nq cS, .int .i64 pu, .int .i64 ru] 142 (by kernel_rfl) rfl (by kernel_rfl) ?_
  clear H
  intro v1 g1 H
  refine x_box H #[.int .i64 r, .int .i64 s, .int .i64 b, .int .i64 o, .int .i64 c, .int .i64 y, .int .i64 z] 69 (by kernel_rfl) rfl (by kernel_rfl) ?_
  clear H
  intro v2 g2 H
  refine x_val (.bool false) (by kernel_rfl) rfl (by kernel_rfl) ?_
  refine x_nil ?_
  refine x_then ?_
  refine x_seq ?_
  refine x_region_whole (fun w' => Hs [] w0 w' [.blk g2 #[.int .i64 r, .int .i64 s, .int .i64 b, .int .i64 o, .int .i64 c, .int .i64 y, .int .i64 z] 69, .blk g1 #[.slice aL nl cL, .slice aD nd cD, .slice aS nq cS, .int .i64 pu, .int .i64 ru] 142]) (by kernel_rfl) (by kernel_rfl) (by kernel_rfl) H.drew ?_
  refine q_val (.pointer (some ⟨g1, 0, none⟩)) (by kernel_rfl) (fun _ => by kernel_rfl) ?_
  refine q_load1 1 g1 0 #[.slice aL nl cL, .slice aD nd cD, .slice aS nq cS, .int .i64 pu, .int .i64 ru] 142 (.slice aL nl cL) (by kernel_rfl) (by kernel_rfl) (by kernel_rfl) (fun _ => by kernel_rfl) ?_
  refine q_val (.int .i64 ((nl : Nat) : Int)) (by kernel_rfl) (fun _ => by kernel_rfl) ?_
  refine q_loadn (t := 69) 0 g2 0 #[.int .i64 r, .int .i64 s, .int .i64 b, .int .i64 o, .int .i64 c, .int .i64 y, .int .i64 z] 69 [.int .i64 r, .int .i64 s, .int .i64 b, .int .i64 o, .int .i64 c, .int .i64 y, .int .i64 z] (by kernel_rfl) (by kernel_rfl) (by kernel_rfl) (by kernel_rfl) (by kernel_rfl) ?_
  refine q_callB (.int .i64 ((sn : Nat) : Int)) (by kernel_rfl) (fun _ => by kernel_rfl) (fun _ => (seen_of hL _)) ?_
  refine q_val (.bool (decide (((nl : Nat) : Int) = ((sn : Nat) : Int)))) (by kernel_rfl) (fun _ => by kernel_rfl) ?_
  refine q_val (.bool (decide (((nl : Nat) : Int) = ((sn : Nat) : Int)))) (by kernel_rfl) (fun _ => by kernel_rfl) ?_
  cases h1 : decide (((nl : Nat) : Int) = ((sn : Nat) : Int))
  · skip
    have h1p := of_decide_eq_false h1
    refine q_skip (by kernel_rfl) ?_
    refine q_skip (by kernel_rfl) ?_
    refine q_skip (by kernel_rfl) ?_
    refine q_skip (by kernel_rfl) ?_
    refine q_skip (by kernel_rfl) ?_
    refine q_skip (by kernel_rfl) ?_
    refine q_skip (by kernel_rfl) ?_
    refine q_val (.bool false) (by kernel_rfl) (fun _ => by kernel_rfl) ?_
    refine q_val (.bool false) (by kernel_rfl) (fun _ => by kernel_rfl) ?_
    refine q_skip (by kernel_rfl) ?_
    refine q_skip (by kernel_rfl) ?_
    refine q_skip (by kernel_rfl) ?_
    refine q_skip (by kernel_rfl) ?_
    refine q_skip (by kernel_rfl) ?_
    refine q_skip (by kernel_rfl) ?_
    refine q_val (.bool false) (by kernel_rfl) (fun _ => by kernel_rfl) ?_
    refine q_val (.bool false) (by kernel_rfl) (fun _ => by kernel_rfl) ?_
    refine q_skip (by kernel_rfl) ?_
    refine q_skip (by kernel_rfl) ?_
    refine q_skip (by kernel_rfl) ?_
    refine q_skip (by kernel_rfl) ?_
    refine q_skip (by kernel_rfl) ?_
    refine q_skip (by kernel_rfl) ?_
    refine q_skip (by kernel_rfl) ?_
    refine q_val (.bool false) (by kernel_rfl) (fun _ => by kernel_rfl) ?_
    refine q_val (.bool false) (by kernel_rfl) (fun _ => by kernel_rfl) ?_
    refine q_nil ?_
    clear H
    intro v3 H
    refine x_frame' { tmps := #[.agg #[.slice aL nl cL, .slice aD nd cD, .slice aS nq cS, .int .i64 pu, .int .i64 ru], .agg #[.int .i64 r, .int .i64 s, .int .i64 b, .int .i64 o, .int .i64 c, .int .i64 y, .int .i64 z], .pointer (some ⟨g1, 0, none⟩), .pointer (some ⟨g2, 0, none⟩), .bool false, .pointer (some ⟨g1, 0, none⟩), .slice aL nl cL, .int .i64 ((nl : Nat) : Int), .agg #[.int .i64 r, .int .i64 s, .int .i64 b, .int .i64 o, .int .i64 c, .int .i64 y, .int .i64 z], .int .i64 ((sn : Nat) : Int), .bool false, .bool false, undef, undef, undef, undef, undef, undef, undef, .bool false, .bool false, undef, undef, undef, undef, undef, undef, .bool false, .bool false, undef, undef, undef, undef, undef, undef, undef, .bool false], defers := [] } (by kernel_rfl) ?_
    refine x_then ?_
    refine x_retc ?_
    refine x_ret (.bool false) (by kernel_rfl) (by kernel_rfl) ?_
    exact ⟨by simp [fitsB, h1], H.below⟩
  · skip
    have h1p := of_decide_eq_true h1
    refine q_val (.pointer (some ⟨g1, 2, none⟩)) (by kernel_rfl) (fun _ => by kernel_rfl) ?_
    refine q_load1 1 g1 2 #[.slice aL nl cL, .slice aD nd cD, .slice aS nq cS, .int .i64 pu, .int .i64 ru] 142 (.slice aS nq cS) (by kernel_rfl) (by kernel_rfl) (by kernel_rfl) (fun _ => by kernel_rfl) ?_
    refine q_val (.int .i64 ((nq : Nat) : Int)) (by kernel_rfl) (fun _ => by kernel_rfl) ?_
    refine q_val (.pointer (some ⟨g2, 0, none⟩)) (by kernel_rfl) (fun _ => by kernel_rfl) ?_
    refine q_val (.pointer (some ⟨g2, 0, none⟩)) (by kernel_rfl) (fun _ => by kernel_rfl) ?_
    refine q_load1 0 g2 0 #[.int .i64 r, .int .i64 s, .int .i64 b, .int .i64 o, .int .i64 c, .int .i64 y, .int .i64 z] 69 (.int .i64 r) (by kernel_rfl) (by kernel_rfl) (by kernel_rfl) (fun _ => by kernel_rfl) ?_
    refine q_val (.bool (decide (((nq : Nat) : Int) = r))) (by kernel_rfl) (fun _ => by kernel_rfl) ?_
    refine q_val (.bool (decide (((nq : Nat) : Int) = r))) (by kernel_rfl) (fun _ => by kernel_rfl) ?_
    refine q_val (.bool (decide (((nq : Nat) : Int) = r))) (by kernel_rfl) (fun _ => by kernel_rfl) ?_
    cases h2 : decide (((nq : Nat) : Int) = r)
    · skip
      have h2p := of_decide_eq_false h2
      refine q_skip (by kernel_rfl) ?_
      refine q_skip (by kernel_rfl) ?_
      refine q_skip (by kernel_rfl) ?_
      refine q_skip (by kernel_rfl) ?_
      refine q_skip (by kernel_rfl) ?_
      refine q_skip (by kernel_rfl) ?_
      refine q_val (.bool false) (by kernel_rfl) (fun _ => by kernel_rfl) ?_
      refine q_val (.bool false) (by kernel_rfl) (fun _ => by kernel_rfl) ?_
      refine q_skip (by kernel_rfl) ?_
      refine q_skip (by kernel_rfl) ?_
      refine q_skip (by kernel_rfl) ?_
      refine q_skip (by kernel_rfl) ?_
      refine q_skip (by kernel_rfl) ?_
      refine q_skip (by kernel_rfl) ?_
      refine q_skip (by kernel_rfl) ?_
      refine q_val (.bool false) (by kernel_rfl) (fun _ => by kernel_rfl) ?_
      refine q_val (.bool false) (by kernel_rfl) (fun _ => by kernel_rfl) ?_
      refine q_nil ?_
      clear H
      intro v4 H
      refine x_frame' { tmps := #[.agg #[.slice aL nl cL, .slice aD nd cD, .slice aS nq cS, .int .i64 pu, .int .i64 ru], .agg #[.int .i64 r, .int .i64 s, .int .i64 b, .int .i64 o, .int .i64 c, .int .i64 y, .int .i64 z], .pointer (some ⟨g1, 0, none⟩), .pointer (some ⟨g2, 0, none⟩), .bool false, .pointer (some ⟨g1, 0, none⟩), .slice aL nl cL, .int .i64 ((nl : Nat) : Int), .agg #[.int .i64 r, .int .i64 s, .int .i64 b, .int .i64 o, .int .i64 c, .int .i64 y, .int .i64 z], .int .i64 ((sn : Nat) : Int), .bool true, .bool true, .pointer (some ⟨g1, 2, none⟩), .slice aS nq cS, .int .i64 ((nq : Nat) : Int), .pointer (some ⟨g2, 0, none⟩), .pointer (some ⟨g2, 0, none⟩), .int .i64 r, .bool false, .bool false, .bool false, undef, undef, undef, undef, undef, undef, .bool false, .bool false, undef, undef, undef, undef, undef, undef, undef, .bool false], defers := [] } (by kernel_rfl) ?_
      refine x_then ?_
      refine x_retc ?_
      refine x_ret (.bool false) (by kernel_rfl) (by kernel_rfl) ?_
      exact ⟨by simp [fitsB, h1, h2], H.below⟩
    · skip
      have h2p := of_decide_eq_true h2
      refine q_val (.pointer (some ⟨g1, 3, none⟩)) (by kernel_rfl) (fun _ => by kernel_rfl) ?_
      refine q_load1 1 g1 3 #[.slice aL nl cL, .slice aD nd cD, .slice aS nq cS, .int .i64 pu, .int .i64 ru] 142 (.int .i64 pu) (by kernel_rfl) (by kernel_rfl) (by kernel_rfl) (fun _ => by kernel_rfl) ?_
      refine q_val (.pointer (some ⟨g2, 6, none⟩)) (by kernel_rfl) (fun _ => by kernel_rfl) ?_
      refine q_load1 0 g2 6 #[.int .i64 r, .int .i64 s, .int .i64 b, .int .i64 o, .int .i64 c, .int .i64 y, .int .i64 z] 69 (.int .i64 z) (by kernel_rfl) (by kernel_rfl) (by kernel_rfl) (fun _ => by kernel_rfl) ?_
      refine q_ar (z + 1) ⟨by omega, by omega⟩ (by kernel_rfl) (fun _ => by kernel_rfl) ?_
      refine q_callB (.bool (decide (0 ≤ pu) && decide (pu < (z + 1)))) (by kernel_rfl) (fun _ => by kernel_rfl) (fun _ => (below_any _ _ _)) ?_
      refine q_val (.bool (decide (0 ≤ pu) && decide (pu < (z + 1)))) (by kernel_rfl) (fun _ => by kernel_rfl) ?_
      refine q_val (.bool (decide (0 ≤ pu) && decide (pu < (z + 1)))) (by kernel_rfl) (fun _ => by kernel_rfl) ?_
      cases h3 : decide (0 ≤ pu) && decide (pu < (z + 1))
      · skip
        refine q_skip (by kernel_rfl) ?_
        refine q_skip (by kernel_rfl) ?_
        refine q_skip (by kernel_rfl) ?_
        refine q_skip (by kernel_rfl) ?_
        refine q_skip (by kernel_rfl) ?_
        refine q_skip (by kernel_rfl) ?_
        refine q_skip (by kernel_rfl) ?_
        refine q_val (.bool false) (by kernel_rfl) (fun _ => by kernel_rfl) ?_
        refine q_val (.bool false) (by kernel_rfl) (fun _ => by kernel_rfl) ?_
        refine q_nil ?_
        clear H
        intro v5 H
        refine x_frame' { tmps := #[.agg #[.slice aL nl cL, .slice aD nd cD, .slice aS nq cS, .int .i64 pu, .int .i64 ru], .agg #[.int .i64 r, .int .i64 s, .int .i64 b, .int .i64 o, .int .i64 c, .int .i64 y, .int .i64 z], .pointer (some ⟨g1, 0, none⟩), .pointer (some ⟨g2, 0, none⟩), .bool false, .pointer (some ⟨g1, 0, none⟩), .slice aL nl cL, .int .i64 ((nl : Nat) : Int), .agg #[.int .i64 r, .int .i64 s, .int .i64 b, .int .i64 o, .int .i64 c, .int .i64 y, .int .i64 z], .int .i64 ((sn : Nat) : Int), .bool true, .bool true, .pointer (some ⟨g1, 2, none⟩), .slice aS nq cS, .int .i64 ((nq : Nat) : Int), .pointer (some ⟨g2, 0, none⟩), .pointer (some ⟨g2, 0, none⟩), .int .i64 r, .bool true, .bool true, .bool true, .pointer (some ⟨g1, 3, none⟩), .int .i64 pu, .pointer (some ⟨g2, 6, none⟩), .int .i64 z, .int .i64 (z + 1), .bool false, .bool false, .bool false, undef, undef, undef, undef, undef, undef, undef, .bool false], defers := [] } (by kernel_rfl) ?_
        refine x_then ?_
        refine x_retc ?_
        refine x_ret (.bool false) (by kernel_rfl) (by kernel_rfl) ?_
        exact ⟨by simp [fitsB, h1, h2, h3], H.below⟩
      · skip
        refine q_val (.pointer (some ⟨g1, 4, none⟩)) (by kernel_rfl) (fun _ => by kernel_rfl) ?_
        refine q_load1 1 g1 4 #[.slice aL nl cL, .slice aD nd cD, .slice aS nq cS, .int .i64 pu, .int .i64 ru] 142 (.int .i64 ru) (by kernel_rfl) (by kernel_rfl) (by kernel_rfl) (fun _ => by kernel_rfl) ?_
        refine q_val (.pointer (some ⟨g2, 0, none⟩)) (by kernel_rfl) (fun _ => by kernel_rfl) ?_
        refine q_val (.pointer (some ⟨g2, 1, none⟩)) (by kernel_rfl) (fun _ => by kernel_rfl) ?_
        refine q_load1 0 g2 1 #[.int .i64 r, .int .i64 s, .int .i64 b, .int .i64 o, .int .i64 c, .int .i64 y, .int .i64 z] 69 (.int .i64 s) (by kernel_rfl) (by kernel_rfl) (by kernel_rfl) (fun _ => by kernel_rfl) ?_
        refine q_ar (s + 1) ⟨by omega, by omega⟩ (by kernel_rfl) (fun _ => by kernel_rfl) ?_
        refine q_callB (.bool (decide (0 ≤ ru) && decide (ru < (s + 1)))) (by kernel_rfl) (fun _ => by kernel_rfl) (fun _ => (below_any _ _ _)) ?_
        refine q_val (.bool (decide (0 ≤ ru) && decide (ru < (s + 1)))) (by kernel_rfl) (fun _ => by kernel_rfl) ?_
        refine q_val (.bool (decide (0 ≤ ru) && decide (ru < (s + 1)))) (by kernel_rfl) (fun _ => by kernel_rfl) ?_
        refine q_nil ?_
        clear H
        intro v6 H
        refine x_frame' { tmps := #[.agg #[.slice aL nl cL, .slice aD nd cD, .slice aS nq cS, .int .i64 pu, .int .i64 ru], .agg #[.int .i64 r, .int .i64 s, .int .i64 b, .int .i64 o, .int .i64 c, .int .i64 y, .int .i64 z], .pointer (some ⟨g1, 0, none⟩), .pointer (some ⟨g2, 0, none⟩), .bool (decide (0 ≤ ru) && decide (ru < (s + 1))), .pointer (some ⟨g1, 0, none⟩), .slice aL nl cL, .int .i64 ((nl : Nat) : Int), .agg #[.int .i64 r, .int .i64 s, .int .i64 b, .int .i64 o, .int .i64 c, .int .i64 y, .int .i64 z], .int .i64 ((sn : Nat) : Int), .bool true, .bool true, .pointer (some ⟨g1, 2, none⟩), .slice aS nq cS, .int .i64 ((nq : Nat) : Int), .pointer (some ⟨g2, 0, none⟩), .pointer (some ⟨g2, 0, none⟩), .int .i64 r, .bool true, .bool true, .bool true, .pointer (some ⟨g1, 3, none⟩), .int .i64 pu, .pointer (some ⟨g2, 6, none⟩), .int .i64 z, .int .i64 (z + 1), .bool true, .bool true, .bool true, .pointer (some ⟨g1, 4, none⟩), .int .i64 ru, .pointer (some ⟨g2, 0, none⟩), .pointer (some ⟨g2, 1, none⟩), .int .i64 s, .int .i64 (s + 1), .bool (decide (0 ≤ ru) && decide (ru < (s + 1))), .bool (decide (0 ≤ ru) && decide (ru < (s + 1)))], defers := [] } (by kernel_rfl) ?_
        refine x_then ?_
        refine x_retc ?_
        refine x_ret (.bool (decide (0 ≤ ru) && decide (ru < (s + 1)))) (by kernel_rfl) (by kernel_rfl) ?_
        exact ⟨by simp [fitsB, h1, h2, h3], H.below⟩

set_option maxRecDepth 100000 in
set_option maxHeartbeats 2000000 in
theorem bury_yes {r s b o c y z : Int} {pg sn ns : Nat} (hL : Lay r s b o c y z pg sn ns) {p gl cl gd cd gs cs : Nat} {L : List Int} {S : List Int} {pu ru : Nat} (hM : MapOk z s sn pg ns L (List.replicate pg false) S pu ru) (ad : Option Addr) (nd ca : Nat) (l : List Int) (hnd : nd ≤ 9223372036854775807) (hyes : okD pg l nd = true) (w0 : World) (hI : IntsM (fps [.blk p #[.int .i64 r, .int .i64 s, .int .i64 b, .int .i64 o, .int .i64 c, .int .i64 y, .int .i64 z, .slice (some ⟨gl, 0, none⟩) sn cl, .slice (some ⟨gd, 0, none⟩) pg cd, .slice (some ⟨gs, 0, none⟩) ns cs, .int .i64 ((pu : Nat) : Int), .int .i64 ((ru : Nat) : Int)] 181, .row (.slice (some ⟨gl, 0, none⟩) sn cl) 3 1 sn (List.map (Value.int .i64) L), .row (.slice (some ⟨gd, 0, none⟩) pg cd) 4 1 pg (List.map Value.bool (List.replicate pg false)), .row (.slice (some ⟨gs, 0, none⟩) ns cs) 3 1 ns (List.map (Value.int .i64) S)]) w0 ad nd l) (H0 : Hs (fps [.blk p #[.int .i64 r, .int .i64 s, .int .i64 b, .int .i64 o, .int .i64 c, .int .i64 y, .int .i64 z, .slice (some ⟨gl, 0, none⟩) sn cl, .slice (some ⟨gd, 0, none⟩) pg cd, .slice (some ⟨gs, 0, none⟩) ns cs, .int .i64 ((pu : Nat) : Int), .int .i64 ((ru : Nat) : Int)] 181, .row (.slice (some ⟨gl, 0, none⟩) sn cl) 3 1 sn (List.map (Value.int .i64) L), .row (.slice (some ⟨gd, 0, none⟩) pg cd) 4 1 pg (List.map Value.bool (List.replicate pg false)), .row (.slice (some ⟨gs, 0, none⟩) ns cs) 3 1 ns (List.map (Value.int .i64) S)]) w0 w0 [.blk p #[.int .i64 r, .int .i64 s, .int .i64 b, .int .i64 o, .int .i64 c, .int .i64 y, .int .i64 z, .slice (some ⟨gl, 0, none⟩) sn cl, .slice (some ⟨gd, 0, none⟩) pg cd, .slice (some ⟨gs, 0, none⟩) ns cs, .int .i64 ((pu : Nat) : Int), .int .i64 ((ru : Nat) : Int)] 181, .row (.slice (some ⟨gl, 0, none⟩) sn cl) 3 1 sn (List.map (Value.int .i64) L), .row (.slice (some ⟨gd, 0, none⟩) pg cd) 4 1 pg (List.map Value.bool (List.replicate pg false)), .row (.slice (some ⟨gs, 0, none⟩) ns cs) 3 1 ns (List.map (Value.int .i64) S)]) :
    Calls Try.prog 133 #[.pointer (some ⟨p, 0, none⟩), .slice ad nd ca] w0 fun e w' => e = .returned (.bool true) ∧ Hs (fps [.blk p #[.int .i64 r, .int .i64 s, .int .i64 b, .int .i64 o, .int .i64 c, .int .i64 y, .int .i64 z, .slice (some ⟨gl, 0, none⟩) sn cl, .slice (some ⟨gd, 0, none⟩) pg cd, .slice (some ⟨gs, 0, none⟩) ns cs, .int .i64 ((pu : Nat) : Int), .int .i64 ((ru : Nat) : Int)] 181, .row (.slice (some ⟨gl, 0, none⟩) sn cl) 3 1 sn (List.map (Value.int .i64) L), .row (.slice (some ⟨gd, 0, none⟩) pg cd) 4 1 pg (List.map Value.bool (List.replicate pg false)), .row (.slice (some ⟨gs, 0, none⟩) ns cs) 3 1 ns (List.map (Value.int .i64) S)]) w0 w' [.blk p #[.int .i64 r, .int .i64 s, .int .i64 b, .int .i64 o, .int .i64 c, .int .i64 y, .int .i64 z, .slice (some ⟨gl, 0, none⟩) sn cl, .slice (some ⟨gd, 0, none⟩) pg cd, .slice (some ⟨gs, 0, none⟩) ns cs, .int .i64 ((pu : Nat) : Int), .int .i64 ((ru : Nat) : Int)] 181, .row (.slice (some ⟨gl, 0, none⟩) sn cl) 3 1 sn (List.map (Value.int .i64) L), .row (.slice (some ⟨gd, 0, none⟩) pg cd) 4 1 pg (List.map Value.bool (marks pg l nd)), .row (.slice (some ⟨gs, 0, none⟩) ns cs) 3 1 ns (List.map (Value.int .i64) S)] := by
  refine x_enter Try.func133 rfl #[.pointer (some ⟨p, 0, none⟩), .slice ad nd ca, undef, undef, undef, undef, undef, undef, undef, undef, undef, undef, undef, undef, undef, undef, undef, undef, undef, undef, undef, undef, undef, undef, undef, undef, undef, undef, undef, undef, undef, undef, undef, undef, undef] (by kernel_rfl) ?_
  have H := H0
  obtain ⟨eL, eD, eS, hp, hr⟩ := id hM
  have hok := hL.ok
  obtain ⟨-, r1, r8, s0, s8, b1, b2, o1, o2, c1, c2, y0, y4, z0, z2, hpg, hsn, hns, sn1, pg2, ln0, ln2⟩ := id hL
  refine x_seq ?_
  refine x_region ?_
  refine x_val (.bool false) (by kernel_rfl) rfl (by kernel_rfl) ?_
  refine x_nil ?_
  refine x_then ?_
  refine x_seq ?_
  refine x_region ?_
  refine x_val (.int .i64 (-1)) (by kernel_rfl) rfl (by kernel_rfl) ?_
  refine x_nil ?_
  refine x_then ?_
  refine x_seq ?_
  refine x_seq ?_
  refine x_region ?_
  refine x_val (.slice ad nd ca) (by kernel_rfl) rfl (by kernel_rfl) ?_
  refine x_val (.int .i64 ((nd : Nat) : Int)) (by kernel_rfl) rfl (by kernel_rfl) ?_
  refine x_val (.int .i64 0) (by kernel_rfl) rfl (by kernel_rfl) ?_
  refine x_nil ?_
  refine x_then ?_
  refine x_block ?_
  refine x_loop (G := Nat) (fun (k : Nat) a w' => ∃ u4 : Value, ∃ u7 : Value, ∃ u11 : Value, ∃ u12 : Value, ∃ u13 : Value, ∃ u14 : Value, ∃ u15 : Value, ∃ u16 : Value, ∃ u17 : Value, ∃ u18 : Value, ∃ u19 : Value, ∃ u20 : Value, ∃ u21 : Value, ∃ u22 : Value, ∃ u23 : Value, ∃ u24 : Value, ∃ u25 : Value, ∃ u26 : Value, ∃ u27 : Value, ∃ u28 : Value, ∃ u29 : Value, ∃ u30 : Value, ∃ u31 : Value, ∃ u32 : Value, ∃ u33 : Value, ∃ u34 : Value, a = { tmps := #[.pointer (some ⟨p, 0, none⟩), .slice ad nd ca, undef, undef, u4, .int .i64 (lastD l k), undef, u7, .slice ad nd ca, .int .i64 ((nd : Nat) : Int), .int .i64 ((k : Nat) : Int), u11, u12, u13, u14, u15, u16, u17, u18, u19, u20, u21, u22, u23, u24, u25, u26, u27, u28, u29, u30, u31, u32, u33, u34], defers := [] } ∧ Hs (fps [.blk p #[.int .i64 r, .int .i64 s, .int .i64 b, .int .i64 o, .int .i64 c, .int .i64 y, .int .i64 z, .slice (some ⟨gl, 0, none⟩) sn cl, .slice (some ⟨gd, 0, none⟩) pg cd, .slice (some ⟨gs, 0, none⟩) ns cs, .int .i64 ((pu : Nat) : Int), .int .i64 ((ru : Nat) : Int)] 181, .row (.slice (some ⟨gl, 0, none⟩) sn cl) 3 1 sn (List.map (Value.int .i64) L), .row (.slice (some ⟨gd, 0, none⟩) pg cd) 4 1 pg (List.map Value.bool (List.replicate pg false)), .row (.slice (some ⟨gs, 0, none⟩) ns cs) 3 1 ns (List.map (Value.int .i64) S)]) w0 w' [.blk p #[.int .i64 r, .int .i64 s, .int .i64 b, .int .i64 o, .int .i64 c, .int .i64 y, .int .i64 z, .slice (some ⟨gl, 0, none⟩) sn cl, .slice (some ⟨gd, 0, none⟩) pg cd, .slice (some ⟨gs, 0, none⟩) ns cs, .int .i64 ((pu : Nat) : Int), .int .i64 ((ru : Nat) : Int)] 181, .row (.slice (some ⟨gl, 0, none⟩) sn cl) 3 1 sn (List.map (Value.int .i64) L), .row (.slice (some ⟨gd, 0, none⟩) pg cd) 4 1 pg (List.map Value.bool (marks pg l k)), .row (.slice (some ⟨gs, 0, none⟩) ns cs) 3 1 ns (List.map (Value.int .i64) S)] ∧ (k ≤ nd) ∧ (okD pg l k = true)) (fun (k : Nat) => nd - k) 0 ⟨(.bool false), undef, undef, undef, undef, undef, undef, undef, undef, undef, undef, undef, undef, undef, undef, undef, undef, undef, undef, undef, undef, undef, undef, undef, undef, undef, (by kernel_rfl), H, (Nat.zero_le _), rfl⟩ ?_
  clear H
  rintro k _ v1 ⟨u4, u7, u11, u12, u13, u14, u15, u16, u17, u18, u19, u20, u21, u22, u23, u24, u25, u26, u27, u28, u29, u30, u31, u32, u33, u34, rfl, H, r1, r2⟩
  have hml := marks_len pg l k
  have hlast := last_nn r2
  refine x_seq ?_
  refine x_region ?_
  refine x_val (.bool (decide (((k : Nat) : Int) < ((nd : Nat) : Int)))) (by kernel_rfl) rfl (by kernel_rfl) ?_
  refine x_nil ?_
  refine x_then ?_
  refine x_seq ?_
  cases h1 : decide (((k : Nat) : Int) < ((nd : Nat) : Int))
  · skip
    have h1p := of_decide_eq_false h1
    refine x_f (by kernel_rfl) ?_
    refine x_exit ?_
    refine x_then_exit ?_
    refine x_then_exit ?_
    refine x_blk_exit ?_
    refine x_then ?_
    refine x_seq ?_
    refine x_region ?_
    refine x_val (.bool true) (by kernel_rfl) rfl (by kernel_rfl) ?_
    refine x_nil ?_
    refine x_then ?_
    refine x_retc ?_
    refine x_ret (.bool true) (by kernel_rfl) (by kernel_rfl) ?_
    obtain rfl : k = nd := by omega
    exact ⟨rfl, H⟩
  · skip
    have h1p := of_decide_eq_true h1
    refine x_t (by kernel_rfl) ?_
    refine x_skipc ?_
    refine x_then ?_
    refine x_seq ?_
    refine x_block ?_
    refine x_seq ?_
    refine x_region ?_
    obtain ⟨ga, oa, had, hcell⟩ := hI (by omega)
    refine x_ixO (t := 106) had k nd ca 3 1 (oa + k) (by omega) (by omega) (by kernel_rfl) (by kernel_rfl) (by kernel_rfl) rfl (by kernel_rfl) ?_
    refine x_loadc ga (oa + k) (.int .i64 (l.getD k 0)) (hcell _ H.fr k (by omega)) (by kernel_rfl) rfl (by kernel_rfl) ?_
    refine x_val (.int .i64 (l.getD k 0)) (by kernel_rfl) rfl (by kernel_rfl) ?_
    refine x_nil ?_
    refine x_then ?_
    refine x_seq ?_
    refine x_seq ?_
    refine x_region ?_
    refine x_val (.int .i64 (l.getD k 0)) (by kernel_rfl) rfl (by kernel_rfl) ?_
    refine x_val (.int .i64 (lastD l k)) (by kernel_rfl) rfl (by kernel_rfl) ?_
    refine x_val (.bool (decide ((l.getD k 0) ≤ (lastD l k)))) (by kernel_rfl) rfl (by kernel_rfl) ?_
    refine x_val (.bool (decide ((l.getD k 0) ≤ (lastD l k)))) (by kernel_rfl) rfl (by kernel_rfl) ?_
    cases h2 : decide ((l.getD k 0) ≤ (lastD l k))
    · skip
      have h2p := of_decide_eq_false h2
      refine x_val (.int .i64 (l.getD k 0)) (by kernel_rfl) rfl (by kernel_rfl) ?_
      refine x_val (.pointer (some ⟨p, 0, none⟩)) (by kernel_rfl) rfl (by kernel_rfl) ?_
      refine x_val (.pointer (some ⟨p, 0, none⟩)) (by kernel_rfl) rfl (by kernel_rfl) ?_
      refine x_val (.pointer (some ⟨p, 8, none⟩)) (by kernel_rfl) rfl (by kernel_rfl) ?_
      refine x_load1 H 0 p 8 #[.int .i64 r, .int .i64 s, .int .i64 b, .int .i64 o, .int .i64 c, .int .i64 y, .int .i64 z, .slice (some ⟨gl, 0, none⟩) sn cl, .slice (some ⟨gd, 0, none⟩) pg cd, .slice (some ⟨gs, 0, none⟩) ns cs, .int .i64 ((pu : Nat) : Int), .int .i64 ((ru : Nat) : Int)] 181 (.slice (some ⟨gd, 0, none⟩) pg cd) (by kernel_rfl) (by kernel_rfl) (by kernel_rfl) rfl (by kernel_rfl) ?_
      refine x_val (.int .i64 ((pg : Nat) : Int)) (by kernel_rfl) rfl (by kernel_rfl) ?_
      refine x_callB (.bool (decide (0 ≤ (l.getD k 0)) && decide ((l.getD k 0) < ((pg : Nat) : Int)))) H (by kernel_rfl) rfl (by kernel_rfl) (below_any _ _ _) ?_
      clear H
      intro v2 H
      refine x_val (.bool (!(decide (0 ≤ (l.getD k 0)) && decide ((l.getD k 0) < ((pg : Nat) : Int))))) (by kernel_rfl) rfl (by kernel_rfl) ?_
      refine x_val (.bool (!(decide (0 ≤ (l.getD k 0)) && decide ((l.getD k 0) < ((pg : Nat) : Int))))) (by kernel_rfl) rfl (by kernel_rfl) ?_
      refine x_nil ?_
      refine x_frame' { tmps := #[.pointer (some ⟨p, 0, none⟩), .slice ad nd ca, undef, undef, u4, .int .i64 (lastD l k), undef, .int .i64 (l.getD k 0), .slice ad nd ca, .int .i64 ((nd : Nat) : Int), .int .i64 ((k : Nat) : Int), .bool true, .pointer (some ⟨ga, oa + k, none⟩), .int .i64 (l.getD k 0), .int .i64 (l.getD k 0), .int .i64 (lastD l k), .bool false, .bool false, .int .i64 (l.getD k 0), .pointer (some ⟨p, 0, none⟩), .pointer (some ⟨p, 0, none⟩), .pointer (some ⟨p, 8, none⟩), .slice (some ⟨gd, 0, none⟩) pg cd, .int .i64 ((pg : Nat) : Int), .bool (decide (0 ≤ (l.getD k 0)) && decide ((l.getD k 0) < ((pg : Nat) : Int))), .bool (!(decide (0 ≤ (l.getD k 0)) && decide ((l.getD k 0) < ((pg : Nat) : Int)))), .bool (!(decide (0 ≤ (l.getD k 0)) && decide ((l.getD k 0) < ((pg : Nat) : Int)))), u27, u28, u29, u30, u31, u32, u33, u34], defers := [] } (by kernel_rfl) ?_
      refine x_then ?_
      cases h3 : decide (0 ≤ (l.getD k 0)) && decide ((l.getD k 0) < ((pg : Nat) : Int))
      · skip
        have hbb : ¬ (0 ≤ l.getD k 0 ∧ l.getD k 0 < (pg : Int)) := fun hx => by have q := h3; rw [decide_eq_true hx.1, decide_eq_true hx.2] at q; exact absurd q (by decide)
        refine x_t (by kernel_rfl) ?_
        refine x_seq ?_
        refine x_region ?_
        refine x_val (.bool false) (by kernel_rfl) rfl (by kernel_rfl) ?_
        refine x_nil ?_
        refine x_then ?_
        refine x_retc ?_
        refine x_then_ret ?_
        refine x_blk_ret ?_
        refine x_then_ret ?_
        refine x_then_ret ?_
        refine x_blk_ret ?_
        refine x_then_ret ?_
        refine x_ret (.bool false) (by kernel_rfl) (by kernel_rfl) ?_
        exact (okD_no (k := k) hyes (by omega) (by first | (left; omega) | (right; omega))).elim
      · skip
        have hbt : 0 ≤ l.getD k 0 ∧ l.getD k 0 < (pg : Int) := by have q := h3; rw [Bool.and_eq_true, decide_eq_true_eq, decide_eq_true_eq] at q; exact q
        refine x_f (by kernel_rfl) ?_
        refine x_skipc ?_
        refine x_then ?_
        refine x_seq ?_
        refine x_region ?_
        refine x_val (.pointer (some ⟨p, 0, none⟩)) (by kernel_rfl) rfl (by kernel_rfl) ?_
        refine x_val (.pointer (some ⟨p, 0, none⟩)) (by kernel_rfl) rfl (by kernel_rfl) ?_
        refine x_val (.pointer (some ⟨p, 8, none⟩)) (by kernel_rfl) rfl (by kernel_rfl) ?_
        refine x_load1 H 0 p 8 #[.int .i64 r, .int .i64 s, .int .i64 b, .int .i64 o, .int .i64 c, .int .i64 y, .int .i64 z, .slice (some ⟨gl, 0, none⟩) sn cl, .slice (some ⟨gd, 0, none⟩) pg cd, .slice (some ⟨gs, 0, none⟩) ns cs, .int .i64 ((pu : Nat) : Int), .int .i64 ((ru : Nat) : Int)] 181 (.slice (some ⟨gd, 0, none⟩) pg cd) (by kernel_rfl) (by kernel_rfl) (by kernel_rfl) rfl (by kernel_rfl) ?_
        refine x_val (.int .i64 (l.getD k 0)) (by kernel_rfl) rfl (by kernel_rfl) ?_
        refine x_ixE (t := 179) (i := (l.getD k 0)) gd 0 ((l.getD k 0).toNat) pg cd (by omega) 4 1 ((l.getD k 0).toNat) (by omega) (by omega) (by kernel_rfl) (by kernel_rfl) (by kernel_rfl) rfl (by kernel_rfl) ?_
        refine x_storeRow (t := 4) (v := .bool true) H 2 gd ((l.getD k 0).toNat) pg cd 4 1 (List.map Value.bool (marks pg l k)) [.bool true] (List.map Value.bool ((marks pg l k).set ((l.getD k 0).toNat) true)) [.blk p #[.int .i64 r, .int .i64 s, .int .i64 b, .int .i64 o, .int .i64 c, .int .i64 y, .int .i64 z, .slice (some ⟨gl, 0, none⟩) sn cl, .slice (some ⟨gd, 0, none⟩) pg cd, .slice (some ⟨gs, 0, none⟩) ns cs, .int .i64 ((pu : Nat) : Int), .int .i64 ((ru : Nat) : Int)] 181, .row (.slice (some ⟨gl, 0, none⟩) sn cl) 3 1 sn (List.map (Value.int .i64) L), .row (.slice (some ⟨gd, 0, none⟩) pg cd) 4 1 pg (List.map Value.bool ((marks pg l k).set ((l.getD k 0).toNat) true)), .row (.slice (some ⟨gs, 0, none⟩) ns cs) 3 1 ns (List.map (Value.int .i64) S)] rfl (by simp only [List.length_cons, List.length_nil]; omega) (by kernel_rfl) (setMap (by omega) true) rfl (by kernel_rfl) rfl (by kernel_rfl) (by kernel_rfl) (by kernel_rfl) ?_
        clear H
        intro v3 H
        refine x_nil ?_
        refine x_then ?_
        refine x_region ?_
        refine x_val (.int .i64 (l.getD k 0)) (by kernel_rfl) rfl (by kernel_rfl) ?_
        refine x_val (.int .i64 (l.getD k 0)) (by kernel_rfl) rfl (by kernel_rfl) ?_
        refine x_nil ?_
        refine x_blk ?_
        refine x_then ?_
        refine x_region ?_
        refine x_ar (((k : Nat) : Int) + 1) ⟨by omega, by omega⟩ (by kernel_rfl) rfl (by kernel_rfl) ?_
        refine x_val (.int .i64 (((k : Nat) : Int) + 1)) (by kernel_rfl) rfl (by kernel_rfl) ?_
        refine x_nil ?_
        refine x_then ?_
        exact ⟨(k + 1), (by omega), u4, (.int .i64 (l.getD k 0)), (.bool true), (.pointer (some ⟨ga, oa + k, none⟩)), (.int .i64 (l.getD k 0)), (.int .i64 (l.getD k 0)), (.int .i64 (lastD l k)), (.bool false), (.bool false), (.int .i64 (l.getD k 0)), (.pointer (some ⟨p, 0, none⟩)), (.pointer (some ⟨p, 0, none⟩)), (.pointer (some ⟨p, 8, none⟩)), (.slice (some ⟨gd, 0, none⟩) pg cd), (.int .i64 ((pg : Nat) : Int)), (.bool true), (.bool false), (.bool false), (.pointer (some ⟨p, 0, none⟩)), (.pointer (some ⟨p, 0, none⟩)), (.pointer (some ⟨p, 8, none⟩)), (.slice (some ⟨gd, 0, none⟩) pg cd), (.int .i64 (l.getD k 0)), (.pointer (some ⟨gd, (l.getD k 0).toNat, none⟩)), (.int .i64 (l.getD k 0)), (.int .i64 (((k : Nat) : Int) + 1)), (by kernel_rfl), H, (by omega), (okD_yes r2 (by omega) (by omega))⟩
    · skip
      have h2p := of_decide_eq_true h2
      refine x_skip (by kernel_rfl) ?_
      refine x_skip (by kernel_rfl) ?_
      refine x_skip (by kernel_rfl) ?_
      refine x_skip (by kernel_rfl) ?_
      refine x_skip (by kernel_rfl) ?_
      refine x_skip (by kernel_rfl) ?_
      refine x_skip (by kernel_rfl) ?_
      refine x_skip (by kernel_rfl) ?_
      refine x_val (.bool true) (by kernel_rfl) rfl (by kernel_rfl) ?_
      refine x_nil ?_
      refine x_frame' { tmps := #[.pointer (some ⟨p, 0, none⟩), .slice ad nd ca, undef, undef, u4, .int .i64 (lastD l k), undef, .int .i64 (l.getD k 0), .slice ad nd ca, .int .i64 ((nd : Nat) : Int), .int .i64 ((k : Nat) : Int), .bool true, .pointer (some ⟨ga, oa + k, none⟩), .int .i64 (l.getD k 0), .int .i64 (l.getD k 0), .int .i64 (lastD l k), .bool true, .bool true, undef, undef, undef, undef, undef, undef, undef, undef, .bool true, u27, u28, u29, u30, u31, u32, u33, u34], defers := [] } (by kernel_rfl) ?_
      refine x_then ?_
      refine x_t (by kernel_rfl) ?_
      refine x_seq ?_
      refine x_region ?_
      refine x_val (.bool false) (by kernel_rfl) rfl (by kernel_rfl) ?_
      refine x_nil ?_
      refine x_then ?_
      refine x_retc ?_
      refine x_then_ret ?_
      refine x_blk_ret ?_
      refine x_then_ret ?_
      refine x_then_ret ?_
      refine x_blk_ret ?_
      refine x_then_ret ?_
      refine x_ret (.bool false) (by kernel_rfl) (by kernel_rfl) ?_
      exact (okD_no (k := k) hyes (by omega) (by first | (left; omega) | (right; omega))).elim

set_option maxRecDepth 100000 in
set_option maxHeartbeats 2000000 in
theorem settle_yes {r s b o c y z : Int} {pg sn ns : Nat} (hL : Lay r s b o c y z pg sn ns) {p gl cl gd cd gs cs : Nat} {L : List Int} {D : List Bool} {S : List Int} {pu ru : Nat} (hM : MapOk z s sn pg ns L D S pu ru) (ad : Option Addr) (nl ca : Nat) (l : List Int) (hnl : nl = sn) (hyes : okS (((sn : Nat) : Int) + ((pu : Nat) : Int)) D l nl = true) (w0 : World) (hI : IntsM (fps [.blk p #[.int .i64 r, .int .i64 s, .int .i64 b, .int .i64 o, .int .i64 c, .int .i64 y, .int .i64 z, .slice (some ⟨gl, 0, none⟩) sn cl, .slice (some ⟨gd, 0, none⟩) pg cd, .slice (some ⟨gs, 0, none⟩) ns cs, .int .i64 ((pu : Nat) : Int), .int .i64 ((ru : Nat) : Int)] 181, .row (.slice (some ⟨gl, 0, none⟩) sn cl) 3 1 sn (List.map (Value.int .i64) L), .row (.slice (some ⟨gd, 0, none⟩) pg cd) 4 1 pg (List.map Value.bool D), .row (.slice (some ⟨gs, 0, none⟩) ns cs) 3 1 ns (List.map (Value.int .i64) S)]) w0 ad nl l) (H0 : Hs (fps [.blk p #[.int .i64 r, .int .i64 s, .int .i64 b, .int .i64 o, .int .i64 c, .int .i64 y, .int .i64 z, .slice (some ⟨gl, 0, none⟩) sn cl, .slice (some ⟨gd, 0, none⟩) pg cd, .slice (some ⟨gs, 0, none⟩) ns cs, .int .i64 ((pu : Nat) : Int), .int .i64 ((ru : Nat) : Int)] 181, .row (.slice (some ⟨gl, 0, none⟩) sn cl) 3 1 sn (List.map (Value.int .i64) L), .row (.slice (some ⟨gd, 0, none⟩) pg cd) 4 1 pg (List.map Value.bool D), .row (.slice (some ⟨gs, 0, none⟩) ns cs) 3 1 ns (List.map (Value.int .i64) S)]) w0 w0 [.blk p #[.int .i64 r, .int .i64 s, .int .i64 b, .int .i64 o, .int .i64 c, .int .i64 y, .int .i64 z, .slice (some ⟨gl, 0, none⟩) sn cl, .slice (some ⟨gd, 0, none⟩) pg cd, .slice (some ⟨gs, 0, none⟩) ns cs, .int .i64 ((pu : Nat) : Int), .int .i64 ((ru : Nat) : Int)] 181, .row (.slice (some ⟨gl, 0, none⟩) sn cl) 3 1 sn (List.map (Value.int .i64) L), .row (.slice (some ⟨gd, 0, none⟩) pg cd) 4 1 pg (List.map Value.bool D), .row (.slice (some ⟨gs, 0, none⟩) ns cs) 3 1 ns (List.map (Value.int .i64) S)]) :
    Calls Try.prog 134 #[.pointer (some ⟨p, 0, none⟩), .slice ad nl ca] w0 fun e w' => e = .returned (.bool true) ∧ Hs (fps [.blk p #[.int .i64 r, .int .i64 s, .int .i64 b, .int .i64 o, .int .i64 c, .int .i64 y, .int .i64 z, .slice (some ⟨gl, 0, none⟩) sn cl, .slice (some ⟨gd, 0, none⟩) pg cd, .slice (some ⟨gs, 0, none⟩) ns cs, .int .i64 ((pu : Nat) : Int), .int .i64 ((ru : Nat) : Int)] 181, .row (.slice (some ⟨gl, 0, none⟩) sn cl) 3 1 sn (List.map (Value.int .i64) L), .row (.slice (some ⟨gd, 0, none⟩) pg cd) 4 1 pg (List.map Value.bool D), .row (.slice (some ⟨gs, 0, none⟩) ns cs) 3 1 ns (List.map (Value.int .i64) S)]) w0 w' [.blk p #[.int .i64 r, .int .i64 s, .int .i64 b, .int .i64 o, .int .i64 c, .int .i64 y, .int .i64 z, .slice (some ⟨gl, 0, none⟩) sn cl, .slice (some ⟨gd, 0, none⟩) pg cd, .slice (some ⟨gs, 0, none⟩) ns cs, .int .i64 ((pu : Nat) : Int), .int .i64 ((ru : Nat) : Int)] 181, .row (.slice (some ⟨gl, 0, none⟩) sn cl) 3 1 sn (List.map (Value.int .i64) (setsL l L nl)), .row (.slice (some ⟨gd, 0, none⟩) pg cd) 4 1 pg (List.map Value.bool D), .row (.slice (some ⟨gs, 0, none⟩) ns cs) 3 1 ns (List.map (Value.int .i64) S)] := by
  refine x_enter Try.func134 rfl #[.pointer (some ⟨p, 0, none⟩), .slice ad nl ca, undef, undef, undef, undef, undef, undef, undef, undef, undef, undef, undef, undef, undef, undef, undef, undef, undef, undef, undef, undef, undef, undef, undef, undef, undef, undef, undef, undef, undef, undef, undef, undef, undef, undef, undef, undef, undef] (by kernel_rfl) ?_
  have H := H0
  obtain ⟨eL, eD, eS, hp, hr⟩ := id hM
  have hok := hL.ok
  obtain ⟨-, r1, r8, s0, s8, b1, b2, o1, o2, c1, c2, y0, y4, z0, z2, hpg, hsn, hns, sn1, pg2, ln0, ln2⟩ := id hL
  refine x_seq ?_
  refine x_region ?_
  refine x_val (.bool false) (by kernel_rfl) rfl (by kernel_rfl) ?_
  refine x_nil ?_
  refine x_then ?_
  refine x_seq ?_
  refine x_seq ?_
  refine x_region ?_
  refine x_val (.slice ad nl ca) (by kernel_rfl) rfl (by kernel_rfl) ?_
  refine x_val (.int .i64 ((nl : Nat) : Int)) (by kernel_rfl) rfl (by kernel_rfl) ?_
  refine x_val (.int .i64 0) (by kernel_rfl) rfl (by kernel_rfl) ?_
  refine x_nil ?_
  refine x_then ?_
  refine x_block ?_
  refine x_loop (G := Nat) (fun (k : Nat) a w' => ∃ u4 : Value, ∃ u5 : Value, ∃ u6 : Value, ∃ u10 : Value, ∃ u11 : Value, ∃ u12 : Value, ∃ u13 : Value, ∃ u14 : Value, ∃ u15 : Value, ∃ u16 : Value, ∃ u17 : Value, ∃ u18 : Value, ∃ u19 : Value, ∃ u20 : Value, ∃ u21 : Value, ∃ u22 : Value, ∃ u23 : Value, ∃ u24 : Value, ∃ u25 : Value, ∃ u26 : Value, ∃ u27 : Value, ∃ u28 : Value, ∃ u29 : Value, ∃ u30 : Value, ∃ u31 : Value, ∃ u32 : Value, ∃ u33 : Value, ∃ u34 : Value, ∃ u35 : Value, ∃ u36 : Value, ∃ u37 : Value, ∃ u38 : Value, a = { tmps := #[.pointer (some ⟨p, 0, none⟩), .slice ad nl ca, undef, undef, u4, u5, u6, .slice ad nl ca, .int .i64 ((nl : Nat) : Int), .int .i64 ((k : Nat) : Int), u10, u11, u12, u13, u14, u15, u16, u17, u18, u19, u20, u21, u22, u23, u24, u25, u26, u27, u28, u29, u30, u31, u32, u33, u34, u35, u36, u37, u38], defers := [] } ∧ Hs (fps [.blk p #[.int .i64 r, .int .i64 s, .int .i64 b, .int .i64 o, .int .i64 c, .int .i64 y, .int .i64 z, .slice (some ⟨gl, 0, none⟩) sn cl, .slice (some ⟨gd, 0, none⟩) pg cd, .slice (some ⟨gs, 0, none⟩) ns cs, .int .i64 ((pu : Nat) : Int), .int .i64 ((ru : Nat) : Int)] 181, .row (.slice (some ⟨gl, 0, none⟩) sn cl) 3 1 sn (List.map (Value.int .i64) L), .row (.slice (some ⟨gd, 0, none⟩) pg cd) 4 1 pg (List.map Value.bool D), .row (.slice (some ⟨gs, 0, none⟩) ns cs) 3 1 ns (List.map (Value.int .i64) S)]) w0 w' [.blk p #[.int .i64 r, .int .i64 s, .int .i64 b, .int .i64 o, .int .i64 c, .int .i64 y, .int .i64 z, .slice (some ⟨gl, 0, none⟩) sn cl, .slice (some ⟨gd, 0, none⟩) pg cd, .slice (some ⟨gs, 0, none⟩) ns cs, .int .i64 ((pu : Nat) : Int), .int .i64 ((ru : Nat) : Int)] 181, .row (.slice (some ⟨gl, 0, none⟩) sn cl) 3 1 sn (List.map (Value.int .i64) (setsL l L k)), .row (.slice (some ⟨gd, 0, none⟩) pg cd) 4 1 pg (List.map Value.bool D), .row (.slice (some ⟨gs, 0, none⟩) ns cs) 3 1 ns (List.map (Value.int .i64) S)] ∧ (k ≤ nl) ∧ (okS (((sn : Nat) : Int) + ((pu : Nat) : Int)) D l k = true)) (fun (k : Nat) => nl - k) 0 ⟨(.bool false), undef, undef, undef, undef, undef, undef, undef, undef, undef, undef, undef, undef, undef, undef, undef, undef, undef, undef, undef, undef, undef, undef, undef, undef, undef, undef, undef, undef, undef, undef, undef, (by kernel_rfl), H, (Nat.zero_le _), rfl⟩ ?_
  clear H
  rintro k _ v1 ⟨u4, u5, u6, u10, u11, u12, u13, u14, u15, u16, u17, u18, u19, u20, u21, u22, u23, u24, u25, u26, u27, u28, u29, u30, u31, u32, u33, u34, u35, u36, u37, u38, rfl, H, r1, r2⟩
  have hml := setsL_len l L k
  refine x_seq ?_
  refine x_region ?_
  refine x_val (.bool (decide (((k : Nat) : Int) < ((nl : Nat) : Int)))) (by kernel_rfl) rfl (by kernel_rfl) ?_
  refine x_nil ?_
  refine x_then ?_
  refine x_seq ?_
  cases h1 : decide (((k : Nat) : Int) < ((nl : Nat) : Int))
  · skip
    have h1p := of_decide_eq_false h1
    refine x_f (by kernel_rfl) ?_
    refine x_exit ?_
    refine x_then_exit ?_
    refine x_then_exit ?_
    refine x_blk_exit ?_
    refine x_then ?_
    refine x_seq ?_
    refine x_region ?_
    refine x_val (.bool true) (by kernel_rfl) rfl (by kernel_rfl) ?_
    refine x_nil ?_
    refine x_then ?_
    refine x_retc ?_
    refine x_ret (.bool true) (by kernel_rfl) (by kernel_rfl) ?_
    obtain rfl : k = nl := by omega
    exact ⟨rfl, H⟩
  · skip
    have h1p := of_decide_eq_true h1
    refine x_t (by kernel_rfl) ?_
    refine x_skipc ?_
    refine x_then ?_
    refine x_seq ?_
    refine x_block ?_
    refine x_seq ?_
    refine x_region ?_
    refine x_val (.int .i64 ((k : Nat) : Int)) (by kernel_rfl) rfl (by kernel_rfl) ?_
    obtain ⟨ga, oa, had, hcell⟩ := hI (by omega)
    refine x_ixO (t := 106) had k nl ca 3 1 (oa + k) (by omega) (by omega) (by kernel_rfl) (by kernel_rfl) (by kernel_rfl) rfl (by kernel_rfl) ?_
    refine x_loadc ga (oa + k) (.int .i64 (l.getD k 0)) (hcell _ H.fr k (by omega)) (by kernel_rfl) rfl (by kernel_rfl) ?_
    refine x_val (.int .i64 ((k : Nat) : Int)) (by kernel_rfl) rfl (by kernel_rfl) ?_
    refine x_val (.int .i64 (l.getD k 0)) (by kernel_rfl) rfl (by kernel_rfl) ?_
    refine x_nil ?_
    refine x_then ?_
    refine x_seq ?_
    refine x_seq ?_
    refine x_region ?_
    refine x_val (.pointer (some ⟨p, 0, none⟩)) (by kernel_rfl) rfl (by kernel_rfl) ?_
    refine x_val (.int .i64 (l.getD k 0)) (by kernel_rfl) rfl (by kernel_rfl) ?_
    refine x_callB (.bool (usedB sn pu D (l.getD k 0))) H (by kernel_rfl) rfl (by kernel_rfl) (Used_any hL (L := setsL l L k) ⟨by rw [hml]; exact eL, eD, eS, hp, hr⟩ _ _ (H.roOf [0, 1, 2, 3] [.blk p #[.int .i64 r, .int .i64 s, .int .i64 b, .int .i64 o, .int .i64 c, .int .i64 y, .int .i64 z, .slice (some ⟨gl, 0, none⟩) sn cl, .slice (some ⟨gd, 0, none⟩) pg cd, .slice (some ⟨gs, 0, none⟩) ns cs, .int .i64 ((pu : Nat) : Int), .int .i64 ((ru : Nat) : Int)] 181, .row (.slice (some ⟨gl, 0, none⟩) sn cl) 3 1 sn (List.map (Value.int .i64) (setsL l L k)), .row (.slice (some ⟨gd, 0, none⟩) pg cd) 4 1 pg (List.map Value.bool D), .row (.slice (some ⟨gs, 0, none⟩) ns cs) 3 1 ns (List.map (Value.int .i64) S)] (by kernel_rfl))) ?_
    clear H
    intro v2 H
    refine x_val (.bool (!(usedB sn pu D (l.getD k 0)))) (by kernel_rfl) rfl (by kernel_rfl) ?_
    refine x_val (.bool (!(usedB sn pu D (l.getD k 0)))) (by kernel_rfl) rfl (by kernel_rfl) ?_
    cases h2 : usedB sn pu D (l.getD k 0)
    · skip
      refine x_skip (by kernel_rfl) ?_
      refine x_skip (by kernel_rfl) ?_
      refine x_skip (by kernel_rfl) ?_
      refine x_skip (by kernel_rfl) ?_
      refine x_skip (by kernel_rfl) ?_
      refine x_skip (by kernel_rfl) ?_
      refine x_skip (by kernel_rfl) ?_
      refine x_skip (by kernel_rfl) ?_
      refine x_skip (by kernel_rfl) ?_
      refine x_skip (by kernel_rfl) ?_
      refine x_skip (by kernel_rfl) ?_
      refine x_val (.bool true) (by kernel_rfl) rfl (by kernel_rfl) ?_
      refine x_nil ?_
      refine x_frame' { tmps := #[.pointer (some ⟨p, 0, none⟩), .slice ad nl ca, undef, undef, u4, .int .i64 ((k : Nat) : Int), .int .i64 (l.getD k 0), .slice ad nl ca, .int .i64 ((nl : Nat) : Int), .int .i64 ((k : Nat) : Int), .bool true, .int .i64 ((k : Nat) : Int), .pointer (some ⟨ga, oa + k, none⟩), .int .i64 (l.getD k 0), .pointer (some ⟨p, 0, none⟩), .int .i64 (l.getD k 0), .bool false, .bool true, .bool true, undef, undef, undef, undef, undef, undef, undef, undef, undef, undef, undef, .bool true, u31, u32, u33, u34, u35, u36, u37, u38], defers := [] } (by kernel_rfl) ?_
      refine x_then ?_
      refine x_t (by kernel_rfl) ?_
      refine x_seq ?_
      refine x_region ?_
      refine x_val (.bool false) (by kernel_rfl) rfl (by kernel_rfl) ?_
      refine x_nil ?_
      refine x_then ?_
      refine x_retc ?_
      refine x_then_ret ?_
      refine x_blk_ret ?_
      refine x_then_ret ?_
      refine x_then_ret ?_
      refine x_blk_ret ?_
      refine x_then_ret ?_
      refine x_ret (.bool false) (by kernel_rfl) (by kernel_rfl) ?_
      exact absurd (okS_le (k := k + 1) (by omega) hyes) (by rw [okS_not1 h2]; decide)
    · skip
      refine x_val (.pointer (some ⟨p, 0, none⟩)) (by kernel_rfl) rfl (by kernel_rfl) ?_
      refine x_val (.pointer (some ⟨p, 0, none⟩)) (by kernel_rfl) rfl (by kernel_rfl) ?_
      refine x_val (.pointer (some ⟨p, 8, none⟩)) (by kernel_rfl) rfl (by kernel_rfl) ?_
      refine x_load1 H 0 p 8 #[.int .i64 r, .int .i64 s, .int .i64 b, .int .i64 o, .int .i64 c, .int .i64 y, .int .i64 z, .slice (some ⟨gl, 0, none⟩) sn cl, .slice (some ⟨gd, 0, none⟩) pg cd, .slice (some ⟨gs, 0, none⟩) ns cs, .int .i64 ((pu : Nat) : Int), .int .i64 ((ru : Nat) : Int)] 181 (.slice (some ⟨gd, 0, none⟩) pg cd) (by kernel_rfl) (by kernel_rfl) (by kernel_rfl) rfl (by kernel_rfl) ?_
      refine x_val (.int .i64 ((k : Nat) : Int)) (by kernel_rfl) rfl (by kernel_rfl) ?_
      refine x_ix (t := 179) gd 0 k pg cd 4 1 k (by omega) (by omega) (by kernel_rfl) (by kernel_rfl) (by kernel_rfl) rfl (by kernel_rfl) ?_
      refine x_loadc gd k (.bool (D.getD k false)) (H.rowCell 2 rfl k (mapAt false (by omega))) (by kernel_rfl) rfl (by kernel_rfl) ?_
      refine x_val (.int .i64 (l.getD k 0)) (by kernel_rfl) rfl (by kernel_rfl) ?_
      refine x_val (.int .i64 ((k : Nat) : Int)) (by kernel_rfl) rfl (by kernel_rfl) ?_
      refine x_val (.bool (!(decide ((l.getD k 0) = ((k : Nat) : Int))))) (by kernel_rfl) rfl (by kernel_rfl) ?_
      refine x_val (.bool ((D.getD k false) != (!(decide ((l.getD k 0) = ((k : Nat) : Int)))))) (by kernel_rfl) rfl (by kernel_rfl) ?_
      refine x_val (.bool ((D.getD k false) != (!(decide ((l.getD k 0) = ((k : Nat) : Int)))))) (by kernel_rfl) rfl (by kernel_rfl) ?_
      refine x_nil ?_
      refine x_frame' { tmps := #[.pointer (some ⟨p, 0, none⟩), .slice ad nl ca, undef, undef, u4, .int .i64 ((k : Nat) : Int), .int .i64 (l.getD k 0), .slice ad nl ca, .int .i64 ((nl : Nat) : Int), .int .i64 ((k : Nat) : Int), .bool true, .int .i64 ((k : Nat) : Int), .pointer (some ⟨ga, oa + k, none⟩), .int .i64 (l.getD k 0), .pointer (some ⟨p, 0, none⟩), .int .i64 (l.getD k 0), .bool true, .bool false, .bool false, .pointer (some ⟨p, 0, none⟩), .pointer (some ⟨p, 0, none⟩), .pointer (some ⟨p, 8, none⟩), .slice (some ⟨gd, 0, none⟩) pg cd, .int .i64 ((k : Nat) : Int), .pointer (some ⟨gd, k, none⟩), .bool (D.getD k false), .int .i64 (l.getD k 0), .int .i64 ((k : Nat) : Int), .bool (!(decide ((l.getD k 0) = ((k : Nat) : Int)))), .bool ((D.getD k false) != (!(decide ((l.getD k 0) = ((k : Nat) : Int))))), .bool ((D.getD k false) != (!(decide ((l.getD k 0) = ((k : Nat) : Int))))), u31, u32, u33, u34, u35, u36, u37, u38], defers := [] } (by kernel_rfl) ?_
      refine x_then ?_
      cases h3 : (D.getD k false) != (!(decide ((l.getD k 0) = ((k : Nat) : Int))))
      · skip
        refine x_f (by kernel_rfl) ?_
        refine x_skipc ?_
        refine x_then ?_
        refine x_region ?_
        refine x_val (.pointer (some ⟨p, 0, none⟩)) (by kernel_rfl) rfl (by kernel_rfl) ?_
        refine x_val (.pointer (some ⟨p, 0, none⟩)) (by kernel_rfl) rfl (by kernel_rfl) ?_
        refine x_val (.pointer (some ⟨p, 7, none⟩)) (by kernel_rfl) rfl (by kernel_rfl) ?_
        refine x_load1 H 0 p 7 #[.int .i64 r, .int .i64 s, .int .i64 b, .int .i64 o, .int .i64 c, .int .i64 y, .int .i64 z, .slice (some ⟨gl, 0, none⟩) sn cl, .slice (some ⟨gd, 0, none⟩) pg cd, .slice (some ⟨gs, 0, none⟩) ns cs, .int .i64 ((pu : Nat) : Int), .int .i64 ((ru : Nat) : Int)] 181 (.slice (some ⟨gl, 0, none⟩) sn cl) (by kernel_rfl) (by kernel_rfl) (by kernel_rfl) rfl (by kernel_rfl) ?_
        refine x_val (.int .i64 ((k : Nat) : Int)) (by kernel_rfl) rfl (by kernel_rfl) ?_
        refine x_val (.int .i64 (l.getD k 0)) (by kernel_rfl) rfl (by kernel_rfl) ?_
        refine x_ix (t := 106) gl 0 k sn cl 3 1 k (by omega) (by omega) (by kernel_rfl) (by kernel_rfl) (by kernel_rfl) rfl (by kernel_rfl) ?_
        refine x_storeRow (t := 3) (v := .int .i64 (l.getD k 0)) H 1 gl k sn cl 3 1 (List.map (Value.int .i64) (setsL l L k)) [.int .i64 (l.getD k 0)] (List.map (Value.int .i64) ((setsL l L k).set k (l.getD k 0))) [.blk p #[.int .i64 r, .int .i64 s, .int .i64 b, .int .i64 o, .int .i64 c, .int .i64 y, .int .i64 z, .slice (some ⟨gl, 0, none⟩) sn cl, .slice (some ⟨gd, 0, none⟩) pg cd, .slice (some ⟨gs, 0, none⟩) ns cs, .int .i64 ((pu : Nat) : Int), .int .i64 ((ru : Nat) : Int)] 181, .row (.slice (some ⟨gl, 0, none⟩) sn cl) 3 1 sn (List.map (Value.int .i64) ((setsL l L k).set k (l.getD k 0))), .row (.slice (some ⟨gd, 0, none⟩) pg cd) 4 1 pg (List.map Value.bool D), .row (.slice (some ⟨gs, 0, none⟩) ns cs) 3 1 ns (List.map (Value.int .i64) S)] rfl (by simp only [List.length_cons, List.length_nil]; omega) (by kernel_rfl) (setMap (by omega) (l.getD k 0)) rfl (by kernel_rfl) rfl (by kernel_rfl) (by kernel_rfl) (by kernel_rfl) ?_
        clear H
        intro v3 H
        refine x_nil ?_
        refine x_blk ?_
        refine x_then ?_
        refine x_region ?_
        refine x_ar (((k : Nat) : Int) + 1) ⟨by omega, by omega⟩ (by kernel_rfl) rfl (by kernel_rfl) ?_
        refine x_val (.int .i64 (((k : Nat) : Int) + 1)) (by kernel_rfl) rfl (by kernel_rfl) ?_
        refine x_nil ?_
        refine x_then ?_
        exact ⟨(k + 1), (by omega), u4, (.int .i64 ((k : Nat) : Int)), (.int .i64 (l.getD k 0)), (.bool true), (.int .i64 ((k : Nat) : Int)), (.pointer (some ⟨ga, oa + k, none⟩)), (.int .i64 (l.getD k 0)), (.pointer (some ⟨p, 0, none⟩)), (.int .i64 (l.getD k 0)), (.bool true), (.bool false), (.bool false), (.pointer (some ⟨p, 0, none⟩)), (.pointer (some ⟨p, 0, none⟩)), (.pointer (some ⟨p, 8, none⟩)), (.slice (some ⟨gd, 0, none⟩) pg cd), (.int .i64 ((k : Nat) : Int)), (.pointer (some ⟨gd, k, none⟩)), (.bool (D.getD k false)), (.int .i64 (l.getD k 0)), (.int .i64 ((k : Nat) : Int)), (.bool (!(decide ((l.getD k 0) = ((k : Nat) : Int))))), (.bool false), (.bool false), (.pointer (some ⟨p, 0, none⟩)), (.pointer (some ⟨p, 0, none⟩)), (.pointer (some ⟨p, 7, none⟩)), (.slice (some ⟨gl, 0, none⟩) sn cl), (.int .i64 ((k : Nat) : Int)), (.int .i64 (l.getD k 0)), (.pointer (some ⟨gl, k, none⟩)), (.int .i64 (((k : Nat) : Int) + 1)), (by kernel_rfl), H, (by omega), (okS_next r2 h2 h3)⟩
      · skip
        refine x_t (by kernel_rfl) ?_
        refine x_seq ?_
        refine x_region ?_
        refine x_val (.bool false) (by kernel_rfl) rfl (by kernel_rfl) ?_
        refine x_nil ?_
        refine x_then ?_
        refine x_retc ?_
        refine x_then_ret ?_
        refine x_blk_ret ?_
        refine x_then_ret ?_
        refine x_then_ret ?_
        refine x_blk_ret ?_
        refine x_then_ret ?_
        refine x_ret (.bool false) (by kernel_rfl) (by kernel_rfl) ?_
        exact absurd (okS_le (k := k + 1) (by omega) hyes) (by rw [okS_not2 h3]; decide)

set_option maxRecDepth 100000 in
set_option maxHeartbeats 2000000 in
theorem stand_yes {r s b o c y z : Int} {pg sn ns : Nat} (hL : Lay r s b o c y z pg sn ns) {p gl cl gd cd gs cs : Nat} {L : List Int} {D : List Bool} {S : List Int} {pu ru : Nat} (hM : MapOk z s sn pg ns L D S pu ru) (ad : Option Addr) (nq ca : Nat) (l : List Int) (hnq : ((nq : Nat) : Int) = r) (hx : ∀ i, i < nq → -9223372036854775808 ≤ l.getD i 0 ∧ l.getD i 0 ≤ 9223372036854775807) (hyes : okT r ((ru : Nat) : Int) l nq = true) (w0 : World) (hI : IntsM (fps [.blk p #[.int .i64 r, .int .i64 s, .int .i64 b, .int .i64 o, .int .i64 c, .int .i64 y, .int .i64 z, .slice (some ⟨gl, 0, none⟩) sn cl, .slice (some ⟨gd, 0, none⟩) pg cd, .slice (some ⟨gs, 0, none⟩) ns cs, .int .i64 ((pu : Nat) : Int), .int .i64 ((ru : Nat) : Int)] 181, .row (.slice (some ⟨gl, 0, none⟩) sn cl) 3 1 sn (List.map (Value.int .i64) L), .row (.slice (some ⟨gd, 0, none⟩) pg cd) 4 1 pg (List.map Value.bool D), .row (.slice (some ⟨gs, 0, none⟩) ns cs) 3 1 ns (List.map (Value.int .i64) S)]) w0 ad nq l) (H0 : Hs (fps [.blk p #[.int .i64 r, .int .i64 s, .int .i64 b, .int .i64 o, .int .i64 c, .int .i64 y, .int .i64 z, .slice (some ⟨gl, 0, none⟩) sn cl, .slice (some ⟨gd, 0, none⟩) pg cd, .slice (some ⟨gs, 0, none⟩) ns cs, .int .i64 ((pu : Nat) : Int), .int .i64 ((ru : Nat) : Int)] 181, .row (.slice (some ⟨gl, 0, none⟩) sn cl) 3 1 sn (List.map (Value.int .i64) L), .row (.slice (some ⟨gd, 0, none⟩) pg cd) 4 1 pg (List.map Value.bool D), .row (.slice (some ⟨gs, 0, none⟩) ns cs) 3 1 ns (List.map (Value.int .i64) S)]) w0 w0 [.blk p #[.int .i64 r, .int .i64 s, .int .i64 b, .int .i64 o, .int .i64 c, .int .i64 y, .int .i64 z, .slice (some ⟨gl, 0, none⟩) sn cl, .slice (some ⟨gd, 0, none⟩) pg cd, .slice (some ⟨gs, 0, none⟩) ns cs, .int .i64 ((pu : Nat) : Int), .int .i64 ((ru : Nat) : Int)] 181, .row (.slice (some ⟨gl, 0, none⟩) sn cl) 3 1 sn (List.map (Value.int .i64) L), .row (.slice (some ⟨gd, 0, none⟩) pg cd) 4 1 pg (List.map Value.bool D), .row (.slice (some ⟨gs, 0, none⟩) ns cs) 3 1 ns (List.map (Value.int .i64) S)]) :
    Calls Try.prog 135 #[.pointer (some ⟨p, 0, none⟩), .slice ad nq ca] w0 fun e w' => e = .returned (.bool true) ∧ Hs (fps [.blk p #[.int .i64 r, .int .i64 s, .int .i64 b, .int .i64 o, .int .i64 c, .int .i64 y, .int .i64 z, .slice (some ⟨gl, 0, none⟩) sn cl, .slice (some ⟨gd, 0, none⟩) pg cd, .slice (some ⟨gs, 0, none⟩) ns cs, .int .i64 ((pu : Nat) : Int), .int .i64 ((ru : Nat) : Int)] 181, .row (.slice (some ⟨gl, 0, none⟩) sn cl) 3 1 sn (List.map (Value.int .i64) L), .row (.slice (some ⟨gd, 0, none⟩) pg cd) 4 1 pg (List.map Value.bool D), .row (.slice (some ⟨gs, 0, none⟩) ns cs) 3 1 ns (List.map (Value.int .i64) S)]) w0 w' [.blk p #[.int .i64 r, .int .i64 s, .int .i64 b, .int .i64 o, .int .i64 c, .int .i64 y, .int .i64 z, .slice (some ⟨gl, 0, none⟩) sn cl, .slice (some ⟨gd, 0, none⟩) pg cd, .slice (some ⟨gs, 0, none⟩) ns cs, .int .i64 ((pu : Nat) : Int), .int .i64 ((ru : Nat) : Int)] 181, .row (.slice (some ⟨gl, 0, none⟩) sn cl) 3 1 sn (List.map (Value.int .i64) L), .row (.slice (some ⟨gd, 0, none⟩) pg cd) 4 1 pg (List.map Value.bool D), .row (.slice (some ⟨gs, 0, none⟩) ns cs) 3 1 ns (List.map (Value.int .i64) (standL l S nq))] := by
  refine x_enter Try.func135 rfl #[.pointer (some ⟨p, 0, none⟩), .slice ad nq ca, undef, undef, undef, undef, undef, undef, undef, undef, undef, undef, undef, undef, undef, undef, undef, undef, undef, undef, undef, undef, undef, undef, undef, undef, undef, undef, undef, undef, undef, undef, undef, undef, undef, undef, undef, undef] (by kernel_rfl) ?_
  have H := H0
  obtain ⟨eL, eD, eS, hp, hr⟩ := id hM
  have hok := hL.ok
  obtain ⟨-, r1, r8, s0, s8, b1, b2, o1, o2, c1, c2, y0, y4, z0, z2, hpg, hsn, hns, sn1, pg2, ln0, ln2⟩ := id hL
  refine x_seq ?_
  refine x_region ?_
  refine x_val (.bool false) (by kernel_rfl) rfl (by kernel_rfl) ?_
  refine x_nil ?_
  refine x_then ?_
  refine x_seq ?_
  refine x_seq ?_
  refine x_region ?_
  refine x_val (.slice ad nq ca) (by kernel_rfl) rfl (by kernel_rfl) ?_
  refine x_val (.int .i64 ((nq : Nat) : Int)) (by kernel_rfl) rfl (by kernel_rfl) ?_
  refine x_val (.int .i64 0) (by kernel_rfl) rfl (by kernel_rfl) ?_
  refine x_nil ?_
  refine x_then ?_
  refine x_block ?_
  refine x_loop (G := Nat) (fun (k : Nat) a w' => ∃ u4 : Value, ∃ u5 : Value, ∃ u6 : Value, ∃ u10 : Value, ∃ u11 : Value, ∃ u12 : Value, ∃ u13 : Value, ∃ u14 : Value, ∃ u15 : Value, ∃ u16 : Value, ∃ u17 : Value, ∃ u18 : Value, ∃ u19 : Value, ∃ u20 : Value, ∃ u21 : Value, ∃ u22 : Value, ∃ u23 : Value, ∃ u24 : Value, ∃ u25 : Value, ∃ u26 : Value, ∃ u27 : Value, ∃ u28 : Value, ∃ u29 : Value, ∃ u30 : Value, ∃ u31 : Value, ∃ u32 : Value, ∃ u33 : Value, ∃ u34 : Value, ∃ u35 : Value, ∃ u36 : Value, ∃ u37 : Value, a = { tmps := #[.pointer (some ⟨p, 0, none⟩), .slice ad nq ca, undef, undef, u4, u5, u6, .slice ad nq ca, .int .i64 ((nq : Nat) : Int), .int .i64 ((k : Nat) : Int), u10, u11, u12, u13, u14, u15, u16, u17, u18, u19, u20, u21, u22, u23, u24, u25, u26, u27, u28, u29, u30, u31, u32, u33, u34, u35, u36, u37], defers := [] } ∧ Hs (fps [.blk p #[.int .i64 r, .int .i64 s, .int .i64 b, .int .i64 o, .int .i64 c, .int .i64 y, .int .i64 z, .slice (some ⟨gl, 0, none⟩) sn cl, .slice (some ⟨gd, 0, none⟩) pg cd, .slice (some ⟨gs, 0, none⟩) ns cs, .int .i64 ((pu : Nat) : Int), .int .i64 ((ru : Nat) : Int)] 181, .row (.slice (some ⟨gl, 0, none⟩) sn cl) 3 1 sn (List.map (Value.int .i64) L), .row (.slice (some ⟨gd, 0, none⟩) pg cd) 4 1 pg (List.map Value.bool D), .row (.slice (some ⟨gs, 0, none⟩) ns cs) 3 1 ns (List.map (Value.int .i64) S)]) w0 w' [.blk p #[.int .i64 r, .int .i64 s, .int .i64 b, .int .i64 o, .int .i64 c, .int .i64 y, .int .i64 z, .slice (some ⟨gl, 0, none⟩) sn cl, .slice (some ⟨gd, 0, none⟩) pg cd, .slice (some ⟨gs, 0, none⟩) ns cs, .int .i64 ((pu : Nat) : Int), .int .i64 ((ru : Nat) : Int)] 181, .row (.slice (some ⟨gl, 0, none⟩) sn cl) 3 1 sn (List.map (Value.int .i64) L), .row (.slice (some ⟨gd, 0, none⟩) pg cd) 4 1 pg (List.map Value.bool D), .row (.slice (some ⟨gs, 0, none⟩) ns cs) 3 1 ns (List.map (Value.int .i64) (standL l S k))] ∧ (k ≤ nq) ∧ (okT r ((ru : Nat) : Int) l k = true)) (fun (k : Nat) => nq - k) 0 ⟨(.bool false), undef, undef, undef, undef, undef, undef, undef, undef, undef, undef, undef, undef, undef, undef, undef, undef, undef, undef, undef, undef, undef, undef, undef, undef, undef, undef, undef, undef, undef, undef, (by kernel_rfl), H, (Nat.zero_le _), rfl⟩ ?_
  clear H
  rintro k _ v1 ⟨u4, u5, u6, u10, u11, u12, u13, u14, u15, u16, u17, u18, u19, u20, u21, u22, u23, u24, u25, u26, u27, u28, u29, u30, u31, u32, u33, u34, u35, u36, u37, rfl, H, r1, r2⟩
  have hml := standL_len l S k
  refine x_seq ?_
  refine x_region ?_
  refine x_val (.bool (decide (((k : Nat) : Int) < ((nq : Nat) : Int)))) (by kernel_rfl) rfl (by kernel_rfl) ?_
  refine x_nil ?_
  refine x_then ?_
  refine x_seq ?_
  cases h1 : decide (((k : Nat) : Int) < ((nq : Nat) : Int))
  · skip
    have h1p := of_decide_eq_false h1
    refine x_f (by kernel_rfl) ?_
    refine x_exit ?_
    refine x_then_exit ?_
    refine x_then_exit ?_
    refine x_blk_exit ?_
    refine x_then ?_
    refine x_seq ?_
    refine x_region ?_
    refine x_val (.bool true) (by kernel_rfl) rfl (by kernel_rfl) ?_
    refine x_nil ?_
    refine x_then ?_
    refine x_retc ?_
    refine x_ret (.bool true) (by kernel_rfl) (by kernel_rfl) ?_
    obtain rfl : k = nq := by omega
    exact ⟨rfl, H⟩
  · skip
    have h1p := of_decide_eq_true h1
    refine x_t (by kernel_rfl) ?_
    refine x_skipc ?_
    refine x_then ?_
    refine x_seq ?_
    refine x_block ?_
    refine x_seq ?_
    refine x_region ?_
    refine x_val (.int .i64 ((k : Nat) : Int)) (by kernel_rfl) rfl (by kernel_rfl) ?_
    obtain ⟨ga, oa, had, hcell⟩ := hI (by omega)
    refine x_ixO (t := 106) had k nq ca 3 1 (oa + k) (by omega) (by omega) (by kernel_rfl) (by kernel_rfl) (by kernel_rfl) rfl (by kernel_rfl) ?_
    refine x_loadc ga (oa + k) (.int .i64 (l.getD k 0)) (hcell _ H.fr k (by omega)) (by kernel_rfl) rfl (by kernel_rfl) ?_
    refine x_val (.int .i64 ((k : Nat) : Int)) (by kernel_rfl) rfl (by kernel_rfl) ?_
    refine x_val (.int .i64 (l.getD k 0)) (by kernel_rfl) rfl (by kernel_rfl) ?_
    refine x_nil ?_
    refine x_then ?_
    refine x_seq ?_
    refine x_seq ?_
    refine x_region ?_
    refine x_val (.int .i64 (l.getD k 0)) (by kernel_rfl) rfl (by kernel_rfl) ?_
    refine x_val (.bool (decide ((l.getD k 0) = 0))) (by kernel_rfl) rfl (by kernel_rfl) ?_
    refine x_nil ?_
    refine x_then ?_
    cases h2 : decide ((l.getD k 0) = 0)
    · skip
      have h2p := of_decide_eq_false h2
      refine x_f (by kernel_rfl) ?_
      refine x_skipc ?_
      refine x_then ?_
      refine x_seq ?_
      refine x_seq ?_
      refine x_region_whole (fun w' => Hs (fps [.blk p #[.int .i64 r, .int .i64 s, .int .i64 b, .int .i64 o, .int .i64 c, .int .i64 y, .int .i64 z, .slice (some ⟨gl, 0, none⟩) sn cl, .slice (some ⟨gd, 0, none⟩) pg cd, .slice (some ⟨gs, 0, none⟩) ns cs, .int .i64 ((pu : Nat) : Int), .int .i64 ((ru : Nat) : Int)] 181, .row (.slice (some ⟨gl, 0, none⟩) sn cl) 3 1 sn (List.map (Value.int .i64) L), .row (.slice (some ⟨gd, 0, none⟩) pg cd) 4 1 pg (List.map Value.bool D), .row (.slice (some ⟨gs, 0, none⟩) ns cs) 3 1 ns (List.map (Value.int .i64) S)]) w0 w' [.blk p #[.int .i64 r, .int .i64 s, .int .i64 b, .int .i64 o, .int .i64 c, .int .i64 y, .int .i64 z, .slice (some ⟨gl, 0, none⟩) sn cl, .slice (some ⟨gd, 0, none⟩) pg cd, .slice (some ⟨gs, 0, none⟩) ns cs, .int .i64 ((pu : Nat) : Int), .int .i64 ((ru : Nat) : Int)] 181, .row (.slice (some ⟨gl, 0, none⟩) sn cl) 3 1 sn (List.map (Value.int .i64) L), .row (.slice (some ⟨gd, 0, none⟩) pg cd) 4 1 pg (List.map Value.bool D), .row (.slice (some ⟨gs, 0, none⟩) ns cs) 3 1 ns (List.map (Value.int .i64) (standL l S k))]) (by kernel_rfl) (by kernel_rfl) (by kernel_rfl) H.drew ?_
      refine q_val (.int .i64 (l.getD k 0)) (by kernel_rfl) (fun _ => by kernel_rfl) ?_
      refine q_val (.pointer (some ⟨p, 0, none⟩)) (by kernel_rfl) (fun _ => by kernel_rfl) ?_
      refine q_val (.pointer (some ⟨p, 0, none⟩)) (by kernel_rfl) (fun _ => by kernel_rfl) ?_
      refine q_val (.pointer (some ⟨p, 0, none⟩)) (by kernel_rfl) (fun _ => by kernel_rfl) ?_
      refine q_val (.pointer (some ⟨p, 0, none⟩)) (by kernel_rfl) (fun _ => by kernel_rfl) ?_
      refine q_val (.pointer (some ⟨p, 0, none⟩)) (by kernel_rfl) (fun _ => by kernel_rfl) ?_
      refine q_load1 0 p 0 #[.int .i64 r, .int .i64 s, .int .i64 b, .int .i64 o, .int .i64 c, .int .i64 y, .int .i64 z, .slice (some ⟨gl, 0, none⟩) sn cl, .slice (some ⟨gd, 0, none⟩) pg cd, .slice (some ⟨gs, 0, none⟩) ns cs, .int .i64 ((pu : Nat) : Int), .int .i64 ((ru : Nat) : Int)] 181 (.int .i64 r) (by kernel_rfl) (by kernel_rfl) (by kernel_rfl) (fun _ => by kernel_rfl) ?_
      refine q_val (.int .i64 (IntKind.i64.wrap ((l.getD k 0) - r))) (by kernel_rfl) (fun _ => by kernel_rfl) ?_
      refine q_val (.pointer (some ⟨p, 0, none⟩)) (by kernel_rfl) (fun _ => by kernel_rfl) ?_
      refine q_val (.pointer (some ⟨p, 0, none⟩)) (by kernel_rfl) (fun _ => by kernel_rfl) ?_
      refine q_val (.pointer (some ⟨p, 11, none⟩)) (by kernel_rfl) (fun _ => by kernel_rfl) ?_
      refine q_load1 0 p 11 #[.int .i64 r, .int .i64 s, .int .i64 b, .int .i64 o, .int .i64 c, .int .i64 y, .int .i64 z, .slice (some ⟨gl, 0, none⟩) sn cl, .slice (some ⟨gd, 0, none⟩) pg cd, .slice (some ⟨gs, 0, none⟩) ns cs, .int .i64 ((pu : Nat) : Int), .int .i64 ((ru : Nat) : Int)] 181 (.int .i64 ((ru : Nat) : Int)) (by kernel_rfl) (by kernel_rfl) (by kernel_rfl) (fun _ => by kernel_rfl) ?_
      refine q_callB (.bool (decide (r ≤ (l.getD k 0)) && decide ((l.getD k 0) < r + ((ru : Nat) : Int)))) (by kernel_rfl) (fun _ => by kernel_rfl) (fun _ => (by have h := below_any (IntKind.i64.wrap (l.getD k 0 - r)) ((ru : Nat) : Int); rw [wrap_sub (hx k (by omega)).1 (hx k (by omega)).2 (by omega) (by omega) (by omega) (by omega)] at h; exact h _)) ?_
      refine q_val (.bool (!(decide (r ≤ (l.getD k 0)) && decide ((l.getD k 0) < r + ((ru : Nat) : Int))))) (by kernel_rfl) (fun _ => by kernel_rfl) ?_
      refine q_nil ?_
      clear H
      intro v2 H
      refine x_frame' { tmps := #[.pointer (some ⟨p, 0, none⟩), .slice ad nq ca, undef, undef, u4, .int .i64 ((k : Nat) : Int), .int .i64 (l.getD k 0), .slice ad nq ca, .int .i64 ((nq : Nat) : Int), .int .i64 ((k : Nat) : Int), .bool true, .int .i64 ((k : Nat) : Int), .pointer (some ⟨ga, oa + k, none⟩), .int .i64 (l.getD k 0), .int .i64 (l.getD k 0), .bool false, .int .i64 (l.getD k 0), .pointer (some ⟨p, 0, none⟩), .pointer (some ⟨p, 0, none⟩), .pointer (some ⟨p, 0, none⟩), .pointer (some ⟨p, 0, none⟩), .pointer (some ⟨p, 0, none⟩), .int .i64 r, .int .i64 (IntKind.i64.wrap ((l.getD k 0) - r)), .pointer (some ⟨p, 0, none⟩), .pointer (some ⟨p, 0, none⟩), .pointer (some ⟨p, 11, none⟩), .int .i64 ((ru : Nat) : Int), .bool (decide (r ≤ (l.getD k 0)) && decide ((l.getD k 0) < r + ((ru : Nat) : Int))), .bool (!(decide (r ≤ (l.getD k 0)) && decide ((l.getD k 0) < r + ((ru : Nat) : Int)))), u30, u31, u32, u33, u34, u35, u36, u37], defers := [] } (by kernel_rfl) ?_
      refine x_then ?_
      cases h3 : decide (r ≤ (l.getD k 0)) && decide ((l.getD k 0) < r + ((ru : Nat) : Int))
      · skip
        refine x_t (by kernel_rfl) ?_
        refine x_seq ?_
        refine x_region ?_
        refine x_val (.bool false) (by kernel_rfl) rfl (by kernel_rfl) ?_
        refine x_nil ?_
        refine x_then ?_
        refine x_retc ?_
        refine x_then_ret ?_
        refine x_blk_ret ?_
        refine x_then_ret ?_
        refine x_then_ret ?_
        refine x_blk_ret ?_
        refine x_then_ret ?_
        refine x_ret (.bool false) (by kernel_rfl) (by kernel_rfl) ?_
        exact absurd (okT_le (k := k + 1) (by omega) hyes) (by rw [okT_not h2 h3]; decide)
      · skip
        refine x_f (by kernel_rfl) ?_
        refine x_skipc ?_
        refine x_then ?_
        refine x_region ?_
        refine x_val (.pointer (some ⟨p, 0, none⟩)) (by kernel_rfl) rfl (by kernel_rfl) ?_
        refine x_val (.pointer (some ⟨p, 0, none⟩)) (by kernel_rfl) rfl (by kernel_rfl) ?_
        refine x_val (.pointer (some ⟨p, 9, none⟩)) (by kernel_rfl) rfl (by kernel_rfl) ?_
        refine x_load1 H 0 p 9 #[.int .i64 r, .int .i64 s, .int .i64 b, .int .i64 o, .int .i64 c, .int .i64 y, .int .i64 z, .slice (some ⟨gl, 0, none⟩) sn cl, .slice (some ⟨gd, 0, none⟩) pg cd, .slice (some ⟨gs, 0, none⟩) ns cs, .int .i64 ((pu : Nat) : Int), .int .i64 ((ru : Nat) : Int)] 181 (.slice (some ⟨gs, 0, none⟩) ns cs) (by kernel_rfl) (by kernel_rfl) (by kernel_rfl) rfl (by kernel_rfl) ?_
        refine x_val (.int .i64 ((k : Nat) : Int)) (by kernel_rfl) rfl (by kernel_rfl) ?_
        refine x_val (.int .i64 (l.getD k 0)) (by kernel_rfl) rfl (by kernel_rfl) ?_
        refine x_ix (t := 106) gs 0 k ns cs 3 1 k (by omega) (by omega) (by kernel_rfl) (by kernel_rfl) (by kernel_rfl) rfl (by kernel_rfl) ?_
        refine x_storeRow (t := 3) (v := .int .i64 (l.getD k 0)) H 3 gs k ns cs 3 1 (List.map (Value.int .i64) (standL l S k)) [.int .i64 (l.getD k 0)] (List.map (Value.int .i64) ((standL l S k).set k (l.getD k 0))) [.blk p #[.int .i64 r, .int .i64 s, .int .i64 b, .int .i64 o, .int .i64 c, .int .i64 y, .int .i64 z, .slice (some ⟨gl, 0, none⟩) sn cl, .slice (some ⟨gd, 0, none⟩) pg cd, .slice (some ⟨gs, 0, none⟩) ns cs, .int .i64 ((pu : Nat) : Int), .int .i64 ((ru : Nat) : Int)] 181, .row (.slice (some ⟨gl, 0, none⟩) sn cl) 3 1 sn (List.map (Value.int .i64) L), .row (.slice (some ⟨gd, 0, none⟩) pg cd) 4 1 pg (List.map Value.bool D), .row (.slice (some ⟨gs, 0, none⟩) ns cs) 3 1 ns (List.map (Value.int .i64) ((standL l S k).set k (l.getD k 0)))] rfl (by simp only [List.length_cons, List.length_nil]; omega) (by kernel_rfl) (setMap (by omega) (l.getD k 0)) rfl (by kernel_rfl) rfl (by kernel_rfl) (by kernel_rfl) (by kernel_rfl) ?_
        clear H
        intro v3 H
        refine x_nil ?_
        refine x_blk ?_
        refine x_then ?_
        refine x_region ?_
        refine x_ar (((k : Nat) : Int) + 1) ⟨by omega, by omega⟩ (by kernel_rfl) rfl (by kernel_rfl) ?_
        refine x_val (.int .i64 (((k : Nat) : Int) + 1)) (by kernel_rfl) rfl (by kernel_rfl) ?_
        refine x_nil ?_
        refine x_then ?_
        rw [show (standL l S k).set k (l.getD k 0) = standL l S (k + 1) by rw [standL, if_neg (of_decide_eq_false h2)]] at H
        exact ⟨(k + 1), (by omega), u4, (.int .i64 ((k : Nat) : Int)), (.int .i64 (l.getD k 0)), (.bool true), (.int .i64 ((k : Nat) : Int)), (.pointer (some ⟨ga, oa + k, none⟩)), (.int .i64 (l.getD k 0)), (.int .i64 (l.getD k 0)), (.bool false), (.int .i64 (l.getD k 0)), (.pointer (some ⟨p, 0, none⟩)), (.pointer (some ⟨p, 0, none⟩)), (.pointer (some ⟨p, 0, none⟩)), (.pointer (some ⟨p, 0, none⟩)), (.pointer (some ⟨p, 0, none⟩)), (.int .i64 r), (.int .i64 (IntKind.i64.wrap ((l.getD k 0) - r))), (.pointer (some ⟨p, 0, none⟩)), (.pointer (some ⟨p, 0, none⟩)), (.pointer (some ⟨p, 11, none⟩)), (.int .i64 ((ru : Nat) : Int)), (.bool true), (.bool false), (.pointer (some ⟨p, 0, none⟩)), (.pointer (some ⟨p, 0, none⟩)), (.pointer (some ⟨p, 9, none⟩)), (.slice (some ⟨gs, 0, none⟩) ns cs), (.int .i64 ((k : Nat) : Int)), (.int .i64 (l.getD k 0)), (.pointer (some ⟨gs, k, none⟩)), (.int .i64 (((k : Nat) : Int) + 1)), (by kernel_rfl), H, (by omega), (okT_in r2 h3)⟩
    · skip
      have h2p := of_decide_eq_true h2
      refine x_t (by kernel_rfl) ?_
      refine x_exit ?_
      refine x_then_exit ?_
      refine x_blk_exit ?_
      refine x_then ?_
      refine x_region ?_
      refine x_ar (((k : Nat) : Int) + 1) ⟨by omega, by omega⟩ (by kernel_rfl) rfl (by kernel_rfl) ?_
      refine x_val (.int .i64 (((k : Nat) : Int) + 1)) (by kernel_rfl) rfl (by kernel_rfl) ?_
      refine x_nil ?_
      refine x_then ?_
      rw [show standL l S k = standL l S (k + 1) by rw [standL, if_pos (of_decide_eq_true h2)]] at H
      exact ⟨(k + 1), (by omega), u4, (.int .i64 ((k : Nat) : Int)), (.int .i64 (l.getD k 0)), (.bool true), (.int .i64 ((k : Nat) : Int)), (.pointer (some ⟨ga, oa + k, none⟩)), (.int .i64 (l.getD k 0)), (.int .i64 (l.getD k 0)), (.bool true), u16, u17, u18, u19, u20, u21, u22, u23, u24, u25, u26, u27, u28, u29, u30, u31, u32, u33, u34, u35, u36, (.int .i64 (((k : Nat) : Int) + 1)), (by kernel_rfl), H, (by omega), (okT_zero r2 h2)⟩

set_option maxRecDepth 100000 in
set_option maxHeartbeats 2000000 in
theorem bury_no {r s b o c y z : Int} {pg sn ns : Nat} (hL : Lay r s b o c y z pg sn ns) {p gl cl gd cd gs cs : Nat} {L : List Int} {S : List Int} {pu ru : Nat} (hM : MapOk z s sn pg ns L (List.replicate pg false) S pu ru) (ad : Option Addr) (nd ca : Nat) (l : List Int) (hnd : nd ≤ 9223372036854775807) (hno : okD pg l nd = false) (w0 : World) (hI : IntsM (fps [.blk p #[.int .i64 r, .int .i64 s, .int .i64 b, .int .i64 o, .int .i64 c, .int .i64 y, .int .i64 z, .slice (some ⟨gl, 0, none⟩) sn cl, .slice (some ⟨gd, 0, none⟩) pg cd, .slice (some ⟨gs, 0, none⟩) ns cs, .int .i64 ((pu : Nat) : Int), .int .i64 ((ru : Nat) : Int)] 181, .row (.slice (some ⟨gl, 0, none⟩) sn cl) 3 1 sn (List.map (Value.int .i64) L), .row (.slice (some ⟨gd, 0, none⟩) pg cd) 4 1 pg (List.map Value.bool (List.replicate pg false)), .row (.slice (some ⟨gs, 0, none⟩) ns cs) 3 1 ns (List.map (Value.int .i64) S)]) w0 ad nd l) (H0 : Hs (fps [.blk p #[.int .i64 r, .int .i64 s, .int .i64 b, .int .i64 o, .int .i64 c, .int .i64 y, .int .i64 z, .slice (some ⟨gl, 0, none⟩) sn cl, .slice (some ⟨gd, 0, none⟩) pg cd, .slice (some ⟨gs, 0, none⟩) ns cs, .int .i64 ((pu : Nat) : Int), .int .i64 ((ru : Nat) : Int)] 181, .row (.slice (some ⟨gl, 0, none⟩) sn cl) 3 1 sn (List.map (Value.int .i64) L), .row (.slice (some ⟨gd, 0, none⟩) pg cd) 4 1 pg (List.map Value.bool (List.replicate pg false)), .row (.slice (some ⟨gs, 0, none⟩) ns cs) 3 1 ns (List.map (Value.int .i64) S)]) w0 w0 [.blk p #[.int .i64 r, .int .i64 s, .int .i64 b, .int .i64 o, .int .i64 c, .int .i64 y, .int .i64 z, .slice (some ⟨gl, 0, none⟩) sn cl, .slice (some ⟨gd, 0, none⟩) pg cd, .slice (some ⟨gs, 0, none⟩) ns cs, .int .i64 ((pu : Nat) : Int), .int .i64 ((ru : Nat) : Int)] 181, .row (.slice (some ⟨gl, 0, none⟩) sn cl) 3 1 sn (List.map (Value.int .i64) L), .row (.slice (some ⟨gd, 0, none⟩) pg cd) 4 1 pg (List.map Value.bool (List.replicate pg false)), .row (.slice (some ⟨gs, 0, none⟩) ns cs) 3 1 ns (List.map (Value.int .i64) S)]) :
    Calls Try.prog 133 #[.pointer (some ⟨p, 0, none⟩), .slice ad nd ca] w0 fun e w' => e = .returned (.bool false) ∧ Hs (fps [.blk p #[.int .i64 r, .int .i64 s, .int .i64 b, .int .i64 o, .int .i64 c, .int .i64 y, .int .i64 z, .slice (some ⟨gl, 0, none⟩) sn cl, .slice (some ⟨gd, 0, none⟩) pg cd, .slice (some ⟨gs, 0, none⟩) ns cs, .int .i64 ((pu : Nat) : Int), .int .i64 ((ru : Nat) : Int)] 181, .row (.slice (some ⟨gl, 0, none⟩) sn cl) 3 1 sn (List.map (Value.int .i64) L), .row (.slice (some ⟨gd, 0, none⟩) pg cd) 4 1 pg (List.map Value.bool (List.replicate pg false)), .row (.slice (some ⟨gs, 0, none⟩) ns cs) 3 1 ns (List.map (Value.int .i64) S)]) w0 w' [] := by
  refine x_enter Try.func133 rfl #[.pointer (some ⟨p, 0, none⟩), .slice ad nd ca, undef, undef, undef, undef, undef, undef, undef, undef, undef, undef, undef, undef, undef, undef, undef, undef, undef, undef, undef, undef, undef, undef, undef, undef, undef, undef, undef, undef, undef, undef, undef, undef, undef] (by kernel_rfl) ?_
  have H := H0
  obtain ⟨eL, eD, eS, hp, hr⟩ := id hM
  have hok := hL.ok
  obtain ⟨-, r1, r8, s0, s8, b1, b2, o1, o2, c1, c2, y0, y4, z0, z2, hpg, hsn, hns, sn1, pg2, ln0, ln2⟩ := id hL
  refine x_seq ?_
  refine x_region ?_
  refine x_val (.bool false) (by kernel_rfl) rfl (by kernel_rfl) ?_
  refine x_nil ?_
  refine x_then ?_
  refine x_seq ?_
  refine x_region ?_
  refine x_val (.int .i64 (-1)) (by kernel_rfl) rfl (by kernel_rfl) ?_
  refine x_nil ?_
  refine x_then ?_
  refine x_seq ?_
  refine x_seq ?_
  refine x_region ?_
  refine x_val (.slice ad nd ca) (by kernel_rfl) rfl (by kernel_rfl) ?_
  refine x_val (.int .i64 ((nd : Nat) : Int)) (by kernel_rfl) rfl (by kernel_rfl) ?_
  refine x_val (.int .i64 0) (by kernel_rfl) rfl (by kernel_rfl) ?_
  refine x_nil ?_
  refine x_then ?_
  refine x_block ?_
  refine x_loop (G := Nat) (fun (k : Nat) a w' => ∃ u4 : Value, ∃ u7 : Value, ∃ u11 : Value, ∃ u12 : Value, ∃ u13 : Value, ∃ u14 : Value, ∃ u15 : Value, ∃ u16 : Value, ∃ u17 : Value, ∃ u18 : Value, ∃ u19 : Value, ∃ u20 : Value, ∃ u21 : Value, ∃ u22 : Value, ∃ u23 : Value, ∃ u24 : Value, ∃ u25 : Value, ∃ u26 : Value, ∃ u27 : Value, ∃ u28 : Value, ∃ u29 : Value, ∃ u30 : Value, ∃ u31 : Value, ∃ u32 : Value, ∃ u33 : Value, ∃ u34 : Value, a = { tmps := #[.pointer (some ⟨p, 0, none⟩), .slice ad nd ca, undef, undef, u4, .int .i64 (lastD l k), undef, u7, .slice ad nd ca, .int .i64 ((nd : Nat) : Int), .int .i64 ((k : Nat) : Int), u11, u12, u13, u14, u15, u16, u17, u18, u19, u20, u21, u22, u23, u24, u25, u26, u27, u28, u29, u30, u31, u32, u33, u34], defers := [] } ∧ Hs (fps [.blk p #[.int .i64 r, .int .i64 s, .int .i64 b, .int .i64 o, .int .i64 c, .int .i64 y, .int .i64 z, .slice (some ⟨gl, 0, none⟩) sn cl, .slice (some ⟨gd, 0, none⟩) pg cd, .slice (some ⟨gs, 0, none⟩) ns cs, .int .i64 ((pu : Nat) : Int), .int .i64 ((ru : Nat) : Int)] 181, .row (.slice (some ⟨gl, 0, none⟩) sn cl) 3 1 sn (List.map (Value.int .i64) L), .row (.slice (some ⟨gd, 0, none⟩) pg cd) 4 1 pg (List.map Value.bool (List.replicate pg false)), .row (.slice (some ⟨gs, 0, none⟩) ns cs) 3 1 ns (List.map (Value.int .i64) S)]) w0 w' [.blk p #[.int .i64 r, .int .i64 s, .int .i64 b, .int .i64 o, .int .i64 c, .int .i64 y, .int .i64 z, .slice (some ⟨gl, 0, none⟩) sn cl, .slice (some ⟨gd, 0, none⟩) pg cd, .slice (some ⟨gs, 0, none⟩) ns cs, .int .i64 ((pu : Nat) : Int), .int .i64 ((ru : Nat) : Int)] 181, .row (.slice (some ⟨gl, 0, none⟩) sn cl) 3 1 sn (List.map (Value.int .i64) L), .row (.slice (some ⟨gd, 0, none⟩) pg cd) 4 1 pg (List.map Value.bool (marks pg l k)), .row (.slice (some ⟨gs, 0, none⟩) ns cs) 3 1 ns (List.map (Value.int .i64) S)] ∧ (k ≤ nd) ∧ (okD pg l k = true)) (fun (k : Nat) => nd - k) 0 ⟨(.bool false), undef, undef, undef, undef, undef, undef, undef, undef, undef, undef, undef, undef, undef, undef, undef, undef, undef, undef, undef, undef, undef, undef, undef, undef, undef, (by kernel_rfl), H, (Nat.zero_le _), rfl⟩ ?_
  clear H
  rintro k _ v1 ⟨u4, u7, u11, u12, u13, u14, u15, u16, u17, u18, u19, u20, u21, u22, u23, u24, u25, u26, u27, u28, u29, u30, u31, u32, u33, u34, rfl, H, r1, r2⟩
  have hml := marks_len pg l k
  have hlast := last_nn r2
  refine x_seq ?_
  refine x_region ?_
  refine x_val (.bool (decide (((k : Nat) : Int) < ((nd : Nat) : Int)))) (by kernel_rfl) rfl (by kernel_rfl) ?_
  refine x_nil ?_
  refine x_then ?_
  refine x_seq ?_
  cases h1 : decide (((k : Nat) : Int) < ((nd : Nat) : Int))
  · skip
    have h1p := of_decide_eq_false h1
    refine x_f (by kernel_rfl) ?_
    refine x_exit ?_
    refine x_then_exit ?_
    refine x_then_exit ?_
    refine x_blk_exit ?_
    refine x_then ?_
    refine x_seq ?_
    refine x_region ?_
    refine x_val (.bool true) (by kernel_rfl) rfl (by kernel_rfl) ?_
    refine x_nil ?_
    refine x_then ?_
    refine x_retc ?_
    refine x_ret (.bool true) (by kernel_rfl) (by kernel_rfl) ?_
    obtain rfl : k = nd := by omega
    exact absurd r2 (by rw [hno]; decide)
  · skip
    have h1p := of_decide_eq_true h1
    refine x_t (by kernel_rfl) ?_
    refine x_skipc ?_
    refine x_then ?_
    refine x_seq ?_
    refine x_block ?_
    refine x_seq ?_
    refine x_region ?_
    obtain ⟨ga, oa, had, hcell⟩ := hI (by omega)
    refine x_ixO (t := 106) had k nd ca 3 1 (oa + k) (by omega) (by omega) (by kernel_rfl) (by kernel_rfl) (by kernel_rfl) rfl (by kernel_rfl) ?_
    refine x_loadc ga (oa + k) (.int .i64 (l.getD k 0)) (hcell _ H.fr k (by omega)) (by kernel_rfl) rfl (by kernel_rfl) ?_
    refine x_val (.int .i64 (l.getD k 0)) (by kernel_rfl) rfl (by kernel_rfl) ?_
    refine x_nil ?_
    refine x_then ?_
    refine x_seq ?_
    refine x_seq ?_
    refine x_region ?_
    refine x_val (.int .i64 (l.getD k 0)) (by kernel_rfl) rfl (by kernel_rfl) ?_
    refine x_val (.int .i64 (lastD l k)) (by kernel_rfl) rfl (by kernel_rfl) ?_
    refine x_val (.bool (decide ((l.getD k 0) ≤ (lastD l k)))) (by kernel_rfl) rfl (by kernel_rfl) ?_
    refine x_val (.bool (decide ((l.getD k 0) ≤ (lastD l k)))) (by kernel_rfl) rfl (by kernel_rfl) ?_
    cases h2 : decide ((l.getD k 0) ≤ (lastD l k))
    · skip
      have h2p := of_decide_eq_false h2
      refine x_val (.int .i64 (l.getD k 0)) (by kernel_rfl) rfl (by kernel_rfl) ?_
      refine x_val (.pointer (some ⟨p, 0, none⟩)) (by kernel_rfl) rfl (by kernel_rfl) ?_
      refine x_val (.pointer (some ⟨p, 0, none⟩)) (by kernel_rfl) rfl (by kernel_rfl) ?_
      refine x_val (.pointer (some ⟨p, 8, none⟩)) (by kernel_rfl) rfl (by kernel_rfl) ?_
      refine x_load1 H 0 p 8 #[.int .i64 r, .int .i64 s, .int .i64 b, .int .i64 o, .int .i64 c, .int .i64 y, .int .i64 z, .slice (some ⟨gl, 0, none⟩) sn cl, .slice (some ⟨gd, 0, none⟩) pg cd, .slice (some ⟨gs, 0, none⟩) ns cs, .int .i64 ((pu : Nat) : Int), .int .i64 ((ru : Nat) : Int)] 181 (.slice (some ⟨gd, 0, none⟩) pg cd) (by kernel_rfl) (by kernel_rfl) (by kernel_rfl) rfl (by kernel_rfl) ?_
      refine x_val (.int .i64 ((pg : Nat) : Int)) (by kernel_rfl) rfl (by kernel_rfl) ?_
      refine x_callB (.bool (decide (0 ≤ (l.getD k 0)) && decide ((l.getD k 0) < ((pg : Nat) : Int)))) H (by kernel_rfl) rfl (by kernel_rfl) (below_any _ _ _) ?_
      clear H
      intro v2 H
      refine x_val (.bool (!(decide (0 ≤ (l.getD k 0)) && decide ((l.getD k 0) < ((pg : Nat) : Int))))) (by kernel_rfl) rfl (by kernel_rfl) ?_
      refine x_val (.bool (!(decide (0 ≤ (l.getD k 0)) && decide ((l.getD k 0) < ((pg : Nat) : Int))))) (by kernel_rfl) rfl (by kernel_rfl) ?_
      refine x_nil ?_
      refine x_frame' { tmps := #[.pointer (some ⟨p, 0, none⟩), .slice ad nd ca, undef, undef, u4, .int .i64 (lastD l k), undef, .int .i64 (l.getD k 0), .slice ad nd ca, .int .i64 ((nd : Nat) : Int), .int .i64 ((k : Nat) : Int), .bool true, .pointer (some ⟨ga, oa + k, none⟩), .int .i64 (l.getD k 0), .int .i64 (l.getD k 0), .int .i64 (lastD l k), .bool false, .bool false, .int .i64 (l.getD k 0), .pointer (some ⟨p, 0, none⟩), .pointer (some ⟨p, 0, none⟩), .pointer (some ⟨p, 8, none⟩), .slice (some ⟨gd, 0, none⟩) pg cd, .int .i64 ((pg : Nat) : Int), .bool (decide (0 ≤ (l.getD k 0)) && decide ((l.getD k 0) < ((pg : Nat) : Int))), .bool (!(decide (0 ≤ (l.getD k 0)) && decide ((l.getD k 0) < ((pg : Nat) : Int)))), .bool (!(decide (0 ≤ (l.getD k 0)) && decide ((l.getD k 0) < ((pg : Nat) : Int)))), u27, u28, u29, u30, u31, u32, u33, u34], defers := [] } (by kernel_rfl) ?_
      refine x_then ?_
      cases h3 : decide (0 ≤ (l.getD k 0)) && decide ((l.getD k 0) < ((pg : Nat) : Int))
      · skip
        have hbb : ¬ (0 ≤ l.getD k 0 ∧ l.getD k 0 < (pg : Int)) := fun hx => by have q := h3; rw [decide_eq_true hx.1, decide_eq_true hx.2] at q; exact absurd q (by decide)
        refine x_t (by kernel_rfl) ?_
        refine x_seq ?_
        refine x_region ?_
        refine x_val (.bool false) (by kernel_rfl) rfl (by kernel_rfl) ?_
        refine x_nil ?_
        refine x_then ?_
        refine x_retc ?_
        refine x_then_ret ?_
        refine x_blk_ret ?_
        refine x_then_ret ?_
        refine x_then_ret ?_
        refine x_blk_ret ?_
        refine x_then_ret ?_
        refine x_ret (.bool false) (by kernel_rfl) (by kernel_rfl) ?_
        exact ⟨rfl, H.pick [] _ (by decide) (by kernel_rfl)⟩
      · skip
        have hbt : 0 ≤ l.getD k 0 ∧ l.getD k 0 < (pg : Int) := by have q := h3; rw [Bool.and_eq_true, decide_eq_true_eq, decide_eq_true_eq] at q; exact q
        refine x_f (by kernel_rfl) ?_
        refine x_skipc ?_
        refine x_then ?_
        refine x_seq ?_
        refine x_region ?_
        refine x_val (.pointer (some ⟨p, 0, none⟩)) (by kernel_rfl) rfl (by kernel_rfl) ?_
        refine x_val (.pointer (some ⟨p, 0, none⟩)) (by kernel_rfl) rfl (by kernel_rfl) ?_
        refine x_val (.pointer (some ⟨p, 8, none⟩)) (by kernel_rfl) rfl (by kernel_rfl) ?_
        refine x_load1 H 0 p 8 #[.int .i64 r, .int .i64 s, .int .i64 b, .int .i64 o, .int .i64 c, .int .i64 y, .int .i64 z, .slice (some ⟨gl, 0, none⟩) sn cl, .slice (some ⟨gd, 0, none⟩) pg cd, .slice (some ⟨gs, 0, none⟩) ns cs, .int .i64 ((pu : Nat) : Int), .int .i64 ((ru : Nat) : Int)] 181 (.slice (some ⟨gd, 0, none⟩) pg cd) (by kernel_rfl) (by kernel_rfl) (by kernel_rfl) rfl (by kernel_rfl) ?_
        refine x_val (.int .i64 (l.getD k 0)) (by kernel_rfl) rfl (by kernel_rfl) ?_
        refine x_ixE (t := 179) (i := (l.getD k 0)) gd 0 ((l.getD k 0).toNat) pg cd (by omega) 4 1 ((l.getD k 0).toNat) (by omega) (by omega) (by kernel_rfl) (by kernel_rfl) (by kernel_rfl) rfl (by kernel_rfl) ?_
        refine x_storeRow (t := 4) (v := .bool true) H 2 gd ((l.getD k 0).toNat) pg cd 4 1 (List.map Value.bool (marks pg l k)) [.bool true] (List.map Value.bool ((marks pg l k).set ((l.getD k 0).toNat) true)) [.blk p #[.int .i64 r, .int .i64 s, .int .i64 b, .int .i64 o, .int .i64 c, .int .i64 y, .int .i64 z, .slice (some ⟨gl, 0, none⟩) sn cl, .slice (some ⟨gd, 0, none⟩) pg cd, .slice (some ⟨gs, 0, none⟩) ns cs, .int .i64 ((pu : Nat) : Int), .int .i64 ((ru : Nat) : Int)] 181, .row (.slice (some ⟨gl, 0, none⟩) sn cl) 3 1 sn (List.map (Value.int .i64) L), .row (.slice (some ⟨gd, 0, none⟩) pg cd) 4 1 pg (List.map Value.bool ((marks pg l k).set ((l.getD k 0).toNat) true)), .row (.slice (some ⟨gs, 0, none⟩) ns cs) 3 1 ns (List.map (Value.int .i64) S)] rfl (by simp only [List.length_cons, List.length_nil]; omega) (by kernel_rfl) (setMap (by omega) true) rfl (by kernel_rfl) rfl (by kernel_rfl) (by kernel_rfl) (by kernel_rfl) ?_
        clear H
        intro v3 H
        refine x_nil ?_
        refine x_then ?_
        refine x_region ?_
        refine x_val (.int .i64 (l.getD k 0)) (by kernel_rfl) rfl (by kernel_rfl) ?_
        refine x_val (.int .i64 (l.getD k 0)) (by kernel_rfl) rfl (by kernel_rfl) ?_
        refine x_nil ?_
        refine x_blk ?_
        refine x_then ?_
        refine x_region ?_
        refine x_ar (((k : Nat) : Int) + 1) ⟨by omega, by omega⟩ (by kernel_rfl) rfl (by kernel_rfl) ?_
        refine x_val (.int .i64 (((k : Nat) : Int) + 1)) (by kernel_rfl) rfl (by kernel_rfl) ?_
        refine x_nil ?_
        refine x_then ?_
        exact ⟨(k + 1), (by omega), u4, (.int .i64 (l.getD k 0)), (.bool true), (.pointer (some ⟨ga, oa + k, none⟩)), (.int .i64 (l.getD k 0)), (.int .i64 (l.getD k 0)), (.int .i64 (lastD l k)), (.bool false), (.bool false), (.int .i64 (l.getD k 0)), (.pointer (some ⟨p, 0, none⟩)), (.pointer (some ⟨p, 0, none⟩)), (.pointer (some ⟨p, 8, none⟩)), (.slice (some ⟨gd, 0, none⟩) pg cd), (.int .i64 ((pg : Nat) : Int)), (.bool true), (.bool false), (.bool false), (.pointer (some ⟨p, 0, none⟩)), (.pointer (some ⟨p, 0, none⟩)), (.pointer (some ⟨p, 8, none⟩)), (.slice (some ⟨gd, 0, none⟩) pg cd), (.int .i64 (l.getD k 0)), (.pointer (some ⟨gd, (l.getD k 0).toNat, none⟩)), (.int .i64 (l.getD k 0)), (.int .i64 (((k : Nat) : Int) + 1)), (by kernel_rfl), H, (by omega), (okD_yes r2 (by omega) (by omega))⟩
    · skip
      have h2p := of_decide_eq_true h2
      refine x_skip (by kernel_rfl) ?_
      refine x_skip (by kernel_rfl) ?_
      refine x_skip (by kernel_rfl) ?_
      refine x_skip (by kernel_rfl) ?_
      refine x_skip (by kernel_rfl) ?_
      refine x_skip (by kernel_rfl) ?_
      refine x_skip (by kernel_rfl) ?_
      refine x_skip (by kernel_rfl) ?_
      refine x_val (.bool true) (by kernel_rfl) rfl (by kernel_rfl) ?_
      refine x_nil ?_
      refine x_frame' { tmps := #[.pointer (some ⟨p, 0, none⟩), .slice ad nd ca, undef, undef, u4, .int .i64 (lastD l k), undef, .int .i64 (l.getD k 0), .slice ad nd ca, .int .i64 ((nd : Nat) : Int), .int .i64 ((k : Nat) : Int), .bool true, .pointer (some ⟨ga, oa + k, none⟩), .int .i64 (l.getD k 0), .int .i64 (l.getD k 0), .int .i64 (lastD l k), .bool true, .bool true, undef, undef, undef, undef, undef, undef, undef, undef, .bool true, u27, u28, u29, u30, u31, u32, u33, u34], defers := [] } (by kernel_rfl) ?_
      refine x_then ?_
      refine x_t (by kernel_rfl) ?_
      refine x_seq ?_
      refine x_region ?_
      refine x_val (.bool false) (by kernel_rfl) rfl (by kernel_rfl) ?_
      refine x_nil ?_
      refine x_then ?_
      refine x_retc ?_
      refine x_then_ret ?_
      refine x_blk_ret ?_
      refine x_then_ret ?_
      refine x_then_ret ?_
      refine x_blk_ret ?_
      refine x_then_ret ?_
      refine x_ret (.bool false) (by kernel_rfl) (by kernel_rfl) ?_
      exact ⟨rfl, H.pick [] _ (by decide) (by kernel_rfl)⟩

set_option maxRecDepth 100000 in
set_option maxHeartbeats 2000000 in
theorem settle_no {r s b o c y z : Int} {pg sn ns : Nat} (hL : Lay r s b o c y z pg sn ns) {p gl cl gd cd gs cs : Nat} {L : List Int} {D : List Bool} {S : List Int} {pu ru : Nat} (hM : MapOk z s sn pg ns L D S pu ru) (ad : Option Addr) (nl ca : Nat) (l : List Int) (hnl : nl = sn) (hno : okS (((sn : Nat) : Int) + ((pu : Nat) : Int)) D l nl = false) (w0 : World) (hI : IntsM (fps [.blk p #[.int .i64 r, .int .i64 s, .int .i64 b, .int .i64 o, .int .i64 c, .int .i64 y, .int .i64 z, .slice (some ⟨gl, 0, none⟩) sn cl, .slice (some ⟨gd, 0, none⟩) pg cd, .slice (some ⟨gs, 0, none⟩) ns cs, .int .i64 ((pu : Nat) : Int), .int .i64 ((ru : Nat) : Int)] 181, .row (.slice (some ⟨gl, 0, none⟩) sn cl) 3 1 sn (List.map (Value.int .i64) L), .row (.slice (some ⟨gd, 0, none⟩) pg cd) 4 1 pg (List.map Value.bool D), .row (.slice (some ⟨gs, 0, none⟩) ns cs) 3 1 ns (List.map (Value.int .i64) S)]) w0 ad nl l) (H0 : Hs (fps [.blk p #[.int .i64 r, .int .i64 s, .int .i64 b, .int .i64 o, .int .i64 c, .int .i64 y, .int .i64 z, .slice (some ⟨gl, 0, none⟩) sn cl, .slice (some ⟨gd, 0, none⟩) pg cd, .slice (some ⟨gs, 0, none⟩) ns cs, .int .i64 ((pu : Nat) : Int), .int .i64 ((ru : Nat) : Int)] 181, .row (.slice (some ⟨gl, 0, none⟩) sn cl) 3 1 sn (List.map (Value.int .i64) L), .row (.slice (some ⟨gd, 0, none⟩) pg cd) 4 1 pg (List.map Value.bool D), .row (.slice (some ⟨gs, 0, none⟩) ns cs) 3 1 ns (List.map (Value.int .i64) S)]) w0 w0 [.blk p #[.int .i64 r, .int .i64 s, .int .i64 b, .int .i64 o, .int .i64 c, .int .i64 y, .int .i64 z, .slice (some ⟨gl, 0, none⟩) sn cl, .slice (some ⟨gd, 0, none⟩) pg cd, .slice (some ⟨gs, 0, none⟩) ns cs, .int .i64 ((pu : Nat) : Int), .int .i64 ((ru : Nat) : Int)] 181, .row (.slice (some ⟨gl, 0, none⟩) sn cl) 3 1 sn (List.map (Value.int .i64) L), .row (.slice (some ⟨gd, 0, none⟩) pg cd) 4 1 pg (List.map Value.bool D), .row (.slice (some ⟨gs, 0, none⟩) ns cs) 3 1 ns (List.map (Value.int .i64) S)]) :
    Calls Try.prog 134 #[.pointer (some ⟨p, 0, none⟩), .slice ad nl ca] w0 fun e w' => e = .returned (.bool false) ∧ Hs (fps [.blk p #[.int .i64 r, .int .i64 s, .int .i64 b, .int .i64 o, .int .i64 c, .int .i64 y, .int .i64 z, .slice (some ⟨gl, 0, none⟩) sn cl, .slice (some ⟨gd, 0, none⟩) pg cd, .slice (some ⟨gs, 0, none⟩) ns cs, .int .i64 ((pu : Nat) : Int), .int .i64 ((ru : Nat) : Int)] 181, .row (.slice (some ⟨gl, 0, none⟩) sn cl) 3 1 sn (List.map (Value.int .i64) L), .row (.slice (some ⟨gd, 0, none⟩) pg cd) 4 1 pg (List.map Value.bool D), .row (.slice (some ⟨gs, 0, none⟩) ns cs) 3 1 ns (List.map (Value.int .i64) S)]) w0 w' [] := by
  refine x_enter Try.func134 rfl #[.pointer (some ⟨p, 0, none⟩), .slice ad nl ca, undef, undef, undef, undef, undef, undef, undef, undef, undef, undef, undef, undef, undef, undef, undef, undef, undef, undef, undef, undef, undef, undef, undef, undef, undef, undef, undef, undef, undef, undef, undef, undef, undef, undef, undef, undef, undef] (by kernel_rfl) ?_
  have H := H0
  obtain ⟨eL, eD, eS, hp, hr⟩ := id hM
  have hok := hL.ok
  obtain ⟨-, r1, r8, s0, s8, b1, b2, o1, o2, c1, c2, y0, y4, z0, z2, hpg, hsn, hns, sn1, pg2, ln0, ln2⟩ := id hL
  refine x_seq ?_
  refine x_region ?_
  refine x_val (.bool false) (by kernel_rfl) rfl (by kernel_rfl) ?_
  refine x_nil ?_
  refine x_then ?_
  refine x_seq ?_
  refine x_seq ?_
  refine x_region ?_
  refine x_val (.slice ad nl ca) (by kernel_rfl) rfl (by kernel_rfl) ?_
  refine x_val (.int .i64 ((nl : Nat) : Int)) (by kernel_rfl) rfl (by kernel_rfl) ?_
  refine x_val (.int .i64 0) (by kernel_rfl) rfl (by kernel_rfl) ?_
  refine x_nil ?_
  refine x_then ?_
  refine x_block ?_
  refine x_loop (G := Nat) (fun (k : Nat) a w' => ∃ u4 : Value, ∃ u5 : Value, ∃ u6 : Value, ∃ u10 : Value, ∃ u11 : Value, ∃ u12 : Value, ∃ u13 : Value, ∃ u14 : Value, ∃ u15 : Value, ∃ u16 : Value, ∃ u17 : Value, ∃ u18 : Value, ∃ u19 : Value, ∃ u20 : Value, ∃ u21 : Value, ∃ u22 : Value, ∃ u23 : Value, ∃ u24 : Value, ∃ u25 : Value, ∃ u26 : Value, ∃ u27 : Value, ∃ u28 : Value, ∃ u29 : Value, ∃ u30 : Value, ∃ u31 : Value, ∃ u32 : Value, ∃ u33 : Value, ∃ u34 : Value, ∃ u35 : Value, ∃ u36 : Value, ∃ u37 : Value, ∃ u38 : Value, a = { tmps := #[.pointer (some ⟨p, 0, none⟩), .slice ad nl ca, undef, undef, u4, u5, u6, .slice ad nl ca, .int .i64 ((nl : Nat) : Int), .int .i64 ((k : Nat) : Int), u10, u11, u12, u13, u14, u15, u16, u17, u18, u19, u20, u21, u22, u23, u24, u25, u26, u27, u28, u29, u30, u31, u32, u33, u34, u35, u36, u37, u38], defers := [] } ∧ Hs (fps [.blk p #[.int .i64 r, .int .i64 s, .int .i64 b, .int .i64 o, .int .i64 c, .int .i64 y, .int .i64 z, .slice (some ⟨gl, 0, none⟩) sn cl, .slice (some ⟨gd, 0, none⟩) pg cd, .slice (some ⟨gs, 0, none⟩) ns cs, .int .i64 ((pu : Nat) : Int), .int .i64 ((ru : Nat) : Int)] 181, .row (.slice (some ⟨gl, 0, none⟩) sn cl) 3 1 sn (List.map (Value.int .i64) L), .row (.slice (some ⟨gd, 0, none⟩) pg cd) 4 1 pg (List.map Value.bool D), .row (.slice (some ⟨gs, 0, none⟩) ns cs) 3 1 ns (List.map (Value.int .i64) S)]) w0 w' [.blk p #[.int .i64 r, .int .i64 s, .int .i64 b, .int .i64 o, .int .i64 c, .int .i64 y, .int .i64 z, .slice (some ⟨gl, 0, none⟩) sn cl, .slice (some ⟨gd, 0, none⟩) pg cd, .slice (some ⟨gs, 0, none⟩) ns cs, .int .i64 ((pu : Nat) : Int), .int .i64 ((ru : Nat) : Int)] 181, .row (.slice (some ⟨gl, 0, none⟩) sn cl) 3 1 sn (List.map (Value.int .i64) (setsL l L k)), .row (.slice (some ⟨gd, 0, none⟩) pg cd) 4 1 pg (List.map Value.bool D), .row (.slice (some ⟨gs, 0, none⟩) ns cs) 3 1 ns (List.map (Value.int .i64) S)] ∧ (k ≤ nl) ∧ (okS (((sn : Nat) : Int) + ((pu : Nat) : Int)) D l k = true)) (fun (k : Nat) => nl - k) 0 ⟨(.bool false), undef, undef, undef, undef, undef, undef, undef, undef, undef, undef, undef, undef, undef, undef, undef, undef, undef, undef, undef, undef, undef, undef, undef, undef, undef, undef, undef, undef, undef, undef, undef, (by kernel_rfl), H, (Nat.zero_le _), rfl⟩ ?_
  clear H
  rintro k _ v1 ⟨u4, u5, u6, u10, u11, u12, u13, u14, u15, u16, u17, u18, u19, u20, u21, u22, u23, u24, u25, u26, u27, u28, u29, u30, u31, u32, u33, u34, u35, u36, u37, u38, rfl, H, r1, r2⟩
  have hml := setsL_len l L k
  refine x_seq ?_
  refine x_region ?_
  refine x_val (.bool (decide (((k : Nat) : Int) < ((nl : Nat) : Int)))) (by kernel_rfl) rfl (by kernel_rfl) ?_
  refine x_nil ?_
  refine x_then ?_
  refine x_seq ?_
  cases h1 : decide (((k : Nat) : Int) < ((nl : Nat) : Int))
  · skip
    have h1p := of_decide_eq_false h1
    refine x_f (by kernel_rfl) ?_
    refine x_exit ?_
    refine x_then_exit ?_
    refine x_then_exit ?_
    refine x_blk_exit ?_
    refine x_then ?_
    refine x_seq ?_
    refine x_region ?_
    refine x_val (.bool true) (by kernel_rfl) rfl (by kernel_rfl) ?_
    refine x_nil ?_
    refine x_then ?_
    refine x_retc ?_
    refine x_ret (.bool true) (by kernel_rfl) (by kernel_rfl) ?_
    obtain rfl : k = nl := by omega
    exact absurd r2 (by rw [hno]; decide)
  · skip
    have h1p := of_decide_eq_true h1
    refine x_t (by kernel_rfl) ?_
    refine x_skipc ?_
    refine x_then ?_
    refine x_seq ?_
    refine x_block ?_
    refine x_seq ?_
    refine x_region ?_
    refine x_val (.int .i64 ((k : Nat) : Int)) (by kernel_rfl) rfl (by kernel_rfl) ?_
    obtain ⟨ga, oa, had, hcell⟩ := hI (by omega)
    refine x_ixO (t := 106) had k nl ca 3 1 (oa + k) (by omega) (by omega) (by kernel_rfl) (by kernel_rfl) (by kernel_rfl) rfl (by kernel_rfl) ?_
    refine x_loadc ga (oa + k) (.int .i64 (l.getD k 0)) (hcell _ H.fr k (by omega)) (by kernel_rfl) rfl (by kernel_rfl) ?_
    refine x_val (.int .i64 ((k : Nat) : Int)) (by kernel_rfl) rfl (by kernel_rfl) ?_
    refine x_val (.int .i64 (l.getD k 0)) (by kernel_rfl) rfl (by kernel_rfl) ?_
    refine x_nil ?_
    refine x_then ?_
    refine x_seq ?_
    refine x_seq ?_
    refine x_region ?_
    refine x_val (.pointer (some ⟨p, 0, none⟩)) (by kernel_rfl) rfl (by kernel_rfl) ?_
    refine x_val (.int .i64 (l.getD k 0)) (by kernel_rfl) rfl (by kernel_rfl) ?_
    refine x_callB (.bool (usedB sn pu D (l.getD k 0))) H (by kernel_rfl) rfl (by kernel_rfl) (Used_any hL (L := setsL l L k) ⟨by rw [hml]; exact eL, eD, eS, hp, hr⟩ _ _ (H.roOf [0, 1, 2, 3] [.blk p #[.int .i64 r, .int .i64 s, .int .i64 b, .int .i64 o, .int .i64 c, .int .i64 y, .int .i64 z, .slice (some ⟨gl, 0, none⟩) sn cl, .slice (some ⟨gd, 0, none⟩) pg cd, .slice (some ⟨gs, 0, none⟩) ns cs, .int .i64 ((pu : Nat) : Int), .int .i64 ((ru : Nat) : Int)] 181, .row (.slice (some ⟨gl, 0, none⟩) sn cl) 3 1 sn (List.map (Value.int .i64) (setsL l L k)), .row (.slice (some ⟨gd, 0, none⟩) pg cd) 4 1 pg (List.map Value.bool D), .row (.slice (some ⟨gs, 0, none⟩) ns cs) 3 1 ns (List.map (Value.int .i64) S)] (by kernel_rfl))) ?_
    clear H
    intro v2 H
    refine x_val (.bool (!(usedB sn pu D (l.getD k 0)))) (by kernel_rfl) rfl (by kernel_rfl) ?_
    refine x_val (.bool (!(usedB sn pu D (l.getD k 0)))) (by kernel_rfl) rfl (by kernel_rfl) ?_
    cases h2 : usedB sn pu D (l.getD k 0)
    · skip
      refine x_skip (by kernel_rfl) ?_
      refine x_skip (by kernel_rfl) ?_
      refine x_skip (by kernel_rfl) ?_
      refine x_skip (by kernel_rfl) ?_
      refine x_skip (by kernel_rfl) ?_
      refine x_skip (by kernel_rfl) ?_
      refine x_skip (by kernel_rfl) ?_
      refine x_skip (by kernel_rfl) ?_
      refine x_skip (by kernel_rfl) ?_
      refine x_skip (by kernel_rfl) ?_
      refine x_skip (by kernel_rfl) ?_
      refine x_val (.bool true) (by kernel_rfl) rfl (by kernel_rfl) ?_
      refine x_nil ?_
      refine x_frame' { tmps := #[.pointer (some ⟨p, 0, none⟩), .slice ad nl ca, undef, undef, u4, .int .i64 ((k : Nat) : Int), .int .i64 (l.getD k 0), .slice ad nl ca, .int .i64 ((nl : Nat) : Int), .int .i64 ((k : Nat) : Int), .bool true, .int .i64 ((k : Nat) : Int), .pointer (some ⟨ga, oa + k, none⟩), .int .i64 (l.getD k 0), .pointer (some ⟨p, 0, none⟩), .int .i64 (l.getD k 0), .bool false, .bool true, .bool true, undef, undef, undef, undef, undef, undef, undef, undef, undef, undef, undef, .bool true, u31, u32, u33, u34, u35, u36, u37, u38], defers := [] } (by kernel_rfl) ?_
      refine x_then ?_
      refine x_t (by kernel_rfl) ?_
      refine x_seq ?_
      refine x_region ?_
      refine x_val (.bool false) (by kernel_rfl) rfl (by kernel_rfl) ?_
      refine x_nil ?_
      refine x_then ?_
      refine x_retc ?_
      refine x_then_ret ?_
      refine x_blk_ret ?_
      refine x_then_ret ?_
      refine x_then_ret ?_
      refine x_blk_ret ?_
      refine x_then_ret ?_
      refine x_ret (.bool false) (by kernel_rfl) (by kernel_rfl) ?_
      exact ⟨rfl, H.pick [] _ (by decide) (by kernel_rfl)⟩
    · skip
      refine x_val (.pointer (some ⟨p, 0, none⟩)) (by kernel_rfl) rfl (by kernel_rfl) ?_
      refine x_val (.pointer (some ⟨p, 0, none⟩)) (by kernel_rfl) rfl (by kernel_rfl) ?_
      refine x_val (.pointer (some ⟨p, 8, none⟩)) (by kernel_rfl) rfl (by kernel_rfl) ?_
      refine x_load1 H 0 p 8 #[.int .i64 r, .int .i64 s, .int .i64 b, .int .i64 o, .int .i64 c, .int .i64 y, .int .i64 z, .slice (some ⟨gl, 0, none⟩) sn cl, .slice (some ⟨gd, 0, none⟩) pg cd, .slice (some ⟨gs, 0, none⟩) ns cs, .int .i64 ((pu : Nat) : Int), .int .i64 ((ru : Nat) : Int)] 181 (.slice (some ⟨gd, 0, none⟩) pg cd) (by kernel_rfl) (by kernel_rfl) (by kernel_rfl) rfl (by kernel_rfl) ?_
      refine x_val (.int .i64 ((k : Nat) : Int)) (by kernel_rfl) rfl (by kernel_rfl) ?_
      refine x_ix (t := 179) gd 0 k pg cd 4 1 k (by omega) (by omega) (by kernel_rfl) (by kernel_rfl) (by kernel_rfl) rfl (by kernel_rfl) ?_
      refine x_loadc gd k (.bool (D.getD k false)) (H.rowCell 2 rfl k (mapAt false (by omega))) (by kernel_rfl) rfl (by kernel_rfl) ?_
      refine x_val (.int .i64 (l.getD k 0)) (by kernel_rfl) rfl (by kernel_rfl) ?_
      refine x_val (.int .i64 ((k : Nat) : Int)) (by kernel_rfl) rfl (by kernel_rfl) ?_
      refine x_val (.bool (!(decide ((l.getD k 0) = ((k : Nat) : Int))))) (by kernel_rfl) rfl (by kernel_rfl) ?_
      refine x_val (.bool ((D.getD k false) != (!(decide ((l.getD k 0) = ((k : Nat) : Int)))))) (by kernel_rfl) rfl (by kernel_rfl) ?_
      refine x_val (.bool ((D.getD k false) != (!(decide ((l.getD k 0) = ((k : Nat) : Int)))))) (by kernel_rfl) rfl (by kernel_rfl) ?_
      refine x_nil ?_
      refine x_frame' { tmps := #[.pointer (some ⟨p, 0, none⟩), .slice ad nl ca, undef, undef, u4, .int .i64 ((k : Nat) : Int), .int .i64 (l.getD k 0), .slice ad nl ca, .int .i64 ((nl : Nat) : Int), .int .i64 ((k : Nat) : Int), .bool true, .int .i64 ((k : Nat) : Int), .pointer (some ⟨ga, oa + k, none⟩), .int .i64 (l.getD k 0), .pointer (some ⟨p, 0, none⟩), .int .i64 (l.getD k 0), .bool true, .bool false, .bool false, .pointer (some ⟨p, 0, none⟩), .pointer (some ⟨p, 0, none⟩), .pointer (some ⟨p, 8, none⟩), .slice (some ⟨gd, 0, none⟩) pg cd, .int .i64 ((k : Nat) : Int), .pointer (some ⟨gd, k, none⟩), .bool (D.getD k false), .int .i64 (l.getD k 0), .int .i64 ((k : Nat) : Int), .bool (!(decide ((l.getD k 0) = ((k : Nat) : Int)))), .bool ((D.getD k false) != (!(decide ((l.getD k 0) = ((k : Nat) : Int))))), .bool ((D.getD k false) != (!(decide ((l.getD k 0) = ((k : Nat) : Int))))), u31, u32, u33, u34, u35, u36, u37, u38], defers := [] } (by kernel_rfl) ?_
      refine x_then ?_
      cases h3 : (D.getD k false) != (!(decide ((l.getD k 0) = ((k : Nat) : Int))))
      · skip
        refine x_f (by kernel_rfl) ?_
        refine x_skipc ?_
        refine x_then ?_
        refine x_region ?_
        refine x_val (.pointer (some ⟨p, 0, none⟩)) (by kernel_rfl) rfl (by kernel_rfl) ?_
        refine x_val (.pointer (some ⟨p, 0, none⟩)) (by kernel_rfl) rfl (by kernel_rfl) ?_
        refine x_val (.pointer (some ⟨p, 7, none⟩)) (by kernel_rfl) rfl (by kernel_rfl) ?_
        refine x_load1 H 0 p 7 #[.int .i64 r, .int .i64 s, .int .i64 b, .int .i64 o, .int .i64 c, .int .i64 y, .int .i64 z, .slice (some ⟨gl, 0, none⟩) sn cl, .slice (some ⟨gd, 0, none⟩) pg cd, .slice (some ⟨gs, 0, none⟩) ns cs, .int .i64 ((pu : Nat) : Int), .int .i64 ((ru : Nat) : Int)] 181 (.slice (some ⟨gl, 0, none⟩) sn cl) (by kernel_rfl) (by kernel_rfl) (by kernel_rfl) rfl (by kernel_rfl) ?_
        refine x_val (.int .i64 ((k : Nat) : Int)) (by kernel_rfl) rfl (by kernel_rfl) ?_
        refine x_val (.int .i64 (l.getD k 0)) (by kernel_rfl) rfl (by kernel_rfl) ?_
        refine x_ix (t := 106) gl 0 k sn cl 3 1 k (by omega) (by omega) (by kernel_rfl) (by kernel_rfl) (by kernel_rfl) rfl (by kernel_rfl) ?_
        refine x_storeRow (t := 3) (v := .int .i64 (l.getD k 0)) H 1 gl k sn cl 3 1 (List.map (Value.int .i64) (setsL l L k)) [.int .i64 (l.getD k 0)] (List.map (Value.int .i64) ((setsL l L k).set k (l.getD k 0))) [.blk p #[.int .i64 r, .int .i64 s, .int .i64 b, .int .i64 o, .int .i64 c, .int .i64 y, .int .i64 z, .slice (some ⟨gl, 0, none⟩) sn cl, .slice (some ⟨gd, 0, none⟩) pg cd, .slice (some ⟨gs, 0, none⟩) ns cs, .int .i64 ((pu : Nat) : Int), .int .i64 ((ru : Nat) : Int)] 181, .row (.slice (some ⟨gl, 0, none⟩) sn cl) 3 1 sn (List.map (Value.int .i64) ((setsL l L k).set k (l.getD k 0))), .row (.slice (some ⟨gd, 0, none⟩) pg cd) 4 1 pg (List.map Value.bool D), .row (.slice (some ⟨gs, 0, none⟩) ns cs) 3 1 ns (List.map (Value.int .i64) S)] rfl (by simp only [List.length_cons, List.length_nil]; omega) (by kernel_rfl) (setMap (by omega) (l.getD k 0)) rfl (by kernel_rfl) rfl (by kernel_rfl) (by kernel_rfl) (by kernel_rfl) ?_
        clear H
        intro v3 H
        refine x_nil ?_
        refine x_blk ?_
        refine x_then ?_
        refine x_region ?_
        refine x_ar (((k : Nat) : Int) + 1) ⟨by omega, by omega⟩ (by kernel_rfl) rfl (by kernel_rfl) ?_
        refine x_val (.int .i64 (((k : Nat) : Int) + 1)) (by kernel_rfl) rfl (by kernel_rfl) ?_
        refine x_nil ?_
        refine x_then ?_
        exact ⟨(k + 1), (by omega), u4, (.int .i64 ((k : Nat) : Int)), (.int .i64 (l.getD k 0)), (.bool true), (.int .i64 ((k : Nat) : Int)), (.pointer (some ⟨ga, oa + k, none⟩)), (.int .i64 (l.getD k 0)), (.pointer (some ⟨p, 0, none⟩)), (.int .i64 (l.getD k 0)), (.bool true), (.bool false), (.bool false), (.pointer (some ⟨p, 0, none⟩)), (.pointer (some ⟨p, 0, none⟩)), (.pointer (some ⟨p, 8, none⟩)), (.slice (some ⟨gd, 0, none⟩) pg cd), (.int .i64 ((k : Nat) : Int)), (.pointer (some ⟨gd, k, none⟩)), (.bool (D.getD k false)), (.int .i64 (l.getD k 0)), (.int .i64 ((k : Nat) : Int)), (.bool (!(decide ((l.getD k 0) = ((k : Nat) : Int))))), (.bool false), (.bool false), (.pointer (some ⟨p, 0, none⟩)), (.pointer (some ⟨p, 0, none⟩)), (.pointer (some ⟨p, 7, none⟩)), (.slice (some ⟨gl, 0, none⟩) sn cl), (.int .i64 ((k : Nat) : Int)), (.int .i64 (l.getD k 0)), (.pointer (some ⟨gl, k, none⟩)), (.int .i64 (((k : Nat) : Int) + 1)), (by kernel_rfl), H, (by omega), (okS_next r2 h2 h3)⟩
      · skip
        refine x_t (by kernel_rfl) ?_
        refine x_seq ?_
        refine x_region ?_
        refine x_val (.bool false) (by kernel_rfl) rfl (by kernel_rfl) ?_
        refine x_nil ?_
        refine x_then ?_
        refine x_retc ?_
        refine x_then_ret ?_
        refine x_blk_ret ?_
        refine x_then_ret ?_
        refine x_then_ret ?_
        refine x_blk_ret ?_
        refine x_then_ret ?_
        refine x_ret (.bool false) (by kernel_rfl) (by kernel_rfl) ?_
        exact ⟨rfl, H.pick [] _ (by decide) (by kernel_rfl)⟩

set_option maxRecDepth 100000 in
set_option maxHeartbeats 2000000 in
theorem stand_no {r s b o c y z : Int} {pg sn ns : Nat} (hL : Lay r s b o c y z pg sn ns) {p gl cl gd cd gs cs : Nat} {L : List Int} {D : List Bool} {S : List Int} {pu ru : Nat} (hM : MapOk z s sn pg ns L D S pu ru) (ad : Option Addr) (nq ca : Nat) (l : List Int) (hnq : ((nq : Nat) : Int) = r) (hx : ∀ i, i < nq → -9223372036854775808 ≤ l.getD i 0 ∧ l.getD i 0 ≤ 9223372036854775807) (hno : okT r ((ru : Nat) : Int) l nq = false) (w0 : World) (hI : IntsM (fps [.blk p #[.int .i64 r, .int .i64 s, .int .i64 b, .int .i64 o, .int .i64 c, .int .i64 y, .int .i64 z, .slice (some ⟨gl, 0, none⟩) sn cl, .slice (some ⟨gd, 0, none⟩) pg cd, .slice (some ⟨gs, 0, none⟩) ns cs, .int .i64 ((pu : Nat) : Int), .int .i64 ((ru : Nat) : Int)] 181, .row (.slice (some ⟨gl, 0, none⟩) sn cl) 3 1 sn (List.map (Value.int .i64) L), .row (.slice (some ⟨gd, 0, none⟩) pg cd) 4 1 pg (List.map Value.bool D), .row (.slice (some ⟨gs, 0, none⟩) ns cs) 3 1 ns (List.map (Value.int .i64) S)]) w0 ad nq l) (H0 : Hs (fps [.blk p #[.int .i64 r, .int .i64 s, .int .i64 b, .int .i64 o, .int .i64 c, .int .i64 y, .int .i64 z, .slice (some ⟨gl, 0, none⟩) sn cl, .slice (some ⟨gd, 0, none⟩) pg cd, .slice (some ⟨gs, 0, none⟩) ns cs, .int .i64 ((pu : Nat) : Int), .int .i64 ((ru : Nat) : Int)] 181, .row (.slice (some ⟨gl, 0, none⟩) sn cl) 3 1 sn (List.map (Value.int .i64) L), .row (.slice (some ⟨gd, 0, none⟩) pg cd) 4 1 pg (List.map Value.bool D), .row (.slice (some ⟨gs, 0, none⟩) ns cs) 3 1 ns (List.map (Value.int .i64) S)]) w0 w0 [.blk p #[.int .i64 r, .int .i64 s, .int .i64 b, .int .i64 o, .int .i64 c, .int .i64 y, .int .i64 z, .slice (some ⟨gl, 0, none⟩) sn cl, .slice (some ⟨gd, 0, none⟩) pg cd, .slice (some ⟨gs, 0, none⟩) ns cs, .int .i64 ((pu : Nat) : Int), .int .i64 ((ru : Nat) : Int)] 181, .row (.slice (some ⟨gl, 0, none⟩) sn cl) 3 1 sn (List.map (Value.int .i64) L), .row (.slice (some ⟨gd, 0, none⟩) pg cd) 4 1 pg (List.map Value.bool D), .row (.slice (some ⟨gs, 0, none⟩) ns cs) 3 1 ns (List.map (Value.int .i64) S)]) :
    Calls Try.prog 135 #[.pointer (some ⟨p, 0, none⟩), .slice ad nq ca] w0 fun e w' => e = .returned (.bool false) ∧ Hs (fps [.blk p #[.int .i64 r, .int .i64 s, .int .i64 b, .int .i64 o, .int .i64 c, .int .i64 y, .int .i64 z, .slice (some ⟨gl, 0, none⟩) sn cl, .slice (some ⟨gd, 0, none⟩) pg cd, .slice (some ⟨gs, 0, none⟩) ns cs, .int .i64 ((pu : Nat) : Int), .int .i64 ((ru : Nat) : Int)] 181, .row (.slice (some ⟨gl, 0, none⟩) sn cl) 3 1 sn (List.map (Value.int .i64) L), .row (.slice (some ⟨gd, 0, none⟩) pg cd) 4 1 pg (List.map Value.bool D), .row (.slice (some ⟨gs, 0, none⟩) ns cs) 3 1 ns (List.map (Value.int .i64) S)]) w0 w' [] := by
  refine x_enter Try.func135 rfl #[.pointer (some ⟨p, 0, none⟩), .slice ad nq ca, undef, undef, undef, undef, undef, undef, undef, undef, undef, undef, undef, undef, undef, undef, undef, undef, undef, undef, undef, undef, undef, undef, undef, undef, undef, undef, undef, undef, undef, undef, undef, undef, undef, undef, undef, undef] (by kernel_rfl) ?_
  have H := H0
  obtain ⟨eL, eD, eS, hp, hr⟩ := id hM
  have hok := hL.ok
  obtain ⟨-, r1, r8, s0, s8, b1, b2, o1, o2, c1, c2, y0, y4, z0, z2, hpg, hsn, hns, sn1, pg2, ln0, ln2⟩ := id hL
  refine x_seq ?_
  refine x_region ?_
  refine x_val (.bool false) (by kernel_rfl) rfl (by kernel_rfl) ?_
  refine x_nil ?_
  refine x_then ?_
  refine x_seq ?_
  refine x_seq ?_
  refine x_region ?_
  refine x_val (.slice ad nq ca) (by kernel_rfl) rfl (by kernel_rfl) ?_
  refine x_val (.int .i64 ((nq : Nat) : Int)) (by kernel_rfl) rfl (by kernel_rfl) ?_
  refine x_val (.int .i64 0) (by kernel_rfl) rfl (by kernel_rfl) ?_
  refine x_nil ?_
  refine x_then ?_
  refine x_block ?_
  refine x_loop (G := Nat) (fun (k : Nat) a w' => ∃ u4 : Value, ∃ u5 : Value, ∃ u6 : Value, ∃ u10 : Value, ∃ u11 : Value, ∃ u12 : Value, ∃ u13 : Value, ∃ u14 : Value, ∃ u15 : Value, ∃ u16 : Value, ∃ u17 : Value, ∃ u18 : Value, ∃ u19 : Value, ∃ u20 : Value, ∃ u21 : Value, ∃ u22 : Value, ∃ u23 : Value, ∃ u24 : Value, ∃ u25 : Value, ∃ u26 : Value, ∃ u27 : Value, ∃ u28 : Value, ∃ u29 : Value, ∃ u30 : Value, ∃ u31 : Value, ∃ u32 : Value, ∃ u33 : Value, ∃ u34 : Value, ∃ u35 : Value, ∃ u36 : Value, ∃ u37 : Value, a = { tmps := #[.pointer (some ⟨p, 0, none⟩), .slice ad nq ca, undef, undef, u4, u5, u6, .slice ad nq ca, .int .i64 ((nq : Nat) : Int), .int .i64 ((k : Nat) : Int), u10, u11, u12, u13, u14, u15, u16, u17, u18, u19, u20, u21, u22, u23, u24, u25, u26, u27, u28, u29, u30, u31, u32, u33, u34, u35, u36, u37], defers := [] } ∧ Hs (fps [.blk p #[.int .i64 r, .int .i64 s, .int .i64 b, .int .i64 o, .int .i64 c, .int .i64 y, .int .i64 z, .slice (some ⟨gl, 0, none⟩) sn cl, .slice (some ⟨gd, 0, none⟩) pg cd, .slice (some ⟨gs, 0, none⟩) ns cs, .int .i64 ((pu : Nat) : Int), .int .i64 ((ru : Nat) : Int)] 181, .row (.slice (some ⟨gl, 0, none⟩) sn cl) 3 1 sn (List.map (Value.int .i64) L), .row (.slice (some ⟨gd, 0, none⟩) pg cd) 4 1 pg (List.map Value.bool D), .row (.slice (some ⟨gs, 0, none⟩) ns cs) 3 1 ns (List.map (Value.int .i64) S)]) w0 w' [.blk p #[.int .i64 r, .int .i64 s, .int .i64 b, .int .i64 o, .int .i64 c, .int .i64 y, .int .i64 z, .slice (some ⟨gl, 0, none⟩) sn cl, .slice (some ⟨gd, 0, none⟩) pg cd, .slice (some ⟨gs, 0, none⟩) ns cs, .int .i64 ((pu : Nat) : Int), .int .i64 ((ru : Nat) : Int)] 181, .row (.slice (some ⟨gl, 0, none⟩) sn cl) 3 1 sn (List.map (Value.int .i64) L), .row (.slice (some ⟨gd, 0, none⟩) pg cd) 4 1 pg (List.map Value.bool D), .row (.slice (some ⟨gs, 0, none⟩) ns cs) 3 1 ns (List.map (Value.int .i64) (standL l S k))] ∧ (k ≤ nq) ∧ (okT r ((ru : Nat) : Int) l k = true)) (fun (k : Nat) => nq - k) 0 ⟨(.bool false), undef, undef, undef, undef, undef, undef, undef, undef, undef, undef, undef, undef, undef, undef, undef, undef, undef, undef, undef, undef, undef, undef, undef, undef, undef, undef, undef, undef, undef, undef, (by kernel_rfl), H, (Nat.zero_le _), rfl⟩ ?_
  clear H
  rintro k _ v1 ⟨u4, u5, u6, u10, u11, u12, u13, u14, u15, u16, u17, u18, u19, u20, u21, u22, u23, u24, u25, u26, u27, u28, u29, u30, u31, u32, u33, u34, u35, u36, u37, rfl, H, r1, r2⟩
  have hml := standL_len l S k
  refine x_seq ?_
  refine x_region ?_
  refine x_val (.bool (decide (((k : Nat) : Int) < ((nq : Nat) : Int)))) (by kernel_rfl) rfl (by kernel_rfl) ?_
  refine x_nil ?_
  refine x_then ?_
  refine x_seq ?_
  cases h1 : decide (((k : Nat) : Int) < ((nq : Nat) : Int))
  · skip
    have h1p := of_decide_eq_false h1
    refine x_f (by kernel_rfl) ?_
    refine x_exit ?_
    refine x_then_exit ?_
    refine x_then_exit ?_
    refine x_blk_exit ?_
    refine x_then ?_
    refine x_seq ?_
    refine x_region ?_
    refine x_val (.bool true) (by kernel_rfl) rfl (by kernel_rfl) ?_
    refine x_nil ?_
    refine x_then ?_
    refine x_retc ?_
    refine x_ret (.bool true) (by kernel_rfl) (by kernel_rfl) ?_
    obtain rfl : k = nq := by omega
    exact absurd r2 (by rw [hno]; decide)
  · skip
    have h1p := of_decide_eq_true h1
    refine x_t (by kernel_rfl) ?_
    refine x_skipc ?_
    refine x_then ?_
    refine x_seq ?_
    refine x_block ?_
    refine x_seq ?_
    refine x_region ?_
    refine x_val (.int .i64 ((k : Nat) : Int)) (by kernel_rfl) rfl (by kernel_rfl) ?_
    obtain ⟨ga, oa, had, hcell⟩ := hI (by omega)
    refine x_ixO (t := 106) had k nq ca 3 1 (oa + k) (by omega) (by omega) (by kernel_rfl) (by kernel_rfl) (by kernel_rfl) rfl (by kernel_rfl) ?_
    refine x_loadc ga (oa + k) (.int .i64 (l.getD k 0)) (hcell _ H.fr k (by omega)) (by kernel_rfl) rfl (by kernel_rfl) ?_
    refine x_val (.int .i64 ((k : Nat) : Int)) (by kernel_rfl) rfl (by kernel_rfl) ?_
    refine x_val (.int .i64 (l.getD k 0)) (by kernel_rfl) rfl (by kernel_rfl) ?_
    refine x_nil ?_
    refine x_then ?_
    refine x_seq ?_
    refine x_seq ?_
    refine x_region ?_
    refine x_val (.int .i64 (l.getD k 0)) (by kernel_rfl) rfl (by kernel_rfl) ?_
    refine x_val (.bool (decide ((l.getD k 0) = 0))) (by kernel_rfl) rfl (by kernel_rfl) ?_
    refine x_nil ?_
    refine x_then ?_
    cases h2 : decide ((l.getD k 0) = 0)
    · skip
      have h2p := of_decide_eq_false h2
      refine x_f (by kernel_rfl) ?_
      refine x_skipc ?_
      refine x_then ?_
      refine x_seq ?_
      refine x_seq ?_
      refine x_region_whole (fun w' => Hs (fps [.blk p #[.int .i64 r, .int .i64 s, .int .i64 b, .int .i64 o, .int .i64 c, .int .i64 y, .int .i64 z, .slice (some ⟨gl, 0, none⟩) sn cl, .slice (some ⟨gd, 0, none⟩) pg cd, .slice (some ⟨gs, 0, none⟩) ns cs, .int .i64 ((pu : Nat) : Int), .int .i64 ((ru : Nat) : Int)] 181, .row (.slice (some ⟨gl, 0, none⟩) sn cl) 3 1 sn (List.map (Value.int .i64) L), .row (.slice (some ⟨gd, 0, none⟩) pg cd) 4 1 pg (List.map Value.bool D), .row (.slice (some ⟨gs, 0, none⟩) ns cs) 3 1 ns (List.map (Value.int .i64) S)]) w0 w' [.blk p #[.int .i64 r, .int .i64 s, .int .i64 b, .int .i64 o, .int .i64 c, .int .i64 y, .int .i64 z, .slice (some ⟨gl, 0, none⟩) sn cl, .slice (some ⟨gd, 0, none⟩) pg cd, .slice (some ⟨gs, 0, none⟩) ns cs, .int .i64 ((pu : Nat) : Int), .int .i64 ((ru : Nat) : Int)] 181, .row (.slice (some ⟨gl, 0, none⟩) sn cl) 3 1 sn (List.map (Value.int .i64) L), .row (.slice (some ⟨gd, 0, none⟩) pg cd) 4 1 pg (List.map Value.bool D), .row (.slice (some ⟨gs, 0, none⟩) ns cs) 3 1 ns (List.map (Value.int .i64) (standL l S k))]) (by kernel_rfl) (by kernel_rfl) (by kernel_rfl) H.drew ?_
      refine q_val (.int .i64 (l.getD k 0)) (by kernel_rfl) (fun _ => by kernel_rfl) ?_
      refine q_val (.pointer (some ⟨p, 0, none⟩)) (by kernel_rfl) (fun _ => by kernel_rfl) ?_
      refine q_val (.pointer (some ⟨p, 0, none⟩)) (by kernel_rfl) (fun _ => by kernel_rfl) ?_
      refine q_val (.pointer (some ⟨p, 0, none⟩)) (by kernel_rfl) (fun _ => by kernel_rfl) ?_
      refine q_val (.pointer (some ⟨p, 0, none⟩)) (by kernel_rfl) (fun _ => by kernel_rfl) ?_
      refine q_val (.pointer (some ⟨p, 0, none⟩)) (by kernel_rfl) (fun _ => by kernel_rfl) ?_
      refine q_load1 0 p 0 #[.int .i64 r, .int .i64 s, .int .i64 b, .int .i64 o, .int .i64 c, .int .i64 y, .int .i64 z, .slice (some ⟨gl, 0, none⟩) sn cl, .slice (some ⟨gd, 0, none⟩) pg cd, .slice (some ⟨gs, 0, none⟩) ns cs, .int .i64 ((pu : Nat) : Int), .int .i64 ((ru : Nat) : Int)] 181 (.int .i64 r) (by kernel_rfl) (by kernel_rfl) (by kernel_rfl) (fun _ => by kernel_rfl) ?_
      refine q_val (.int .i64 (IntKind.i64.wrap ((l.getD k 0) - r))) (by kernel_rfl) (fun _ => by kernel_rfl) ?_
      refine q_val (.pointer (some ⟨p, 0, none⟩)) (by kernel_rfl) (fun _ => by kernel_rfl) ?_
      refine q_val (.pointer (some ⟨p, 0, none⟩)) (by kernel_rfl) (fun _ => by kernel_rfl) ?_
      refine q_val (.pointer (some ⟨p, 11, none⟩)) (by kernel_rfl) (fun _ => by kernel_rfl) ?_
      refine q_load1 0 p 11 #[.int .i64 r, .int .i64 s, .int .i64 b, .int .i64 o, .int .i64 c, .int .i64 y, .int .i64 z, .slice (some ⟨gl, 0, none⟩) sn cl, .slice (some ⟨gd, 0, none⟩) pg cd, .slice (some ⟨gs, 0, none⟩) ns cs, .int .i64 ((pu : Nat) : Int), .int .i64 ((ru : Nat) : Int)] 181 (.int .i64 ((ru : Nat) : Int)) (by kernel_rfl) (by kernel_rfl) (by kernel_rfl) (fun _ => by kernel_rfl) ?_
      refine q_callB (.bool (decide (r ≤ (l.getD k 0)) && decide ((l.getD k 0) < r + ((ru : Nat) : Int)))) (by kernel_rfl) (fun _ => by kernel_rfl) (fun _ => (by have h := below_any (IntKind.i64.wrap (l.getD k 0 - r)) ((ru : Nat) : Int); rw [wrap_sub (hx k (by omega)).1 (hx k (by omega)).2 (by omega) (by omega) (by omega) (by omega)] at h; exact h _)) ?_
      refine q_val (.bool (!(decide (r ≤ (l.getD k 0)) && decide ((l.getD k 0) < r + ((ru : Nat) : Int))))) (by kernel_rfl) (fun _ => by kernel_rfl) ?_
      refine q_nil ?_
      clear H
      intro v2 H
      refine x_frame' { tmps := #[.pointer (some ⟨p, 0, none⟩), .slice ad nq ca, undef, undef, u4, .int .i64 ((k : Nat) : Int), .int .i64 (l.getD k 0), .slice ad nq ca, .int .i64 ((nq : Nat) : Int), .int .i64 ((k : Nat) : Int), .bool true, .int .i64 ((k : Nat) : Int), .pointer (some ⟨ga, oa + k, none⟩), .int .i64 (l.getD k 0), .int .i64 (l.getD k 0), .bool false, .int .i64 (l.getD k 0), .pointer (some ⟨p, 0, none⟩), .pointer (some ⟨p, 0, none⟩), .pointer (some ⟨p, 0, none⟩), .pointer (some ⟨p, 0, none⟩), .pointer (some ⟨p, 0, none⟩), .int .i64 r, .int .i64 (IntKind.i64.wrap ((l.getD k 0) - r)), .pointer (some ⟨p, 0, none⟩), .pointer (some ⟨p, 0, none⟩), .pointer (some ⟨p, 11, none⟩), .int .i64 ((ru : Nat) : Int), .bool (decide (r ≤ (l.getD k 0)) && decide ((l.getD k 0) < r + ((ru : Nat) : Int))), .bool (!(decide (r ≤ (l.getD k 0)) && decide ((l.getD k 0) < r + ((ru : Nat) : Int)))), u30, u31, u32, u33, u34, u35, u36, u37], defers := [] } (by kernel_rfl) ?_
      refine x_then ?_
      cases h3 : decide (r ≤ (l.getD k 0)) && decide ((l.getD k 0) < r + ((ru : Nat) : Int))
      · skip
        refine x_t (by kernel_rfl) ?_
        refine x_seq ?_
        refine x_region ?_
        refine x_val (.bool false) (by kernel_rfl) rfl (by kernel_rfl) ?_
        refine x_nil ?_
        refine x_then ?_
        refine x_retc ?_
        refine x_then_ret ?_
        refine x_blk_ret ?_
        refine x_then_ret ?_
        refine x_then_ret ?_
        refine x_blk_ret ?_
        refine x_then_ret ?_
        refine x_ret (.bool false) (by kernel_rfl) (by kernel_rfl) ?_
        exact ⟨rfl, H.pick [] _ (by decide) (by kernel_rfl)⟩
      · skip
        refine x_f (by kernel_rfl) ?_
        refine x_skipc ?_
        refine x_then ?_
        refine x_region ?_
        refine x_val (.pointer (some ⟨p, 0, none⟩)) (by kernel_rfl) rfl (by kernel_rfl) ?_
        refine x_val (.pointer (some ⟨p, 0, none⟩)) (by kernel_rfl) rfl (by kernel_rfl) ?_
        refine x_val (.pointer (some ⟨p, 9, none⟩)) (by kernel_rfl) rfl (by kernel_rfl) ?_
        refine x_load1 H 0 p 9 #[.int .i64 r, .int .i64 s, .int .i64 b, .int .i64 o, .int .i64 c, .int .i64 y, .int .i64 z, .slice (some ⟨gl, 0, none⟩) sn cl, .slice (some ⟨gd, 0, none⟩) pg cd, .slice (some ⟨gs, 0, none⟩) ns cs, .int .i64 ((pu : Nat) : Int), .int .i64 ((ru : Nat) : Int)] 181 (.slice (some ⟨gs, 0, none⟩) ns cs) (by kernel_rfl) (by kernel_rfl) (by kernel_rfl) rfl (by kernel_rfl) ?_
        refine x_val (.int .i64 ((k : Nat) : Int)) (by kernel_rfl) rfl (by kernel_rfl) ?_
        refine x_val (.int .i64 (l.getD k 0)) (by kernel_rfl) rfl (by kernel_rfl) ?_
        refine x_ix (t := 106) gs 0 k ns cs 3 1 k (by omega) (by omega) (by kernel_rfl) (by kernel_rfl) (by kernel_rfl) rfl (by kernel_rfl) ?_
        refine x_storeRow (t := 3) (v := .int .i64 (l.getD k 0)) H 3 gs k ns cs 3 1 (List.map (Value.int .i64) (standL l S k)) [.int .i64 (l.getD k 0)] (List.map (Value.int .i64) ((standL l S k).set k (l.getD k 0))) [.blk p #[.int .i64 r, .int .i64 s, .int .i64 b, .int .i64 o, .int .i64 c, .int .i64 y, .int .i64 z, .slice (some ⟨gl, 0, none⟩) sn cl, .slice (some ⟨gd, 0, none⟩) pg cd, .slice (some ⟨gs, 0, none⟩) ns cs, .int .i64 ((pu : Nat) : Int), .int .i64 ((ru : Nat) : Int)] 181, .row (.slice (some ⟨gl, 0, none⟩) sn cl) 3 1 sn (List.map (Value.int .i64) L), .row (.slice (some ⟨gd, 0, none⟩) pg cd) 4 1 pg (List.map Value.bool D), .row (.slice (some ⟨gs, 0, none⟩) ns cs) 3 1 ns (List.map (Value.int .i64) ((standL l S k).set k (l.getD k 0)))] rfl (by simp only [List.length_cons, List.length_nil]; omega) (by kernel_rfl) (setMap (by omega) (l.getD k 0)) rfl (by kernel_rfl) rfl (by kernel_rfl) (by kernel_rfl) (by kernel_rfl) ?_
        clear H
        intro v3 H
        refine x_nil ?_
        refine x_blk ?_
        refine x_then ?_
        refine x_region ?_
        refine x_ar (((k : Nat) : Int) + 1) ⟨by omega, by omega⟩ (by kernel_rfl) rfl (by kernel_rfl) ?_
        refine x_val (.int .i64 (((k : Nat) : Int) + 1)) (by kernel_rfl) rfl (by kernel_rfl) ?_
        refine x_nil ?_
        refine x_then ?_
        rw [show (standL l S k).set k (l.getD k 0) = standL l S (k + 1) by rw [standL, if_neg (of_decide_eq_false h2)]] at H
        exact ⟨(k + 1), (by omega), u4, (.int .i64 ((k : Nat) : Int)), (.int .i64 (l.getD k 0)), (.bool true), (.int .i64 ((k : Nat) : Int)), (.pointer (some ⟨ga, oa + k, none⟩)), (.int .i64 (l.getD k 0)), (.int .i64 (l.getD k 0)), (.bool false), (.int .i64 (l.getD k 0)), (.pointer (some ⟨p, 0, none⟩)), (.pointer (some ⟨p, 0, none⟩)), (.pointer (some ⟨p, 0, none⟩)), (.pointer (some ⟨p, 0, none⟩)), (.pointer (some ⟨p, 0, none⟩)), (.int .i64 r), (.int .i64 (IntKind.i64.wrap ((l.getD k 0) - r))), (.pointer (some ⟨p, 0, none⟩)), (.pointer (some ⟨p, 0, none⟩)), (.pointer (some ⟨p, 11, none⟩)), (.int .i64 ((ru : Nat) : Int)), (.bool true), (.bool false), (.pointer (some ⟨p, 0, none⟩)), (.pointer (some ⟨p, 0, none⟩)), (.pointer (some ⟨p, 9, none⟩)), (.slice (some ⟨gs, 0, none⟩) ns cs), (.int .i64 ((k : Nat) : Int)), (.int .i64 (l.getD k 0)), (.pointer (some ⟨gs, k, none⟩)), (.int .i64 (((k : Nat) : Int) + 1)), (by kernel_rfl), H, (by omega), (okT_in r2 h3)⟩
    · skip
      have h2p := of_decide_eq_true h2
      refine x_t (by kernel_rfl) ?_
      refine x_exit ?_
      refine x_then_exit ?_
      refine x_blk_exit ?_
      refine x_then ?_
      refine x_region ?_
      refine x_ar (((k : Nat) : Int) + 1) ⟨by omega, by omega⟩ (by kernel_rfl) rfl (by kernel_rfl) ?_
      refine x_val (.int .i64 (((k : Nat) : Int) + 1)) (by kernel_rfl) rfl (by kernel_rfl) ?_
      refine x_nil ?_
      refine x_then ?_
      rw [show standL l S k = standL l S (k + 1) by rw [standL, if_pos (of_decide_eq_true h2)]] at H
      exact ⟨(k + 1), (by omega), u4, (.int .i64 ((k : Nat) : Int)), (.int .i64 (l.getD k 0)), (.bool true), (.int .i64 ((k : Nat) : Int)), (.pointer (some ⟨ga, oa + k, none⟩)), (.int .i64 (l.getD k 0)), (.int .i64 (l.getD k 0)), (.bool true), u16, u17, u18, u19, u20, u21, u22, u23, u24, u25, u26, u27, u28, u29, u30, u31, u32, u33, u34, u35, u36, (.int .i64 (((k : Nat) : Int) + 1)), (by kernel_rfl), H, (by omega), (okT_zero r2 h2)⟩

end Go.Proofs.Ytgpalgbdacoagaa
