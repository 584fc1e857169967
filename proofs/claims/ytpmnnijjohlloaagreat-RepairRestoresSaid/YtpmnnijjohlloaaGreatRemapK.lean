/- Restore: the map of a state, or none. -/
import Derived.Test.YtpmnnijjohlloaaGreatRemapQ
import Derived.Test.YtpmnnijjohlloaaGreatOpenMix
import Derived.Test.YtpmnnijjohlloaaGreatPxD
import Derived.Test.YtpmnnijjohlloaaGreatPxZ
namespace Go.Proofs.YtpmnnijjohlloaaGreat
open Go Go.RowKit
set_option linter.unusedVariables false
set_option linter.unusedSimpArgs false
/-- Is a number one of the first k? -/
def hasK (l : List Int) (k : Nat) (x : Int) : Bool := (List.range k).any fun i => decide (x = l.getD i 0)
theorem hasK_zero (l : List Int) (x : Int) : hasK l 0 x = false := rfl
theorem hasK_of {l : List Int} {k n : Nat} {x : Int} (h : k < n) (e : x = l.getD k 0) : hasK l n x = true := by
  unfold hasK; rw [List.any_eq_true]; exact ⟨k, List.mem_range.2 h, decide_eq_true e⟩
theorem hasK_ex {l : List Int} {n : Nat} {x : Int} (h : hasK l n x = true) : ∃ k, k < n ∧ x = l.getD k 0 := by
  unfold hasK at h; rw [List.any_eq_true] at h
  obtain ⟨k, hk, e⟩ := h; exact ⟨k, List.mem_range.1 hk, of_decide_eq_true e⟩
theorem hasK_next {l : List Int} {k : Nat} {x : Int} (h : hasK l k x = false) (e : ¬ x = l.getD k 0) : hasK l (k + 1) x = false := by
  rw [Bool.eq_false_iff] at h ⊢
  intro h'; obtain ⟨i, hi, e'⟩ := hasK_ex h'
  by_cases hik : i = k
  · subst hik; exact e e'
  · exact h (hasK_of (by omega) e')
theorem getD_setK (S : List Int) (q k : Nat) (v : Int) (hq : q < S.length) : (S.set q v).getD k 0 = if q = k then v else S.getD k 0 := by
  simp only [List.getD, List.getElem?_set]
  split
  · rename_i e; subst e; simp [hq]
  · rfl
def lastD (l : List Int) : Nat → Int
  | 0 => -1
  | k + 1 => l.getD k 0
/-- The dead ones rise, and are pages. -/
def okD (pg : Nat) (l : List Int) : Nat → Bool
  | 0 => true
  | k + 1 => okD pg l k && (decide (lastD l k < l.getD k 0) && decide (l.getD k 0 < ((pg : Nat) : Int)))
theorem okD_le {pg : Nat} {l : List Int} {k n : Nat} (h : k ≤ n) (hn : okD pg l n = true) : okD pg l k = true := by
  induction n with
  | zero => obtain rfl : k = 0 := by omega
            exact hn
  | succ n ih =>
    rcases Nat.lt_or_ge k (n + 1) with h1 | h1
    · rw [okD, Bool.and_eq_true] at hn; exact ih (by omega) hn.1
    · obtain rfl : k = n + 1 := by omega
      exact hn
theorem okD_at {pg : Nat} {l : List Int} {k n : Nat} (hn : okD pg l n = true) (h : k < n) : lastD l k < l.getD k 0 ∧ l.getD k 0 < (pg : Int) := by
  have := okD_le (k := k + 1) (by omega) hn
  rw [okD, Bool.and_eq_true, Bool.and_eq_true, decide_eq_true_eq, decide_eq_true_eq] at this
  exact this.2
theorem okD_nn {pg : Nat} {l : List Int} {n : Nat} (hn : okD pg l n = true) : ∀ k, k < n → 0 ≤ l.getD k 0 := by
  intro k
  induction k with
  | zero => intro h; have := (okD_at hn h).1; simp only [lastD] at this; omega
  | succ k ih => intro h; have := (okD_at hn h).1; simp only [lastD] at this; have := ih (by omega); omega
theorem okD_no {pg : Nat} {l : List Int} {k n : Nat} (hn : okD pg l n = true) (h : k < n) (hx : l.getD k 0 ≤ lastD l k ∨ (pg : Int) ≤ l.getD k 0) : False := by
  have := okD_at hn h; omega
theorem okD_yes {pg : Nat} {l : List Int} {k : Nat} (hn : okD pg l k = true) (h1 : lastD l k < l.getD k 0) (h2 : l.getD k 0 < (pg : Int)) : okD pg l (k + 1) = true := by
  rw [okD, hn, decide_eq_true h1, decide_eq_true h2]; rfl
theorem last_nn {pg : Nat} {l : List Int} {k : Nat} (hn : okD pg l k = true) : -1 ≤ lastD l k := by
  cases k with
  | zero => simp [lastD]
  | succ k => have := okD_nn hn k (by omega); simp only [lastD]; omega
def marks (pg : Nat) (l : List Int) : Nat → List Bool
  | 0 => List.replicate pg false
  | k + 1 => (marks pg l k).set (l.getD k 0).toNat true
theorem marks_len (pg : Nat) (l : List Int) (k : Nat) : (marks pg l k).length = pg := by
  induction k with
  | zero => simp [marks]
  | succ k ih => simp [marks, ih]
theorem marks_get {pg : Nat} {l : List Int} {k : Nat} (hn : okD pg l k = true) {h : Nat} (hh : h < pg) : (marks pg l k).getD h false = hasK l k ((h : Nat) : Int) := by
  induction k with
  | zero => rw [marks, rep_get, hasK_zero]
  | succ k ih =>
    have i1 := ih (okD_le (by omega) hn)
    have hp := okD_nn hn k (by omega)
    rw [marks, getD_set, marks_len, i1]
    by_cases e : (l.getD k 0).toNat = h
    · rw [if_pos ⟨e, hh⟩, hasK_of (k := k) (by omega) (by omega)]
    · rw [if_neg (fun x => e x.1)]
      cases hc : hasK l k (h : Int) with
      | true => obtain ⟨i, hi, e'⟩ := hasK_ex hc; rw [hasK_of (k := i) (by omega) e']
      | false => rw [hasK_next hc (by omega)]
/-- Pages live where the document says. -/
def okS (top : Int) (D : List Bool) (l : List Int) : Nat → Bool
  | 0 => true
  | k + 1 => okS top D l k && (((decide (0 ≤ l.getD k 0) && decide (l.getD k 0 < top)) && !(D.getD (l.getD k 0).toNat false)) && (D.getD k false == !(decide (l.getD k 0 = (k : Int)))))
theorem okS_le {top : Int} {D : List Bool} {l : List Int} {k n : Nat} (h : k ≤ n) (hn : okS top D l n = true) : okS top D l k = true := by
  induction n with
  | zero => obtain rfl : k = 0 := by omega
            exact hn
  | succ n ih =>
    rcases Nat.lt_or_ge k (n + 1) with h1 | h1
    · rw [okS, Bool.and_eq_true] at hn; exact ih (by omega) hn.1
    · obtain rfl : k = n + 1 := by omega
      exact hn
theorem okS_next {top : Int} {D : List Bool} {l : List Int} {k : Nat} (h : okS top D l k = true) (hu : ((decide (0 ≤ l.getD k 0) && decide (l.getD k 0 < top)) && !(D.getD (l.getD k 0).toNat false)) = true) (he : (D.getD k false != !(decide (l.getD k 0 = (k : Int)))) = false) : okS top D l (k + 1) = true := by
  have he' : (D.getD k false == !(decide (l.getD k 0 = (k : Int)))) = true := by
    revert he; cases D.getD k false <;> cases (decide (l.getD k 0 = (k : Int))) <;> decide
  rw [okS, h, hu, he']; rfl
theorem okS_not1 {top : Int} {D : List Bool} {l : List Int} {k : Nat} (hu : ((decide (0 ≤ l.getD k 0) && decide (l.getD k 0 < top)) && !(D.getD (l.getD k 0).toNat false)) = false) : okS top D l (k + 1) = false := by
  rw [okS, hu, Bool.false_and, Bool.and_false]
theorem okS_not2 {top : Int} {D : List Bool} {l : List Int} {k : Nat} (he : (D.getD k false != !(decide (l.getD k 0 = (k : Int)))) = true) : okS top D l (k + 1) = false := by
  have he' : (D.getD k false == !(decide (l.getD k 0 = (k : Int)))) = false := by
    revert he; cases D.getD k false <;> cases (decide (l.getD k 0 = (k : Int))) <;> decide
  rw [okS, he', Bool.and_false, Bool.and_false]
def setsL (l L : List Int) : Nat → List Int
  | 0 => L
  | k + 1 => (setsL l L k).set k (l.getD k 0)
theorem setsL_len (l L : List Int) (k : Nat) : (setsL l L k).length = L.length := by
  induction k with
  | zero => rfl
  | succ k ih => simp [setsL, ih]
theorem setsL_get (l L : List Int) (n k : Nat) (hk : k < n) (hn : n ≤ L.length) : (setsL l L n).getD k 0 = l.getD k 0 := by
  induction n with
  | zero => omega
  | succ n ih =>
    rw [setsL, getD_setK _ _ _ _ (by rw [setsL_len]; omega)]
    split
    · rename_i e; rw [e]
    · exact ih (by omega) (by omega)
/-- Spares stand where the document says. -/
def okT (r ru : Int) (l : List Int) : Nat → Bool
  | 0 => true
  | k + 1 => okT r ru l k && (decide (l.getD k 0 = 0) || (decide (r ≤ l.getD k 0) && decide (l.getD k 0 < r + ru)))
theorem okT_le {r ru : Int} {l : List Int} {k n : Nat} (h : k ≤ n) (hn : okT r ru l n = true) : okT r ru l k = true := by
  induction n with
  | zero => obtain rfl : k = 0 := by omega
            exact hn
  | succ n ih =>
    rcases Nat.lt_or_ge k (n + 1) with h1 | h1
    · rw [okT, Bool.and_eq_true] at hn; exact ih (by omega) hn.1
    · obtain rfl : k = n + 1 := by omega
      exact hn
theorem okT_zero {r ru : Int} {l : List Int} {k : Nat} (h : okT r ru l k = true) (h0 : decide (l.getD k 0 = 0) = true) : okT r ru l (k + 1) = true := by
  rw [okT, h, h0]; rfl
theorem okT_in {r ru : Int} {l : List Int} {k : Nat} (h : okT r ru l k = true) (hb : (decide (r ≤ l.getD k 0) && decide (l.getD k 0 < r + ru)) = true) : okT r ru l (k + 1) = true := by
  rw [okT, h, hb, Bool.or_true]; rfl
theorem okT_not {r ru : Int} {l : List Int} {k : Nat} (h0 : decide (l.getD k 0 = 0) = false) (hb : (decide (r ≤ l.getD k 0) && decide (l.getD k 0 < r + ru)) = false) : okT r ru l (k + 1) = false := by
  rw [okT, h0, hb, Bool.or_false, Bool.and_false]
def standL (l S : List Int) : Nat → List Int
  | 0 => S
  | k + 1 => if l.getD k 0 = 0 then standL l S k else (standL l S k).set k (l.getD k 0)
theorem standL_len (l S : List Int) (k : Nat) : (standL l S k).length = S.length := by
  induction k with
  | zero => rfl
  | succ k ih => rw [standL]; split <;> simp [ih]
theorem standL_get (l S : List Int) (n k : Nat) (hn : n ≤ S.length) : (standL l S n).getD k 0 = if k < n ∧ ¬ l.getD k 0 = 0 then l.getD k 0 else S.getD k 0 := by
  induction n with
  | zero => rw [if_neg (by omega)]; rfl
  | succ n ih =>
    have i1 := ih (by omega)
    rw [standL]
    by_cases e : l.getD n 0 = 0
    · rw [if_pos e, i1]
      by_cases hk : k < n ∧ ¬ l.getD k 0 = 0
      · rw [if_pos hk, if_pos ⟨by omega, hk.2⟩]
      · rw [if_neg hk, if_neg]
        intro h
        by_cases hkn : k = n
        · subst hkn; exact h.2 e
        · exact hk ⟨by omega, h.2⟩
    · rw [if_neg e, getD_setK _ _ _ _ (by rw [standL_len]; omega)]
      by_cases hkn : n = k
      · subst hkn; rw [if_pos rfl, if_pos ⟨by omega, e⟩]
      · rw [if_neg hkn, i1]
        by_cases hk : k < n ∧ ¬ l.getD k 0 = 0
        · rw [if_pos hk, if_pos ⟨by omega, hk.2⟩]
        · rw [if_neg hk, if_neg (fun h => hk ⟨by omega, h.2⟩)]
theorem wrap_sub {x r ru : Int} (x0 : -9223372036854775808 ≤ x) (x1 : x ≤ 9223372036854775807) (r1 : 1 ≤ r) (r2 : r ≤ 8) (u0 : 0 ≤ ru) (u1 : ru ≤ 8) :
    (decide (0 ≤ IntKind.i64.wrap (x - r)) && decide (IntKind.i64.wrap (x - r) < ru)) = (decide (r ≤ x) && decide (x < r + ru)) := by
  rw [IntKind.wrap_i64]
  rw [Bool.eq_iff_iff, Bool.and_eq_true, Bool.and_eq_true, decide_eq_true_eq, decide_eq_true_eq, decide_eq_true_eq, decide_eq_true_eq]
  constructor
  · rintro ⟨a, b⟩
    constructor <;> omega
  · rintro ⟨a, b⟩
    constructor <;> omega
/-- Are a state's lists a layout's? -/
def fitsB (nl sn nq : Nat) (r z s pu ru : Int) : Bool := ((decide (((nl : Nat) : Int) = ((sn : Nat) : Int)) && decide (((nq : Nat) : Int) = r)) && (decide (0 ≤ pu) && decide (pu < z + 1))) && (decide (0 ≤ ru) && decide (ru < s + 1))
section
variable {r s b o c y z : Int} {pg sn ns : Nat} (hL : Lay r s b o c y z pg sn ns)
include hL
theorem Used_any {p gl cl gd cd gs cs : Nat} {L : List Int} {D : List Bool} {S : List Int} {pu ru : Nat} (hM : MapOk z s sn pg ns L D S pu ru) (a : Int) (w0 : World) (hR : Ro w0 [.blk p #[.int .i64 r, .int .i64 s, .int .i64 b, .int .i64 o, .int .i64 c, .int .i64 y, .int .i64 z, .slice (some ⟨gl, 0, none⟩) sn cl, .slice (some ⟨gd, 0, none⟩) pg cd, .slice (some ⟨gs, 0, none⟩) ns cs, .int .i64 ((pu : Nat) : Int), .int .i64 ((ru : Nat) : Int)] 109, .row (.slice (some ⟨gl, 0, none⟩) sn cl) 3 1 sn (List.map (Value.int .i64) L), .row (.slice (some ⟨gd, 0, none⟩) pg cd) 4 1 pg (List.map Value.bool D), .row (.slice (some ⟨gs, 0, none⟩) ns cs) 3 1 ns (List.map (Value.int .i64) S)]) : Calls Tryz.prog 89 #[.pointer (some ⟨p, 0, none⟩), .int .i64 a] w0 fun e w' => e = .returned (.bool (usedB sn pu D a)) ∧ Below w0.heap.size w0 w' := by
  by_cases h : 0 ≤ a ∧ a < (sn : Int) + pu
  · obtain ⟨k, rfl⟩ := Int.eq_ofNat_of_zero_le h.1
    have hk : k < sn + pu := by omega
    have e : usedB sn pu D ((k : Nat) : Int) = !(D.getD k false) := by simp [usedB]; omega
    rw [e]; exact Used_in hL hM k hk w0 hR
  · have e : usedB sn pu D a = false := by
      rw [Bool.eq_false_iff]; intro hb
      obtain ⟨n, e1, e2, -⟩ := usedB_parts hb
      exact h ⟨by omega, by omega⟩
    rw [e]; exact Used_out hL hM a (fun h0 => by omega) w0 hR
end
set_option maxRecDepth 100000 in
set_option maxHeartbeats 2000000 in
theorem fits_any {r s b o c y z : Int} {pg sn ns : Nat} (hL : Lay r s b o c y z pg sn ns) (aL aD aS : Option Addr) (nl cL nd cD nq cS : Nat) (pu ru : Int) (w0 : World) :
    Calls Tryz.prog 49 #[.agg #[.slice aL nl cL, .slice aD nd cD, .slice aS nq cS, .int .i64 pu, .int .i64 ru], .agg #[.int .i64 r, .int .i64 s, .int .i64 b, .int .i64 o, .int .i64 c, .int .i64 y, .int .i64 z]] w0 fun e w' => e = .returned (.bool (fitsB nl sn nq r z s pu ru)) ∧ Below w0.heap.size w0 w' := by
  refine z_enter Tryz.func49 rfl ?_
  have H := Hs.nil w0
  have hok := hL.ok
  obtain ⟨-, r1, r8, s0, s8, b1, b2, o1, o2, c1, c2, y0, y4, z0, z2, hpg, hsn, hns, sn1, pg2, ln0, ln2⟩ := id hL
  refine x_seq <| x_region <| z_box H #[.slice aL nl cL, .slice aD nd cD, .slice aS nq cS, .int .i64 pu, .int .i64 ru] 46 (fun v1 g1 H => ?_)
  refine z_box H #[.int .i64 r, .int .i64 s, .int .i64 b, .int .i64 o, .int .i64 c, .int .i64 y, .int .i64 z] 25 (fun v2 g2 H => ?_)
  refine x_b H [.m] <| x_nil <| x_then <| x_seq <| z_region_whole H <| q_b [.m, .l 1 0, .m, .n 0 0 7 25] <| q_callB (.int .i64 (sn : Int)) (by kernel_rfl) (fun _ => by kernel_rfl) (fun _ => (seen_of hL _)) ?_
  refine q_b [.v (.bool (decide ((nl : Int) = (sn : Int)))), .v (.bool (decide ((nl : Int) = (sn : Int))))] ?_
  cases h1 : decide ((nl : Int) = (sn : Int))
  · skip
    have h1p := of_decide_eq_false h1
    refine q_b [.k, .k, .k, .k, .k, .k, .k, .m, .m, .k, .k, .k, .k, .k, .k, .m, .m, .k, .k, .k, .k, .k, .k, .k, .m, .m] <| q_nil ?_
    clear H
    intro v3 H
    refine x_then <| x_retc <| x_ret (.bool false) (by kernel_rfl) (by kernel_rfl) ?_
    exact ⟨by simp [fitsB, h1], H.below⟩
  have h1p := of_decide_eq_true h1
  refine q_b [.m, .l 1 2, .m, .m, .m, .l 0 0, .v (.bool (decide ((nq : Int) = r))), .v (.bool (decide ((nq : Int) = r))), .v (.bool (decide ((nq : Int) = r)))] ?_
  cases h2 : decide ((nq : Int) = r)
  · skip
    have h2p := of_decide_eq_false h2
    refine q_b [.k, .k, .k, .k, .k, .k, .m, .m, .k, .k, .k, .k, .k, .k, .k, .m, .m] <| q_nil ?_
    clear H
    intro v4 H
    refine x_then <| x_retc <| x_ret (.bool false) (by kernel_rfl) (by kernel_rfl) ?_
    exact ⟨by simp [fitsB, h1, h2], H.below⟩
  have h2p := of_decide_eq_true h2
  refine q_b [.m, .l 1 3, .m, .l 0 6] <| q_ar (z + 1) ⟨by omega, by omega⟩ (by kernel_rfl) (fun _ => by kernel_rfl) <| q_callB (.bool (decide (0 ≤ pu) && decide (pu < (z + 1)))) (by kernel_rfl) (fun _ => by kernel_rfl) (fun _ => (below_any _ _ _)) <| q_b [.v (.bool (decide (0 ≤ pu) && decide (pu < (z + 1)))), .v (.bool (decide (0 ≤ pu) && decide (pu < (z + 1))))] ?_
  cases h3 : decide (0 ≤ pu) && decide (pu < (z + 1))
  · skip
    refine q_b [.k, .k, .k, .k, .k, .k, .k, .m, .m] <| q_nil ?_
    clear H
    intro v5 H
    refine x_then <| x_retc <| x_ret (.bool false) (by kernel_rfl) (by kernel_rfl) ?_
    exact ⟨by simp [fitsB, h1, h2, h3], H.below⟩
  refine q_b [.m, .l 1 4, .m, .m, .l 0 1] <| q_ar (s + 1) ⟨by omega, by omega⟩ (by kernel_rfl) (fun _ => by kernel_rfl) <| q_callB (.bool (decide (0 ≤ ru) && decide (ru < (s + 1)))) (by kernel_rfl) (fun _ => by kernel_rfl) (fun _ => (below_any _ _ _)) <| q_b [.v (.bool (decide (0 ≤ ru) && decide (ru < (s + 1)))), .v (.bool (decide (0 ≤ ru) && decide (ru < (s + 1))))] <| q_nil ?_
  clear H
  intro v6 H
  refine x_then <| x_retc <| x_ret (.bool (decide (0 ≤ ru) && decide (ru < (s + 1)))) (by kernel_rfl) (by kernel_rfl) ?_
  exact ⟨by simp [fitsB, h1, h2, h3], H.below⟩
set_option maxRecDepth 100000 in
set_option maxHeartbeats 2000000 in
theorem bury_yes {r s b o c y z : Int} {pg sn ns : Nat} (hL : Lay r s b o c y z pg sn ns) {p gl cl gd cd gs cs : Nat} {L : List Int} {S : List Int} {pu ru : Nat} (hM : MapOk z s sn pg ns L (List.replicate pg false) S pu ru) (ad : Option Addr) (nd ca : Nat) (l : List Int) (hnd : nd ≤ 9223372036854775807) (hyes : okD pg l nd = true) (w0 : World) (hI : IntsM (fps [.blk p #[.int .i64 r, .int .i64 s, .int .i64 b, .int .i64 o, .int .i64 c, .int .i64 y, .int .i64 z, .slice (some ⟨gl, 0, none⟩) sn cl, .slice (some ⟨gd, 0, none⟩) pg cd, .slice (some ⟨gs, 0, none⟩) ns cs, .int .i64 ((pu : Nat) : Int), .int .i64 ((ru : Nat) : Int)] 109, .row (.slice (some ⟨gl, 0, none⟩) sn cl) 3 1 sn (List.map (Value.int .i64) L), .row (.slice (some ⟨gd, 0, none⟩) pg cd) 4 1 pg (List.map Value.bool (List.replicate pg false)), .row (.slice (some ⟨gs, 0, none⟩) ns cs) 3 1 ns (List.map (Value.int .i64) S)]) w0 ad nd l) (H0 : Hs (fps [.blk p #[.int .i64 r, .int .i64 s, .int .i64 b, .int .i64 o, .int .i64 c, .int .i64 y, .int .i64 z, .slice (some ⟨gl, 0, none⟩) sn cl, .slice (some ⟨gd, 0, none⟩) pg cd, .slice (some ⟨gs, 0, none⟩) ns cs, .int .i64 ((pu : Nat) : Int), .int .i64 ((ru : Nat) : Int)] 109, .row (.slice (some ⟨gl, 0, none⟩) sn cl) 3 1 sn (List.map (Value.int .i64) L), .row (.slice (some ⟨gd, 0, none⟩) pg cd) 4 1 pg (List.map Value.bool (List.replicate pg false)), .row (.slice (some ⟨gs, 0, none⟩) ns cs) 3 1 ns (List.map (Value.int .i64) S)]) w0 w0 [.blk p #[.int .i64 r, .int .i64 s, .int .i64 b, .int .i64 o, .int .i64 c, .int .i64 y, .int .i64 z, .slice (some ⟨gl, 0, none⟩) sn cl, .slice (some ⟨gd, 0, none⟩) pg cd, .slice (some ⟨gs, 0, none⟩) ns cs, .int .i64 ((pu : Nat) : Int), .int .i64 ((ru : Nat) : Int)] 109, .row (.slice (some ⟨gl, 0, none⟩) sn cl) 3 1 sn (List.map (Value.int .i64) L), .row (.slice (some ⟨gd, 0, none⟩) pg cd) 4 1 pg (List.map Value.bool (List.replicate pg false)), .row (.slice (some ⟨gs, 0, none⟩) ns cs) 3 1 ns (List.map (Value.int .i64) S)]) :
    Calls Tryz.prog 50 #[.pointer (some ⟨p, 0, none⟩), .slice ad nd ca] w0 fun e w' => e = .returned (.bool true) ∧ Hs (fps [.blk p #[.int .i64 r, .int .i64 s, .int .i64 b, .int .i64 o, .int .i64 c, .int .i64 y, .int .i64 z, .slice (some ⟨gl, 0, none⟩) sn cl, .slice (some ⟨gd, 0, none⟩) pg cd, .slice (some ⟨gs, 0, none⟩) ns cs, .int .i64 ((pu : Nat) : Int), .int .i64 ((ru : Nat) : Int)] 109, .row (.slice (some ⟨gl, 0, none⟩) sn cl) 3 1 sn (List.map (Value.int .i64) L), .row (.slice (some ⟨gd, 0, none⟩) pg cd) 4 1 pg (List.map Value.bool (List.replicate pg false)), .row (.slice (some ⟨gs, 0, none⟩) ns cs) 3 1 ns (List.map (Value.int .i64) S)]) w0 w' [.blk p #[.int .i64 r, .int .i64 s, .int .i64 b, .int .i64 o, .int .i64 c, .int .i64 y, .int .i64 z, .slice (some ⟨gl, 0, none⟩) sn cl, .slice (some ⟨gd, 0, none⟩) pg cd, .slice (some ⟨gs, 0, none⟩) ns cs, .int .i64 ((pu : Nat) : Int), .int .i64 ((ru : Nat) : Int)] 109, .row (.slice (some ⟨gl, 0, none⟩) sn cl) 3 1 sn (List.map (Value.int .i64) L), .row (.slice (some ⟨gd, 0, none⟩) pg cd) 4 1 pg (List.map Value.bool (marks pg l nd)), .row (.slice (some ⟨gs, 0, none⟩) ns cs) 3 1 ns (List.map (Value.int .i64) S)] := by
  refine z_enter Tryz.func50 rfl ?_
  have H := H0
  obtain ⟨eL, eD, eS, hp, hr⟩ := id hM
  have hok := hL.ok
  obtain ⟨-, r1, r8, s0, s8, b1, b2, o1, o2, c1, c2, y0, y4, z0, z2, hpg, hsn, hns, sn1, pg2, ln0, ln2⟩ := id hL
  refine x_seq <| x_region <| x_b H [.m] <| x_nil <| x_then <| x_seq <| x_region ?_
  refine x_b H [.m] <| x_nil <| x_then <| x_seq <| x_seq <| x_region <| x_b H [.m, .m, .m] ?_
  refine x_nil <| x_then <| x_block <| x_loop (G := Nat) (fun (k : Nat) a w' => ∃ uf1 : Nat → Value, a = frm 35 uf1 [(0, .pointer (some ⟨p, 0, none⟩)), (5, .int .i64 (lastD l k)), (8, .slice ad nd ca), (9, .int .i64 (nd : Int)), (10, .int .i64 (k : Int))] [] ∧ Hs (fps [.blk p #[.int .i64 r, .int .i64 s, .int .i64 b, .int .i64 o, .int .i64 c, .int .i64 y, .int .i64 z, .slice (some ⟨gl, 0, none⟩) sn cl, .slice (some ⟨gd, 0, none⟩) pg cd, .slice (some ⟨gs, 0, none⟩) ns cs, .int .i64 (pu : Int), .int .i64 (ru : Int)] 109, .row (.slice (some ⟨gl, 0, none⟩) sn cl) 3 1 sn (List.map (Value.int .i64) L), .row (.slice (some ⟨gd, 0, none⟩) pg cd) 4 1 pg (List.map Value.bool (List.replicate pg false)), .row (.slice (some ⟨gs, 0, none⟩) ns cs) 3 1 ns (List.map (Value.int .i64) S)]) w0 w' [.blk p #[.int .i64 r, .int .i64 s, .int .i64 b, .int .i64 o, .int .i64 c, .int .i64 y, .int .i64 z, .slice (some ⟨gl, 0, none⟩) sn cl, .slice (some ⟨gd, 0, none⟩) pg cd, .slice (some ⟨gs, 0, none⟩) ns cs, .int .i64 (pu : Int), .int .i64 (ru : Int)] 109, .row (.slice (some ⟨gl, 0, none⟩) sn cl) 3 1 sn (List.map (Value.int .i64) L), .row (.slice (some ⟨gd, 0, none⟩) pg cd) 4 1 pg (List.map Value.bool (marks pg l k)), .row (.slice (some ⟨gs, 0, none⟩) ns cs) 3 1 ns (List.map (Value.int .i64) S)] ∧ (k ≤ nd) ∧ (okD pg l k = true)) (fun (k : Nat) => nd - k) 0 ⟨_, frm_of, H, (Nat.zero_le _), rfl⟩ ?_
  clear H
  rintro k _ v1 ⟨uf1, rfl, H, r1, r2⟩
  have hml := marks_len pg l k
  have hlast := last_nn r2
  refine x_seq <| x_region <| x_b H [.v (.bool (decide ((k : Int) < (nd : Int))))] <| x_nil <| x_then <| x_seq ?_
  cases h1 : decide ((k : Int) < (nd : Int))
  · skip
    have h1p := of_decide_eq_false h1
    refine x_f (by kernel_rfl) <| x_exit <| x_then_exit <| x_then_exit <| x_blk_exit <| x_then <| x_seq ?_
    refine x_region <| x_b H [.m] <| x_nil <| x_then <| x_retc <| x_ret (.bool true) (by kernel_rfl) (by kernel_rfl) ?_
    obtain rfl : k = nd := by omega
    exact ⟨rfl, H⟩
  have h1p := of_decide_eq_true h1
  refine x_t (by kernel_rfl) <| x_skipc <| x_then <| x_seq <| x_block <| x_seq <| x_region ?_
  obtain ⟨ga, oa, had, hcell⟩ := hI (by omega)
  refine x_ixO (t := 31) had k nd ca 3 1 (oa + k) (by omega) (by omega) (by kernel_rfl) (by kernel_rfl) (by kernel_rfl) rfl (by kernel_rfl) <| x_loadc ga (oa + k) (.int .i64 (l.getD k 0)) (hcell _ H.fr k (by omega)) (by kernel_rfl) rfl (by kernel_rfl) <| x_b H [.m] <| x_nil <| x_then <| x_seq <| x_seq ?_
  refine x_region <| x_b H [.m, .m, .v (.bool (decide ((l.getD k 0) ≤ (lastD l k)))), .v (.bool (decide ((l.getD k 0) ≤ (lastD l k))))] ?_
  cases h2 : decide ((l.getD k 0) ≤ (lastD l k))
  · skip
    have h2p := of_decide_eq_false h2
    refine x_b H [.m, .m, .m, .m, .l 0 8, .m] <| z_callB (v := .bool (decide (0 ≤ (l.getD k 0)) && decide ((l.getD k 0) < (pg : Int)))) H (below_any _ _ _) fun v2 H => x_b H [.v (.bool (!(decide (0 ≤ (l.getD k 0)) && decide ((l.getD k 0) < (pg : Int))))), .v (.bool (!(decide (0 ≤ (l.getD k 0)) && decide ((l.getD k 0) < (pg : Int)))))] <| x_nil <| x_then ?_
    cases h3 : decide (0 ≤ (l.getD k 0)) && decide ((l.getD k 0) < (pg : Int))
    · skip
      have hbb : ¬ (0 ≤ l.getD k 0 ∧ l.getD k 0 < (pg : Int)) := fun hx => by have q := h3; rw [decide_eq_true hx.1, decide_eq_true hx.2] at q; exact absurd q (by decide)
      refine x_t (by kernel_rfl) <| x_seq <| x_region <| x_b H [.m] <| x_nil <| x_then <| x_retc ?_
      refine x_then_ret <| x_blk_ret <| x_then_ret <| x_then_ret <| x_blk_ret <| x_then_ret <| x_ret (.bool false) (by kernel_rfl) (by kernel_rfl) ?_
      exact (okD_no (k := k) hyes (by omega) (by first | (left; omega) | (right; omega))).elim
    have hbt : 0 ≤ l.getD k 0 ∧ l.getD k 0 < (pg : Int) := by have q := h3; rw [Bool.and_eq_true, decide_eq_true_eq, decide_eq_true_eq] at q; exact q
    refine x_f (by kernel_rfl) <| x_skipc <| x_then <| x_seq <| x_region <| x_b H [.m, .m, .m, .l 0 8, .m] <| x_ixE (t := 107) (i := (l.getD k 0)) gd 0 ((l.getD k 0).toNat) pg cd (by omega) 4 1 ((l.getD k 0).toNat) (by omega) (by omega) (by kernel_rfl) (by kernel_rfl) (by kernel_rfl) rfl (by kernel_rfl) ?_
    refine x_storeRow (t := 4) (v := .bool true) H 2 gd ((l.getD k 0).toNat) pg cd 4 1 (List.map Value.bool (marks pg l k)) [.bool true] (List.map Value.bool ((marks pg l k).set ((l.getD k 0).toNat) true)) [.blk p #[.int .i64 r, .int .i64 s, .int .i64 b, .int .i64 o, .int .i64 c, .int .i64 y, .int .i64 z, .slice (some ⟨gl, 0, none⟩) sn cl, .slice (some ⟨gd, 0, none⟩) pg cd, .slice (some ⟨gs, 0, none⟩) ns cs, .int .i64 (pu : Int), .int .i64 (ru : Int)] 109, .row (.slice (some ⟨gl, 0, none⟩) sn cl) 3 1 sn (List.map (Value.int .i64) L), .row (.slice (some ⟨gd, 0, none⟩) pg cd) 4 1 pg (List.map Value.bool ((marks pg l k).set ((l.getD k 0).toNat) true)), .row (.slice (some ⟨gs, 0, none⟩) ns cs) 3 1 ns (List.map (Value.int .i64) S)] rfl (by simp only [List.length_cons, List.length_nil]; omega) (by kernel_rfl) (setMap (by omega) true) rfl (by kernel_rfl) rfl (by kernel_rfl) (by kernel_rfl) (by kernel_rfl) ?_
    clear H
    intro v3 H
    refine x_nil <| x_then <| x_region <| x_b H [.m, .m] <| x_nil <| x_blk <| x_then ?_
    refine x_region <| z_ar ((k : Int) + 1) <| x_b H [.m] <| x_nil <| x_then ?_
    exact ⟨(k + 1), (by omega), _, frm_of, H, (by omega), (okD_yes r2 (by omega) (by omega))⟩
  have h2p := of_decide_eq_true h2
  refine x_b H [.k, .k, .k, .k, .k, .k, .k, .k, .m] <| x_nil <| x_then <| x_t (by kernel_rfl) <| x_seq <| x_region <| x_b H [.m] ?_
  refine x_nil <| x_then <| x_retc <| x_then_ret <| x_blk_ret <| x_then_ret <| x_then_ret ?_
  refine x_blk_ret <| x_then_ret <| x_ret (.bool false) (by kernel_rfl) (by kernel_rfl) ?_
  exact (okD_no (k := k) hyes (by omega) (by first | (left; omega) | (right; omega))).elim
set_option maxRecDepth 100000 in
set_option maxHeartbeats 2000000 in
theorem settle_yes {r s b o c y z : Int} {pg sn ns : Nat} (hL : Lay r s b o c y z pg sn ns) {p gl cl gd cd gs cs : Nat} {L : List Int} {D : List Bool} {S : List Int} {pu ru : Nat} (hM : MapOk z s sn pg ns L D S pu ru) (ad : Option Addr) (nl ca : Nat) (l : List Int) (hnl : nl = sn) (hyes : okS (((sn : Nat) : Int) + ((pu : Nat) : Int)) D l nl = true) (w0 : World) (hI : IntsM (fps [.blk p #[.int .i64 r, .int .i64 s, .int .i64 b, .int .i64 o, .int .i64 c, .int .i64 y, .int .i64 z, .slice (some ⟨gl, 0, none⟩) sn cl, .slice (some ⟨gd, 0, none⟩) pg cd, .slice (some ⟨gs, 0, none⟩) ns cs, .int .i64 ((pu : Nat) : Int), .int .i64 ((ru : Nat) : Int)] 109, .row (.slice (some ⟨gl, 0, none⟩) sn cl) 3 1 sn (List.map (Value.int .i64) L), .row (.slice (some ⟨gd, 0, none⟩) pg cd) 4 1 pg (List.map Value.bool D), .row (.slice (some ⟨gs, 0, none⟩) ns cs) 3 1 ns (List.map (Value.int .i64) S)]) w0 ad nl l) (H0 : Hs (fps [.blk p #[.int .i64 r, .int .i64 s, .int .i64 b, .int .i64 o, .int .i64 c, .int .i64 y, .int .i64 z, .slice (some ⟨gl, 0, none⟩) sn cl, .slice (some ⟨gd, 0, none⟩) pg cd, .slice (some ⟨gs, 0, none⟩) ns cs, .int .i64 ((pu : Nat) : Int), .int .i64 ((ru : Nat) : Int)] 109, .row (.slice (some ⟨gl, 0, none⟩) sn cl) 3 1 sn (List.map (Value.int .i64) L), .row (.slice (some ⟨gd, 0, none⟩) pg cd) 4 1 pg (List.map Value.bool D), .row (.slice (some ⟨gs, 0, none⟩) ns cs) 3 1 ns (List.map (Value.int .i64) S)]) w0 w0 [.blk p #[.int .i64 r, .int .i64 s, .int .i64 b, .int .i64 o, .int .i64 c, .int .i64 y, .int .i64 z, .slice (some ⟨gl, 0, none⟩) sn cl, .slice (some ⟨gd, 0, none⟩) pg cd, .slice (some ⟨gs, 0, none⟩) ns cs, .int .i64 ((pu : Nat) : Int), .int .i64 ((ru : Nat) : Int)] 109, .row (.slice (some ⟨gl, 0, none⟩) sn cl) 3 1 sn (List.map (Value.int .i64) L), .row (.slice (some ⟨gd, 0, none⟩) pg cd) 4 1 pg (List.map Value.bool D), .row (.slice (some ⟨gs, 0, none⟩) ns cs) 3 1 ns (List.map (Value.int .i64) S)]) :
    Calls Tryz.prog 51 #[.pointer (some ⟨p, 0, none⟩), .slice ad nl ca] w0 fun e w' => e = .returned (.bool true) ∧ Hs (fps [.blk p #[.int .i64 r, .int .i64 s, .int .i64 b, .int .i64 o, .int .i64 c, .int .i64 y, .int .i64 z, .slice (some ⟨gl, 0, none⟩) sn cl, .slice (some ⟨gd, 0, none⟩) pg cd, .slice (some ⟨gs, 0, none⟩) ns cs, .int .i64 ((pu : Nat) : Int), .int .i64 ((ru : Nat) : Int)] 109, .row (.slice (some ⟨gl, 0, none⟩) sn cl) 3 1 sn (List.map (Value.int .i64) L), .row (.slice (some ⟨gd, 0, none⟩) pg cd) 4 1 pg (List.map Value.bool D), .row (.slice (some ⟨gs, 0, none⟩) ns cs) 3 1 ns (List.map (Value.int .i64) S)]) w0 w' [.blk p #[.int .i64 r, .int .i64 s, .int .i64 b, .int .i64 o, .int .i64 c, .int .i64 y, .int .i64 z, .slice (some ⟨gl, 0, none⟩) sn cl, .slice (some ⟨gd, 0, none⟩) pg cd, .slice (some ⟨gs, 0, none⟩) ns cs, .int .i64 ((pu : Nat) : Int), .int .i64 ((ru : Nat) : Int)] 109, .row (.slice (some ⟨gl, 0, none⟩) sn cl) 3 1 sn (List.map (Value.int .i64) (setsL l L nl)), .row (.slice (some ⟨gd, 0, none⟩) pg cd) 4 1 pg (List.map Value.bool D), .row (.slice (some ⟨gs, 0, none⟩) ns cs) 3 1 ns (List.map (Value.int .i64) S)] := by
  refine z_enter Tryz.func51 rfl ?_
  have H := H0
  obtain ⟨eL, eD, eS, hp, hr⟩ := id hM
  have hok := hL.ok
  obtain ⟨-, r1, r8, s0, s8, b1, b2, o1, o2, c1, c2, y0, y4, z0, z2, hpg, hsn, hns, sn1, pg2, ln0, ln2⟩ := id hL
  refine x_seq <| x_region <| x_b H [.m] <| x_nil <| x_then <| x_seq <| x_seq ?_
  refine x_region <| x_b H [.m, .m, .m] <| x_nil <| x_then <| x_block <| x_loop (G := Nat) (fun (k : Nat) a w' => ∃ uf1 : Nat → Value, a = frm 39 uf1 [(0, .pointer (some ⟨p, 0, none⟩)), (7, .slice ad nl ca), (8, .int .i64 (nl : Int)), (9, .int .i64 (k : Int))] [] ∧ Hs (fps [.blk p #[.int .i64 r, .int .i64 s, .int .i64 b, .int .i64 o, .int .i64 c, .int .i64 y, .int .i64 z, .slice (some ⟨gl, 0, none⟩) sn cl, .slice (some ⟨gd, 0, none⟩) pg cd, .slice (some ⟨gs, 0, none⟩) ns cs, .int .i64 (pu : Int), .int .i64 (ru : Int)] 109, .row (.slice (some ⟨gl, 0, none⟩) sn cl) 3 1 sn (List.map (Value.int .i64) L), .row (.slice (some ⟨gd, 0, none⟩) pg cd) 4 1 pg (List.map Value.bool D), .row (.slice (some ⟨gs, 0, none⟩) ns cs) 3 1 ns (List.map (Value.int .i64) S)]) w0 w' [.blk p #[.int .i64 r, .int .i64 s, .int .i64 b, .int .i64 o, .int .i64 c, .int .i64 y, .int .i64 z, .slice (some ⟨gl, 0, none⟩) sn cl, .slice (some ⟨gd, 0, none⟩) pg cd, .slice (some ⟨gs, 0, none⟩) ns cs, .int .i64 (pu : Int), .int .i64 (ru : Int)] 109, .row (.slice (some ⟨gl, 0, none⟩) sn cl) 3 1 sn (List.map (Value.int .i64) (setsL l L k)), .row (.slice (some ⟨gd, 0, none⟩) pg cd) 4 1 pg (List.map Value.bool D), .row (.slice (some ⟨gs, 0, none⟩) ns cs) 3 1 ns (List.map (Value.int .i64) S)] ∧ (k ≤ nl) ∧ (okS ((sn : Int) + (pu : Int)) D l k = true)) (fun (k : Nat) => nl - k) 0 ⟨_, frm_of, H, (Nat.zero_le _), rfl⟩ ?_
  clear H
  rintro k _ v1 ⟨uf1, rfl, H, r1, r2⟩
  have hml := setsL_len l L k
  refine x_seq <| x_region <| x_b H [.v (.bool (decide ((k : Int) < (nl : Int))))] <| x_nil <| x_then <| x_seq ?_
  cases h1 : decide ((k : Int) < (nl : Int))
  · skip
    have h1p := of_decide_eq_false h1
    refine x_f (by kernel_rfl) <| x_exit <| x_then_exit <| x_then_exit <| x_blk_exit <| x_then <| x_seq ?_
    refine x_region <| x_b H [.m] <| x_nil <| x_then <| x_retc <| x_ret (.bool true) (by kernel_rfl) (by kernel_rfl) ?_
    obtain rfl : k = nl := by omega
    exact ⟨rfl, H⟩
  have h1p := of_decide_eq_true h1
  refine x_t (by kernel_rfl) <| x_skipc <| x_then <| x_seq <| x_block <| x_seq <| x_region ?_
  refine x_b H [.m] ?_
  obtain ⟨ga, oa, had, hcell⟩ := hI (by omega)
  refine x_ixO (t := 31) had k nl ca 3 1 (oa + k) (by omega) (by omega) (by kernel_rfl) (by kernel_rfl) (by kernel_rfl) rfl (by kernel_rfl) <| x_loadc ga (oa + k) (.int .i64 (l.getD k 0)) (hcell _ H.fr k (by omega)) (by kernel_rfl) rfl (by kernel_rfl) <| x_b H [.m, .m] <| x_nil <| x_then <| x_seq <| x_seq ?_
  refine x_region <| x_b H [.m, .m] <| z_callB (v := .bool (usedB sn pu D (l.getD k 0))) H (Used_any hL (L := setsL l L k) ⟨by rw [hml]; exact eL, eD, eS, hp, hr⟩ _ _ (H.ro1 [0, 1, 2, 3])) fun v2 H => x_b H [.v (.bool (!(usedB sn pu D (l.getD k 0)))), .v (.bool (!(usedB sn pu D (l.getD k 0))))] ?_
  cases h2 : usedB sn pu D (l.getD k 0)
  · skip
    refine x_b H [.k, .k, .k, .k, .k, .k, .k, .k, .k, .k, .k, .m] <| x_nil <| x_then <| x_t (by kernel_rfl) <| x_seq <| x_region <| x_b H [.m] ?_
    refine x_nil <| x_then <| x_retc <| x_then_ret <| x_blk_ret <| x_then_ret <| x_then_ret ?_
    refine x_blk_ret <| x_then_ret <| x_ret (.bool false) (by kernel_rfl) (by kernel_rfl) ?_
    exact absurd (okS_le (k := k + 1) (by omega) hyes) (by rw [okS_not1 h2]; decide)
  refine x_b H [.m, .m, .m, .l 0 8, .m] <| x_ix (t := 107) gd 0 k pg cd 4 1 k (by omega) (by omega) (by kernel_rfl) (by kernel_rfl) (by kernel_rfl) rfl (by kernel_rfl) <| x_loadc gd k (.bool (D.getD k false)) (H.rowCell 2 rfl k (mapAt false (by omega))) (by kernel_rfl) rfl (by kernel_rfl) <| x_b H [.m, .m, .v (.bool (!(decide ((l.getD k 0) = (k : Int))))), .v (.bool ((D.getD k false) != (!(decide ((l.getD k 0) = (k : Int)))))), .v (.bool ((D.getD k false) != (!(decide ((l.getD k 0) = (k : Int))))))] <| x_nil <| x_then ?_
  cases h3 : (D.getD k false) != (!(decide ((l.getD k 0) = (k : Int))))
  · skip
    refine x_f (by kernel_rfl) <| x_skipc <| x_then <| x_region <| x_b H [.m, .m, .m, .l 0 7, .m, .m] <| x_ix (t := 31) gl 0 k sn cl 3 1 k (by omega) (by omega) (by kernel_rfl) (by kernel_rfl) (by kernel_rfl) rfl (by kernel_rfl) <| x_storeRow (t := 3) (v := .int .i64 (l.getD k 0)) H 1 gl k sn cl 3 1 (List.map (Value.int .i64) (setsL l L k)) [.int .i64 (l.getD k 0)] (List.map (Value.int .i64) ((setsL l L k).set k (l.getD k 0))) [.blk p #[.int .i64 r, .int .i64 s, .int .i64 b, .int .i64 o, .int .i64 c, .int .i64 y, .int .i64 z, .slice (some ⟨gl, 0, none⟩) sn cl, .slice (some ⟨gd, 0, none⟩) pg cd, .slice (some ⟨gs, 0, none⟩) ns cs, .int .i64 (pu : Int), .int .i64 (ru : Int)] 109, .row (.slice (some ⟨gl, 0, none⟩) sn cl) 3 1 sn (List.map (Value.int .i64) ((setsL l L k).set k (l.getD k 0))), .row (.slice (some ⟨gd, 0, none⟩) pg cd) 4 1 pg (List.map Value.bool D), .row (.slice (some ⟨gs, 0, none⟩) ns cs) 3 1 ns (List.map (Value.int .i64) S)] rfl (by simp only [List.length_cons, List.length_nil]; omega) (by kernel_rfl) (setMap (by omega) (l.getD k 0)) rfl (by kernel_rfl) rfl (by kernel_rfl) (by kernel_rfl) (by kernel_rfl) ?_
    clear H
    intro v3 H
    refine x_nil <| x_blk <| x_then <| x_region <| z_ar ((k : Int) + 1) <| x_b H [.m] <| x_nil ?_
    refine x_then ?_
    exact ⟨(k + 1), (by omega), _, frm_of, H, (by omega), (okS_next r2 h2 h3)⟩
  refine x_t (by kernel_rfl) <| x_seq <| x_region <| x_b H [.m] <| x_nil <| x_then <| x_retc ?_
  refine x_then_ret <| x_blk_ret <| x_then_ret <| x_then_ret <| x_blk_ret <| x_then_ret <| x_ret (.bool false) (by kernel_rfl) (by kernel_rfl) ?_
  exact absurd (okS_le (k := k + 1) (by omega) hyes) (by rw [okS_not2 h3]; decide)
set_option maxRecDepth 100000 in
set_option maxHeartbeats 2000000 in
theorem stand_yes {r s b o c y z : Int} {pg sn ns : Nat} (hL : Lay r s b o c y z pg sn ns) {p gl cl gd cd gs cs : Nat} {L : List Int} {D : List Bool} {S : List Int} {pu ru : Nat} (hM : MapOk z s sn pg ns L D S pu ru) (ad : Option Addr) (nq ca : Nat) (l : List Int) (hnq : ((nq : Nat) : Int) = r) (hx : ∀ i, i < nq → -9223372036854775808 ≤ l.getD i 0 ∧ l.getD i 0 ≤ 9223372036854775807) (hyes : okT r ((ru : Nat) : Int) l nq = true) (w0 : World) (hI : IntsM (fps [.blk p #[.int .i64 r, .int .i64 s, .int .i64 b, .int .i64 o, .int .i64 c, .int .i64 y, .int .i64 z, .slice (some ⟨gl, 0, none⟩) sn cl, .slice (some ⟨gd, 0, none⟩) pg cd, .slice (some ⟨gs, 0, none⟩) ns cs, .int .i64 ((pu : Nat) : Int), .int .i64 ((ru : Nat) : Int)] 109, .row (.slice (some ⟨gl, 0, none⟩) sn cl) 3 1 sn (List.map (Value.int .i64) L), .row (.slice (some ⟨gd, 0, none⟩) pg cd) 4 1 pg (List.map Value.bool D), .row (.slice (some ⟨gs, 0, none⟩) ns cs) 3 1 ns (List.map (Value.int .i64) S)]) w0 ad nq l) (H0 : Hs (fps [.blk p #[.int .i64 r, .int .i64 s, .int .i64 b, .int .i64 o, .int .i64 c, .int .i64 y, .int .i64 z, .slice (some ⟨gl, 0, none⟩) sn cl, .slice (some ⟨gd, 0, none⟩) pg cd, .slice (some ⟨gs, 0, none⟩) ns cs, .int .i64 ((pu : Nat) : Int), .int .i64 ((ru : Nat) : Int)] 109, .row (.slice (some ⟨gl, 0, none⟩) sn cl) 3 1 sn (List.map (Value.int .i64) L), .row (.slice (some ⟨gd, 0, none⟩) pg cd) 4 1 pg (List.map Value.bool D), .row (.slice (some ⟨gs, 0, none⟩) ns cs) 3 1 ns (List.map (Value.int .i64) S)]) w0 w0 [.blk p #[.int .i64 r, .int .i64 s, .int .i64 b, .int .i64 o, .int .i64 c, .int .i64 y, .int .i64 z, .slice (some ⟨gl, 0, none⟩) sn cl, .slice (some ⟨gd, 0, none⟩) pg cd, .slice (some ⟨gs, 0, none⟩) ns cs, .int .i64 ((pu : Nat) : Int), .int .i64 ((ru : Nat) : Int)] 109, .row (.slice (some ⟨gl, 0, none⟩) sn cl) 3 1 sn (List.map (Value.int .i64) L), .row (.slice (some ⟨gd, 0, none⟩) pg cd) 4 1 pg (List.map Value.bool D), .row (.slice (some ⟨gs, 0, none⟩) ns cs) 3 1 ns (List.map (Value.int .i64) S)]) :
    Calls Tryz.prog 52 #[.pointer (some ⟨p, 0, none⟩), .slice ad nq ca] w0 fun e w' => e = .returned (.bool true) ∧ Hs (fps [.blk p #[.int .i64 r, .int .i64 s, .int .i64 b, .int .i64 o, .int .i64 c, .int .i64 y, .int .i64 z, .slice (some ⟨gl, 0, none⟩) sn cl, .slice (some ⟨gd, 0, none⟩) pg cd, .slice (some ⟨gs, 0, none⟩) ns cs, .int .i64 ((pu : Nat) : Int), .int .i64 ((ru : Nat) : Int)] 109, .row (.slice (some ⟨gl, 0, none⟩) sn cl) 3 1 sn (List.map (Value.int .i64) L), .row (.slice (some ⟨gd, 0, none⟩) pg cd) 4 1 pg (List.map Value.bool D), .row (.slice (some ⟨gs, 0, none⟩) ns cs) 3 1 ns (List.map (Value.int .i64) S)]) w0 w' [.blk p #[.int .i64 r, .int .i64 s, .int .i64 b, .int .i64 o, .int .i64 c, .int .i64 y, .int .i64 z, .slice (some ⟨gl, 0, none⟩) sn cl, .slice (some ⟨gd, 0, none⟩) pg cd, .slice (some ⟨gs, 0, none⟩) ns cs, .int .i64 ((pu : Nat) : Int), .int .i64 ((ru : Nat) : Int)] 109, .row (.slice (some ⟨gl, 0, none⟩) sn cl) 3 1 sn (List.map (Value.int .i64) L), .row (.slice (some ⟨gd, 0, none⟩) pg cd) 4 1 pg (List.map Value.bool D), .row (.slice (some ⟨gs, 0, none⟩) ns cs) 3 1 ns (List.map (Value.int .i64) (standL l S nq))] := by
  refine z_enter Tryz.func52 rfl ?_
  have H := H0
  obtain ⟨eL, eD, eS, hp, hr⟩ := id hM
  have hok := hL.ok
  obtain ⟨-, r1, r8, s0, s8, b1, b2, o1, o2, c1, c2, y0, y4, z0, z2, hpg, hsn, hns, sn1, pg2, ln0, ln2⟩ := id hL
  refine x_seq <| x_region <| x_b H [.m] <| x_nil <| x_then <| x_seq <| x_seq ?_
  refine x_region <| x_b H [.m, .m, .m] <| x_nil <| x_then <| x_block <| x_loop (G := Nat) (fun (k : Nat) a w' => ∃ uf1 : Nat → Value, a = frm 38 uf1 [(0, .pointer (some ⟨p, 0, none⟩)), (7, .slice ad nq ca), (8, .int .i64 (nq : Int)), (9, .int .i64 (k : Int))] [] ∧ Hs (fps [.blk p #[.int .i64 r, .int .i64 s, .int .i64 b, .int .i64 o, .int .i64 c, .int .i64 y, .int .i64 z, .slice (some ⟨gl, 0, none⟩) sn cl, .slice (some ⟨gd, 0, none⟩) pg cd, .slice (some ⟨gs, 0, none⟩) ns cs, .int .i64 (pu : Int), .int .i64 (ru : Int)] 109, .row (.slice (some ⟨gl, 0, none⟩) sn cl) 3 1 sn (List.map (Value.int .i64) L), .row (.slice (some ⟨gd, 0, none⟩) pg cd) 4 1 pg (List.map Value.bool D), .row (.slice (some ⟨gs, 0, none⟩) ns cs) 3 1 ns (List.map (Value.int .i64) S)]) w0 w' [.blk p #[.int .i64 r, .int .i64 s, .int .i64 b, .int .i64 o, .int .i64 c, .int .i64 y, .int .i64 z, .slice (some ⟨gl, 0, none⟩) sn cl, .slice (some ⟨gd, 0, none⟩) pg cd, .slice (some ⟨gs, 0, none⟩) ns cs, .int .i64 (pu : Int), .int .i64 (ru : Int)] 109, .row (.slice (some ⟨gl, 0, none⟩) sn cl) 3 1 sn (List.map (Value.int .i64) L), .row (.slice (some ⟨gd, 0, none⟩) pg cd) 4 1 pg (List.map Value.bool D), .row (.slice (some ⟨gs, 0, none⟩) ns cs) 3 1 ns (List.map (Value.int .i64) (standL l S k))] ∧ (k ≤ nq) ∧ (okT r (ru : Int) l k = true)) (fun (k : Nat) => nq - k) 0 ⟨_, frm_of, H, (Nat.zero_le _), rfl⟩ ?_
  clear H
  rintro k _ v1 ⟨uf1, rfl, H, r1, r2⟩
  have hml := standL_len l S k
  refine x_seq <| x_region <| x_b H [.v (.bool (decide ((k : Int) < (nq : Int))))] <| x_nil <| x_then <| x_seq ?_
  cases h1 : decide ((k : Int) < (nq : Int))
  · skip
    have h1p := of_decide_eq_false h1
    refine x_f (by kernel_rfl) <| x_exit <| x_then_exit <| x_then_exit <| x_blk_exit <| x_then <| x_seq ?_
    refine x_region <| x_b H [.m] <| x_nil <| x_then <| x_retc <| x_ret (.bool true) (by kernel_rfl) (by kernel_rfl) ?_
    obtain rfl : k = nq := by omega
    exact ⟨rfl, H⟩
  have h1p := of_decide_eq_true h1
  refine x_t (by kernel_rfl) <| x_skipc <| x_then <| x_seq <| x_block <| x_seq <| x_region ?_
  refine x_b H [.m] ?_
  obtain ⟨ga, oa, had, hcell⟩ := hI (by omega)
  refine x_ixO (t := 31) had k nq ca 3 1 (oa + k) (by omega) (by omega) (by kernel_rfl) (by kernel_rfl) (by kernel_rfl) rfl (by kernel_rfl) <| x_loadc ga (oa + k) (.int .i64 (l.getD k 0)) (hcell _ H.fr k (by omega)) (by kernel_rfl) rfl (by kernel_rfl) <| x_b H [.m, .m] <| x_nil <| x_then <| x_seq <| x_seq ?_
  refine x_region <| x_b H [.m, .v (.bool (decide ((l.getD k 0) = 0)))] <| x_nil <| x_then ?_
  cases h2 : decide ((l.getD k 0) = 0)
  · skip
    have h2p := of_decide_eq_false h2
    refine x_f (by kernel_rfl) <| x_skipc <| x_then <| x_seq <| x_seq <| z_region_whole H <| q_b [.m, .m, .m, .m, .m, .m, .l 0 0, .m, .m, .m, .m, .l 0 11] ?_
    refine q_callB (.bool (decide (r ≤ (l.getD k 0)) && decide ((l.getD k 0) < r + (ru : Int)))) (by kernel_rfl) (fun _ => by kernel_rfl) (fun _ => (by have h := below_any (IntKind.i64.wrap (l.getD k 0 - r)) (ru : Int); rw [wrap_sub (hx k (by omega)).1 (hx k (by omega)).2 (by omega) (by omega) (by omega) (by omega)] at h; exact h _)) <| q_b [.v (.bool (!(decide (r ≤ (l.getD k 0)) && decide ((l.getD k 0) < r + (ru : Int)))))] <| q_nil ?_
    clear H
    intro v2 H
    refine x_then ?_
    cases h3 : decide (r ≤ (l.getD k 0)) && decide ((l.getD k 0) < r + (ru : Int))
    · skip
      refine x_t (by kernel_rfl) <| x_seq <| x_region <| x_b H [.m] <| x_nil <| x_then <| x_retc ?_
      refine x_then_ret <| x_blk_ret <| x_then_ret <| x_then_ret <| x_blk_ret <| x_then_ret <| x_ret (.bool false) (by kernel_rfl) (by kernel_rfl) ?_
      exact absurd (okT_le (k := k + 1) (by omega) hyes) (by rw [okT_not h2 h3]; decide)
    refine x_f (by kernel_rfl) <| x_skipc <| x_then <| x_region <| x_b H [.m, .m, .m, .l 0 9, .m, .m] <| x_ix (t := 31) gs 0 k ns cs 3 1 k (by omega) (by omega) (by kernel_rfl) (by kernel_rfl) (by kernel_rfl) rfl (by kernel_rfl) <| x_storeRow (t := 3) (v := .int .i64 (l.getD k 0)) H 3 gs k ns cs 3 1 (List.map (Value.int .i64) (standL l S k)) [.int .i64 (l.getD k 0)] (List.map (Value.int .i64) ((standL l S k).set k (l.getD k 0))) [.blk p #[.int .i64 r, .int .i64 s, .int .i64 b, .int .i64 o, .int .i64 c, .int .i64 y, .int .i64 z, .slice (some ⟨gl, 0, none⟩) sn cl, .slice (some ⟨gd, 0, none⟩) pg cd, .slice (some ⟨gs, 0, none⟩) ns cs, .int .i64 (pu : Int), .int .i64 (ru : Int)] 109, .row (.slice (some ⟨gl, 0, none⟩) sn cl) 3 1 sn (List.map (Value.int .i64) L), .row (.slice (some ⟨gd, 0, none⟩) pg cd) 4 1 pg (List.map Value.bool D), .row (.slice (some ⟨gs, 0, none⟩) ns cs) 3 1 ns (List.map (Value.int .i64) ((standL l S k).set k (l.getD k 0)))] rfl (by simp only [List.length_cons, List.length_nil]; omega) (by kernel_rfl) (setMap (by omega) (l.getD k 0)) rfl (by kernel_rfl) rfl (by kernel_rfl) (by kernel_rfl) (by kernel_rfl) ?_
    clear H
    intro v3 H
    refine x_nil <| x_blk <| x_then <| x_region <| z_ar ((k : Int) + 1) <| x_b H [.m] <| x_nil ?_
    refine x_then ?_
    rw [show (standL l S k).set k (l.getD k 0) = standL l S (k + 1) by rw [standL, if_neg (of_decide_eq_false h2)]] at H
    exact ⟨(k + 1), (by omega), _, frm_of, H, (by omega), (okT_in r2 h3)⟩
  have h2p := of_decide_eq_true h2
  refine x_t (by kernel_rfl) <| x_exit <| x_then_exit <| x_blk_exit <| x_then <| x_region <| z_ar ((k : Int) + 1) ?_
  refine x_b H [.m] <| x_nil <| x_then ?_
  rw [show standL l S k = standL l S (k + 1) by rw [standL, if_pos (of_decide_eq_true h2)]] at H
  exact ⟨(k + 1), (by omega), _, frm_of, H, (by omega), (okT_zero r2 h2)⟩
end Go.Proofs.YtpmnnijjohlloaaGreat
