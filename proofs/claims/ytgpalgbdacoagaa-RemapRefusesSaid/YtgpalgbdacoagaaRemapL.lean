/- Restore, and the law RemapRefuses, walked. -/
import Derived.Test.YtgpalgbdacoagaaRemapK
namespace Go.Proofs.Ytgpalgbdacoagaa
open Go Go.RowKit
set_option linter.unusedVariables false
set_option linter.unusedSimpArgs false

theorem fitsB_parts {nl sn nq : Nat} {r z s pu ru : Int} (h : fitsB nl sn nq r z s pu ru = true) : nl = sn ∧ ((nq : Nat) : Int) = r ∧ (0 ≤ pu ∧ pu ≤ z) ∧ 0 ≤ ru ∧ ru ≤ s := by
  simp only [fitsB, Bool.and_eq_true, decide_eq_true_eq] at h
  omega
theorem fitsB_mk {nl sn nq : Nat} {r z s pu ru : Int} (h1 : ((nl : Nat) : Int) = sn) (h2 : ((nq : Nat) : Int) = r) (h3 : 0 ≤ pu) (h4 : pu ≤ z) (h5 : 0 ≤ ru) (h6 : ru ≤ s) : fitsB nl sn nq r z s pu ru = true := by
  simp only [fitsB, Bool.and_eq_true, decide_eq_true_eq]
  omega
/-- Pages live where the document says: as it is told. -/
def okL (top : Int) (lD : List Int) (nd : Nat) (l : List Int) : Nat → Bool
  | 0 => true
  | k + 1 => okL top lD nd l k && (((decide (0 ≤ l.getD k 0) && decide (l.getD k 0 < top)) && !(hasK lD nd (l.getD k 0))) && (decide (l.getD k 0 = ((k : Nat) : Int)) || hasK lD nd ((k : Nat) : Int)))
theorem okL_okS {pg : Nat} {top : Int} {lD : List Int} {nd : Nat} (hd : okD pg lD nd = true) (ht : top ≤ (pg : Int)) (l : List Int) : ∀ k, k ≤ pg → okL top lD nd l k = okS top (marks pg lD nd) l k
  | 0, _ => rfl
  | k + 1, hk => by
    rw [okL, okS, okL_okS hd ht l k (by omega)]
    by_cases h : 0 ≤ l.getD k 0 ∧ l.getD k 0 < top
    · obtain ⟨x, hx⟩ := Int.eq_ofNat_of_zero_le h.1
      have m1 := marks_get hd (h := x) (by omega)
      have m2 := marks_get hd (h := k) (by omega)
      rw [m2, hx, Int.toNat_natCast, m1]
      by_cases e : ((x : Nat) : Int) = (k : Int)
      · rw [e]; cases hasK lD nd (k : Int) <;> simp
      · rw [decide_eq_false e]
        cases hasK lD nd (x : Int) <;> cases hasK lD nd (k : Int) <;> simp
    · have e : (decide (0 ≤ l.getD k 0) && decide (l.getD k 0 < top)) = false := by
        rw [Bool.eq_false_iff]; intro hb
        rw [Bool.and_eq_true, decide_eq_true_eq, decide_eq_true_eq] at hb
        exact h hb
      rw [e]; rfl
theorem oks_doc {pg nd nl : Nat} {top : Int} {lD l : List Int} (ht : top ≤ (pg : Int)) (hn : nl ≤ pg) : (okD pg lD nd && okL top lD nd l nl) = (okD pg lD nd && okS top (marks pg lD nd) l nl) := by
  cases h : okD pg lD nd with
  | false => rfl
  | true => rw [okL_okS h ht l nl hn]

set_option maxRecDepth 100000 in
set_option maxHeartbeats 4000000 in
theorem Restore_no (r s b o c y z : Int) (aL aD aS : Option Addr) (nl cL nd cD nq cS : Nat) (pu ru : Int) (hbd : r ≤ 9223372036854775807 ∧ b ≤ 9223372036854775807 ∧ o ≤ 9223372036854775807 ∧ c ≤ 9223372036854775807) (hok : layoutOk r s b o c y z = false) (w0 : World) :
    Calls Try.prog 75 #[.agg #[.int .i64 r, .int .i64 s, .int .i64 b, .int .i64 o, .int .i64 c, .int .i64 y, .int .i64 z], .agg #[.slice aL nl cL, .slice aD nd cD, .slice aS nq cS, .int .i64 pu, .int .i64 ru]] w0 fun e w' => e = .returned (.tuple #[.pointer none, .int .i64 22]) ∧ Below w0.heap.size w0 w' := by
  refine x_enter Try.func75 rfl #[.agg #[.int .i64 r, .int .i64 s, .int .i64 b, .int .i64 o, .int .i64 c, .int .i64 y, .int .i64 z], .agg #[.slice aL nl cL, .slice aD nd cD, .slice aS nq cS, .int .i64 pu, .int .i64 ru], undef, undef, undef, undef, undef, undef, undef, undef, undef, undef, undef, undef, undef, undef, undef, undef, undef, undef, undef, undef, undef, undef, undef, undef, undef, undef, undef, undef, undef, undef, undef, undef, undef, undef, undef, undef, undef, undef, undef, undef, undef, undef, undef, undef, undef, undef, undef, undef] (by kernel_rfl) ?_
  have H := Hs.nil w0
  refine x_seq ?_
  refine x_region ?_
  refine x_box H #[.int .i64 r, .int .i64 s, .int .i64 b, .int .i64 o, .int .i64 c, .int .i64 y, .int .i64 z] 69 (by kernel_rfl) rfl (by kernel_rfl) ?_
  clear H
  intro v1 g1 H
  refine x_box H #[.slice aL nl cL, .slice aD nd cD, .slice aS nq cS, .int .i64 pu, .int .i64 ru] 142 (by kernel_rfl) rfl (by kernel_rfl) ?_
  clear H
  intro v2 g2 H
  refine x_val (.pointer none) (by kernel_rfl) rfl (by kernel_rfl) ?_
  refine x_val (.int .i64 0) (by kernel_rfl) rfl (by kernel_rfl) ?_
  refine x_nil ?_
  refine x_then ?_
  refine x_seq ?_
  refine x_region ?_
  refine x_loadn (t := 69) H 1 g1 0 #[.int .i64 r, .int .i64 s, .int .i64 b, .int .i64 o, .int .i64 c, .int .i64 y, .int .i64 z] 69 [.int .i64 r, .int .i64 s, .int .i64 b, .int .i64 o, .int .i64 c, .int .i64 y, .int .i64 z] (by kernel_rfl) (by kernel_rfl) (by kernel_rfl) rfl (by kernel_rfl) (by kernel_rfl) ?_
  refine x_callB (.tuple #[.pointer none, .int .i64 22]) H (by kernel_rfl) rfl (by kernel_rfl) (New_no r s b o c y z hbd hok _) ?_
  clear H
  intro v3 H
  refine x_val (.tuple #[.pointer none, .int .i64 22]) (by kernel_rfl) rfl (by kernel_rfl) ?_
  refine x_val (.pointer none) (by kernel_rfl) rfl (by kernel_rfl) ?_
  refine x_val (.int .i64 22) (by kernel_rfl) rfl (by kernel_rfl) ?_
  refine x_val (.pointer none) (by kernel_rfl) rfl (by kernel_rfl) ?_
  refine x_val (.int .i64 22) (by kernel_rfl) rfl (by kernel_rfl) ?_
  refine x_nil ?_
  refine x_then ?_
  refine x_seq ?_
  refine x_seq ?_
  refine x_region ?_
  refine x_val (.int .i64 22) (by kernel_rfl) rfl (by kernel_rfl) ?_
  refine x_val (.bool true) (by kernel_rfl) rfl (by kernel_rfl) ?_
  refine x_nil ?_
  refine x_frame' { tmps := #[.agg #[.int .i64 r, .int .i64 s, .int .i64 b, .int .i64 o, .int .i64 c, .int .i64 y, .int .i64 z], .agg #[.slice aL nl cL, .slice aD nd cD, .slice aS nq cS, .int .i64 pu, .int .i64 ru], .pointer (some ⟨g1, 0, none⟩), .pointer (some ⟨g2, 0, none⟩), .pointer none, .int .i64 0, .pointer none, .int .i64 22, .tuple #[.pointer none, .int .i64 22], .agg #[.int .i64 r, .int .i64 s, .int .i64 b, .int .i64 o, .int .i64 c, .int .i64 y, .int .i64 z], .tuple #[.pointer none, .int .i64 22], .pointer none, .int .i64 22, .int .i64 22, .bool true, undef, undef, undef, undef, undef, undef, undef, undef, undef, undef, undef, undef, undef, undef, undef, undef, undef, undef, undef, undef, undef, undef, undef, undef, undef, undef, undef, undef, undef, undef, undef, undef, undef, undef, undef], defers := [] } (by kernel_rfl) ?_
  refine x_then ?_
  refine x_t (by kernel_rfl) ?_
  refine x_seq ?_
  refine x_region ?_
  refine x_val (.int .i64 22) (by kernel_rfl) rfl (by kernel_rfl) ?_
  refine x_val (.pointer none) (by kernel_rfl) rfl (by kernel_rfl) ?_
  refine x_val (.int .i64 22) (by kernel_rfl) rfl (by kernel_rfl) ?_
  refine x_nil ?_
  refine x_then ?_
  refine x_retc ?_
  refine x_then_ret ?_
  refine x_ret (.tuple #[.pointer none, .int .i64 22]) (by kernel_rfl) (by kernel_rfl) ?_
  exact ⟨rfl, H.below⟩

set_option maxRecDepth 100000 in
set_option maxHeartbeats 4000000 in
theorem Restore_form {r s b o c y z : Int} {pg sn ns : Nat} (hL : Lay r s b o c y z pg sn ns) (aL aD aS : Option Addr) (nl cL nd cD nq cS : Nat) (pu ru : Int) (hf : fitsB nl sn nq r z s pu ru = false) (w0 : World) :
    Calls Try.prog 75 #[.agg #[.int .i64 r, .int .i64 s, .int .i64 b, .int .i64 o, .int .i64 c, .int .i64 y, .int .i64 z], .agg #[.slice aL nl cL, .slice aD nd cD, .slice aS nq cS, .int .i64 pu, .int .i64 ru]] w0 fun e w' => e = .returned (.tuple #[.pointer none, .int .i64 10]) ∧ Below w0.heap.size w0 w' := by
  refine x_enter Try.func75 rfl #[.agg #[.int .i64 r, .int .i64 s, .int .i64 b, .int .i64 o, .int .i64 c, .int .i64 y, .int .i64 z], .agg #[.slice aL nl cL, .slice aD nd cD, .slice aS nq cS, .int .i64 pu, .int .i64 ru], undef, undef, undef, undef, undef, undef, undef, undef, undef, undef, undef, undef, undef, undef, undef, undef, undef, undef, undef, undef, undef, undef, undef, undef, undef, undef, undef, undef, undef, undef, undef, undef, undef, undef, undef, undef, undef, undef, undef, undef, undef, undef, undef, undef, undef, undef, undef, undef] (by kernel_rfl) ?_
  have H := Hs.nil w0
  have hok := hL.ok
  obtain ⟨-, r1, r8, s0, s8, b1, b2, o1, o2, c1, c2, y0, y4, z0, z2, hpg, hsn, hns, sn1, pg2, ln0, ln2⟩ := id hL
  have r1' := r1
  refine x_seq ?_
  refine x_region ?_
  refine x_box H #[.int .i64 r, .int .i64 s, .int .i64 b, .int .i64 o, .int .i64 c, .int .i64 y, .int .i64 z] 69 (by kernel_rfl) rfl (by kernel_rfl) ?_
  clear H
  intro v1 g1 H
  refine x_box H #[.slice aL nl cL, .slice aD nd cD, .slice aS nq cS, .int .i64 pu, .int .i64 ru] 142 (by kernel_rfl) rfl (by kernel_rfl) ?_
  clear H
  intro v2 g2 H
  refine x_val (.pointer none) (by kernel_rfl) rfl (by kernel_rfl) ?_
  refine x_val (.int .i64 0) (by kernel_rfl) rfl (by kernel_rfl) ?_
  refine x_nil ?_
  refine x_then ?_
  refine x_seq ?_
  refine x_region ?_
  refine x_loadn (t := 69) H 1 g1 0 #[.int .i64 r, .int .i64 s, .int .i64 b, .int .i64 o, .int .i64 c, .int .i64 y, .int .i64 z] 69 [.int .i64 r, .int .i64 s, .int .i64 b, .int .i64 o, .int .i64 c, .int .i64 y, .int .i64 z] (by kernel_rfl) (by kernel_rfl) (by kernel_rfl) rfl (by kernel_rfl) (by kernel_rfl) ?_
  refine x_call (by kernel_rfl) rfl (by kernel_rfl) (New_yes hL _) ?_
  rintro _ v3 ⟨p, gl, cl, gd, cd, gs, cs, rfl, hN'⟩
  refine ⟨_, rfl, ?_⟩
  replace H := H.more hN'
  clear hN'
  replace H : Hs [] w0 _ [.blk p #[.int .i64 r, .int .i64 s, .int .i64 b, .int .i64 o, .int .i64 c, .int .i64 y, .int .i64 z, .slice (some ⟨gl, 0, none⟩) sn cl, .slice (some ⟨gd, 0, none⟩) pg cd, .slice (some ⟨gs, 0, none⟩) ns cs, .int .i64 ((0 : Nat) : Int), .int .i64 ((0 : Nat) : Int)] 181, .row (.slice (some ⟨gl, 0, none⟩) sn cl) 3 1 sn (List.map (Value.int .i64) (iota sn)), .row (.slice (some ⟨gd, 0, none⟩) pg cd) 4 1 pg (List.map Value.bool (List.replicate pg false)), .row (.slice (some ⟨gs, 0, none⟩) ns cs) 3 1 ns (List.map (Value.int .i64) (List.replicate ns (-1))), .blk g2 #[.slice aL nl cL, .slice aD nd cD, .slice aS nq cS, .int .i64 pu, .int .i64 ru] 142, .blk g1 #[.int .i64 r, .int .i64 s, .int .i64 b, .int .i64 o, .int .i64 c, .int .i64 y, .int .i64 z] 69] := H
  refine x_val (.tuple #[.pointer (some ⟨p, 0, none⟩), .int .i64 0]) (by kernel_rfl) rfl (by kernel_rfl) ?_
  refine x_val (.pointer (some ⟨p, 0, none⟩)) (by kernel_rfl) rfl (by kernel_rfl) ?_
  refine x_val (.int .i64 0) (by kernel_rfl) rfl (by kernel_rfl) ?_
  refine x_val (.pointer (some ⟨p, 0, none⟩)) (by kernel_rfl) rfl (by kernel_rfl) ?_
  refine x_val (.int .i64 0) (by kernel_rfl) rfl (by kernel_rfl) ?_
  refine x_nil ?_
  refine x_then ?_
  refine x_seq ?_
  refine x_seq ?_
  refine x_region ?_
  refine x_val (.int .i64 0) (by kernel_rfl) rfl (by kernel_rfl) ?_
  refine x_val (.bool false) (by kernel_rfl) rfl (by kernel_rfl) ?_
  refine x_nil ?_
  refine x_frame' { tmps := #[.agg #[.int .i64 r, .int .i64 s, .int .i64 b, .int .i64 o, .int .i64 c, .int .i64 y, .int .i64 z], .agg #[.slice aL nl cL, .slice aD nd cD, .slice aS nq cS, .int .i64 pu, .int .i64 ru], .pointer (some ⟨g1, 0, none⟩), .pointer (some ⟨g2, 0, none⟩), .pointer none, .int .i64 0, .pointer (some ⟨p, 0, none⟩), .int .i64 0, .tuple #[.pointer (some ⟨p, 0, none⟩), .int .i64 0], .agg #[.int .i64 r, .int .i64 s, .int .i64 b, .int .i64 o, .int .i64 c, .int .i64 y, .int .i64 z], .tuple #[.pointer (some ⟨p, 0, none⟩), .int .i64 0], .pointer (some ⟨p, 0, none⟩), .int .i64 0, .int .i64 0, .bool false, undef, undef, undef, undef, undef, undef, undef, undef, undef, undef, undef, undef, undef, undef, undef, undef, undef, undef, undef, undef, undef, undef, undef, undef, undef, undef, undef, undef, undef, undef, undef, undef, undef, undef, undef], defers := [] } (by kernel_rfl) ?_
  refine x_then ?_
  refine x_f (by kernel_rfl) ?_
  refine x_skipc ?_
  refine x_then ?_
  refine x_seq ?_
  refine x_seq ?_
  refine x_region ?_
  refine x_loadn (t := 142) H 4 g2 0 #[.slice aL nl cL, .slice aD nd cD, .slice aS nq cS, .int .i64 pu, .int .i64 ru] 142 [.slice aL nl cL, .slice aD nd cD, .slice aS nq cS, .int .i64 pu, .int .i64 ru] (by kernel_rfl) (by kernel_rfl) (by kernel_rfl) rfl (by kernel_rfl) (by kernel_rfl) ?_
  refine x_loadn (t := 69) H 5 g1 0 #[.int .i64 r, .int .i64 s, .int .i64 b, .int .i64 o, .int .i64 c, .int .i64 y, .int .i64 z] 69 [.int .i64 r, .int .i64 s, .int .i64 b, .int .i64 o, .int .i64 c, .int .i64 y, .int .i64 z] (by kernel_rfl) (by kernel_rfl) (by kernel_rfl) rfl (by kernel_rfl) (by kernel_rfl) ?_
  refine x_callB (.bool (fitsB nl sn nq r z s pu ru)) H (by kernel_rfl) rfl (by kernel_rfl) (fits_any hL aL aD aS nl cL nd cD nq cS pu ru _) ?_
  clear H
  intro v4 H
  refine x_val (.bool (!(fitsB nl sn nq r z s pu ru))) (by kernel_rfl) rfl (by kernel_rfl) ?_
  refine x_nil ?_
  refine x_then ?_
  rw [hf]
  refine x_t (by kernel_rfl) ?_
  refine x_seq ?_
  refine x_region ?_
  refine x_val (.pointer none) (by kernel_rfl) rfl (by kernel_rfl) ?_
  refine x_val (.int .i64 10) (by kernel_rfl) rfl (by kernel_rfl) ?_
  refine x_nil ?_
  refine x_then ?_
  refine x_retc ?_
  refine x_then_ret ?_
  refine x_ret (.tuple #[.pointer none, .int .i64 10]) (by kernel_rfl) (by kernel_rfl) ?_
  exact ⟨rfl, H.below⟩

set_option maxRecDepth 100000 in
set_option maxHeartbeats 4000000 in
theorem Restore_yes {r s b o c y z : Int} {pg sn ns : Nat} (hL : Lay r s b o c y z pg sn ns) (aL aD aS : Option Addr) (nl cL nd cD nq cS : Nat) {pn rn : Nat} (lL lD lS : List Int) (hxS : ∀ i, i < nq → -9223372036854775808 ≤ lS.getD i 0 ∧ lS.getD i 0 ≤ 9223372036854775807) (hnd : nd ≤ 9223372036854775807) (hf : fitsB nl sn nq r z s ((pn : Nat) : Int) ((rn : Nat) : Int) = true) (h1 : okD pg lD nd = true) (h2 : okS (((sn : Nat) : Int) + ((pn : Nat) : Int)) (marks pg lD nd) lL nl = true) (h3 : okT r ((rn : Nat) : Int) lS nq = true) (w0 : World) (hIL : IntsAt w0 aL nl lL) (hID : IntsAt w0 aD nd lD) (hIS : IntsAt w0 aS nq lS) :
    Calls Try.prog 75 #[.agg #[.int .i64 r, .int .i64 s, .int .i64 b, .int .i64 o, .int .i64 c, .int .i64 y, .int .i64 z], .agg #[.slice aL nl cL, .slice aD nd cD, .slice aS nq cS, .int .i64 ((pn : Nat) : Int), .int .i64 ((rn : Nat) : Int)]] w0 fun e w' => ∃ p gl cl gd cd gs cs, e = .returned (.tuple #[.pointer (some ⟨p, 0, none⟩), .int .i64 0]) ∧ Hs [] w0 w' [.blk p #[.int .i64 r, .int .i64 s, .int .i64 b, .int .i64 o, .int .i64 c, .int .i64 y, .int .i64 z, .slice (some ⟨gl, 0, none⟩) sn cl, .slice (some ⟨gd, 0, none⟩) pg cd, .slice (some ⟨gs, 0, none⟩) ns cs, .int .i64 ((pn : Nat) : Int), .int .i64 ((rn : Nat) : Int)] 181, .row (.slice (some ⟨gl, 0, none⟩) sn cl) 3 1 sn (List.map (Value.int .i64) (setsL lL (iota sn) nl)), .row (.slice (some ⟨gd, 0, none⟩) pg cd) 4 1 pg (List.map Value.bool (marks pg lD nd)), .row (.slice (some ⟨gs, 0, none⟩) ns cs) 3 1 ns (List.map (Value.int .i64) (standL lS (List.replicate ns (-1)) nq))] := by
  refine x_enter Try.func75 rfl #[.agg #[.int .i64 r, .int .i64 s, .int .i64 b, .int .i64 o, .int .i64 c, .int .i64 y, .int .i64 z], .agg #[.slice aL nl cL, .slice aD nd cD, .slice aS nq cS, .int .i64 ((pn : Nat) : Int), .int .i64 ((rn : Nat) : Int)], undef, undef, undef, undef, undef, undef, undef, undef, undef, undef, undef, undef, undef, undef, undef, undef, undef, undef, undef, undef, undef, undef, undef, undef, undef, undef, undef, undef, undef, undef, undef, undef, undef, undef, undef, undef, undef, undef, undef, undef, undef, undef, undef, undef, undef, undef, undef, undef] (by kernel_rfl) ?_
  have H := Hs.nil w0
  have hok := hL.ok
  obtain ⟨-, r1, r8, s0, s8, b1, b2, o1, o2, c1, c2, y0, y4, z0, z2, hpg, hsn, hns, sn1, pg2, ln0, ln2⟩ := id hL
  have r1' := r1
  obtain ⟨f1, f2, ⟨f3, f4⟩, f5, f6⟩ := fitsB_parts hf
  have hM0 : MapOk z s sn pg ns (iota sn) (List.replicate pg false) (List.replicate ns (-1)) pn rn := ⟨iota_len sn, List.length_replicate, List.length_replicate, by omega, by omega⟩
  have hM1 : MapOk z s sn pg ns (iota sn) (marks pg lD nd) (List.replicate ns (-1)) pn rn := ⟨iota_len sn, marks_len _ _ _, List.length_replicate, by omega, by omega⟩
  have hM2 : MapOk z s sn pg ns (setsL lL (iota sn) nl) (marks pg lD nd) (List.replicate ns (-1)) pn rn := ⟨by rw [setsL_len]; exact iota_len sn, marks_len _ _ _, List.length_replicate, by omega, by omega⟩
  refine x_seq ?_
  refine x_region ?_
  refine x_box H #[.int .i64 r, .int .i64 s, .int .i64 b, .int .i64 o, .int .i64 c, .int .i64 y, .int .i64 z] 69 (by kernel_rfl) rfl (by kernel_rfl) ?_
  clear H
  intro v1 g1 H
  refine x_box H #[.slice aL nl cL, .slice aD nd cD, .slice aS nq cS, .int .i64 ((pn : Nat) : Int), .int .i64 ((rn : Nat) : Int)] 142 (by kernel_rfl) rfl (by kernel_rfl) ?_
  clear H
  intro v2 g2 H
  refine x_val (.pointer none) (by kernel_rfl) rfl (by kernel_rfl) ?_
  refine x_val (.int .i64 0) (by kernel_rfl) rfl (by kernel_rfl) ?_
  refine x_nil ?_
  refine x_then ?_
  refine x_seq ?_
  refine x_region ?_
  refine x_loadn (t := 69) H 1 g1 0 #[.int .i64 r, .int .i64 s, .int .i64 b, .int .i64 o, .int .i64 c, .int .i64 y, .int .i64 z] 69 [.int .i64 r, .int .i64 s, .int .i64 b, .int .i64 o, .int .i64 c, .int .i64 y, .int .i64 z] (by kernel_rfl) (by kernel_rfl) (by kernel_rfl) rfl (by kernel_rfl) (by kernel_rfl) ?_
  refine x_call (by kernel_rfl) rfl (by kernel_rfl) (New_yes hL _) ?_
  rintro _ v3 ⟨p, gl, cl, gd, cd, gs, cs, rfl, hN'⟩
  refine ⟨_, rfl, ?_⟩
  replace H := H.more hN'
  clear hN'
  replace H : Hs [] w0 _ [.blk p #[.int .i64 r, .int .i64 s, .int .i64 b, .int .i64 o, .int .i64 c, .int .i64 y, .int .i64 z, .slice (some ⟨gl, 0, none⟩) sn cl, .slice (some ⟨gd, 0, none⟩) pg cd, .slice (some ⟨gs, 0, none⟩) ns cs, .int .i64 ((0 : Nat) : Int), .int .i64 ((0 : Nat) : Int)] 181, .row (.slice (some ⟨gl, 0, none⟩) sn cl) 3 1 sn (List.map (Value.int .i64) (iota sn)), .row (.slice (some ⟨gd, 0, none⟩) pg cd) 4 1 pg (List.map Value.bool (List.replicate pg false)), .row (.slice (some ⟨gs, 0, none⟩) ns cs) 3 1 ns (List.map (Value.int .i64) (List.replicate ns (-1))), .blk g2 #[.slice aL nl cL, .slice aD nd cD, .slice aS nq cS, .int .i64 ((pn : Nat) : Int), .int .i64 ((rn : Nat) : Int)] 142, .blk g1 #[.int .i64 r, .int .i64 s, .int .i64 b, .int .i64 o, .int .i64 c, .int .i64 y, .int .i64 z] 69] := H
  refine x_val (.tuple #[.pointer (some ⟨p, 0, none⟩), .int .i64 0]) (by kernel_rfl) rfl (by kernel_rfl) ?_
  refine x_val (.pointer (some ⟨p, 0, none⟩)) (by kernel_rfl) rfl (by kernel_rfl) ?_
  refine x_val (.int .i64 0) (by kernel_rfl) rfl (by kernel_rfl) ?_
  refine x_val (.pointer (some ⟨p, 0, none⟩)) (by kernel_rfl) rfl (by kernel_rfl) ?_
  refine x_val (.int .i64 0) (by kernel_rfl) rfl (by kernel_rfl) ?_
  refine x_nil ?_
  refine x_then ?_
  refine x_seq ?_
  refine x_seq ?_
  refine x_region ?_
  refine x_val (.int .i64 0) (by kernel_rfl) rfl (by kernel_rfl) ?_
  refine x_val (.bool false) (by kernel_rfl) rfl (by kernel_rfl) ?_
  refine x_nil ?_
  refine x_frame' { tmps := #[.agg #[.int .i64 r, .int .i64 s, .int .i64 b, .int .i64 o, .int .i64 c, .int .i64 y, .int .i64 z], .agg #[.slice aL nl cL, .slice aD nd cD, .slice aS nq cS, .int .i64 ((pn : Nat) : Int), .int .i64 ((rn : Nat) : Int)], .pointer (some ⟨g1, 0, none⟩), .pointer (some ⟨g2, 0, none⟩), .pointer none, .int .i64 0, .pointer (some ⟨p, 0, none⟩), .int .i64 0, .tuple #[.pointer (some ⟨p, 0, none⟩), .int .i64 0], .agg #[.int .i64 r, .int .i64 s, .int .i64 b, .int .i64 o, .int .i64 c, .int .i64 y, .int .i64 z], .tuple #[.pointer (some ⟨p, 0, none⟩), .int .i64 0], .pointer (some ⟨p, 0, none⟩), .int .i64 0, .int .i64 0, .bool false, undef, undef, undef, undef, undef, undef, undef, undef, undef, undef, undef, undef, undef, undef, undef, undef, undef, undef, undef, undef, undef, undef, undef, undef, undef, undef, undef, undef, undef, undef, undef, undef, undef, undef, undef], defers := [] } (by kernel_rfl) ?_
  refine x_then ?_
  refine x_f (by kernel_rfl) ?_
  refine x_skipc ?_
  refine x_then ?_
  refine x_seq ?_
  refine x_seq ?_
  refine x_region ?_
  refine x_loadn (t := 142) H 4 g2 0 #[.slice aL nl cL, .slice aD nd cD, .slice aS nq cS, .int .i64 ((pn : Nat) : Int), .int .i64 ((rn : Nat) : Int)] 142 [.slice aL nl cL, .slice aD nd cD, .slice aS nq cS, .int .i64 ((pn : Nat) : Int), .int .i64 ((rn : Nat) : Int)] (by kernel_rfl) (by kernel_rfl) (by kernel_rfl) rfl (by kernel_rfl) (by kernel_rfl) ?_
  refine x_loadn (t := 69) H 5 g1 0 #[.int .i64 r, .int .i64 s, .int .i64 b, .int .i64 o, .int .i64 c, .int .i64 y, .int .i64 z] 69 [.int .i64 r, .int .i64 s, .int .i64 b, .int .i64 o, .int .i64 c, .int .i64 y, .int .i64 z] (by kernel_rfl) (by kernel_rfl) (by kernel_rfl) rfl (by kernel_rfl) (by kernel_rfl) ?_
  refine x_callB (.bool (fitsB nl sn nq r z s ((pn : Nat) : Int) ((rn : Nat) : Int))) H (by kernel_rfl) rfl (by kernel_rfl) (fits_any hL aL aD aS nl cL nd cD nq cS ((pn : Nat) : Int) ((rn : Nat) : Int) _) ?_
  clear H
  intro v4 H
  refine x_val (.bool (!(fitsB nl sn nq r z s ((pn : Nat) : Int) ((rn : Nat) : Int)))) (by kernel_rfl) rfl (by kernel_rfl) ?_
  refine x_nil ?_
  refine x_then ?_
  rw [hf]
  refine x_f (by kernel_rfl) ?_
  refine x_skipc ?_
  refine x_then ?_
  refine x_seq ?_
  refine x_region_s 12 (fun w' => Hs [] w0 w' [.row (.slice (some ⟨gl, 0, none⟩) sn cl) 3 1 sn (List.map (Value.int .i64) (iota sn)), .row (.slice (some ⟨gd, 0, none⟩) pg cd) 4 1 pg (List.map Value.bool (List.replicate pg false)), .row (.slice (some ⟨gs, 0, none⟩) ns cs) 3 1 ns (List.map (Value.int .i64) (List.replicate ns (-1))), .blk g2 #[.slice aL nl cL, .slice aD nd cD, .slice aS nq cS, .int .i64 ((pn : Nat) : Int), .int .i64 ((rn : Nat) : Int)] 142, .blk g1 #[.int .i64 r, .int .i64 s, .int .i64 b, .int .i64 o, .int .i64 c, .int .i64 y, .int .i64 z] 69]) (fun w' => Hs [] w0 w' [.blk p #[.int .i64 r, .int .i64 s, .int .i64 b, .int .i64 o, .int .i64 c, .int .i64 y, .int .i64 z, .slice (some ⟨gl, 0, none⟩) sn cl, .slice (some ⟨gd, 0, none⟩) pg cd, .slice (some ⟨gs, 0, none⟩) ns cs, .int .i64 ((0 : Nat) : Int), .int .i64 ((0 : Nat) : Int)] 181, .row (.slice (some ⟨gl, 0, none⟩) sn cl) 3 1 sn (List.map (Value.int .i64) (iota sn)), .row (.slice (some ⟨gd, 0, none⟩) pg cd) 4 1 pg (List.map Value.bool (List.replicate pg false)), .row (.slice (some ⟨gs, 0, none⟩) ns cs) 3 1 ns (List.map (Value.int .i64) (List.replicate ns (-1))), .blk g2 #[.slice aL nl cL, .slice aD nd cD, .slice aS nq cS, .int .i64 ((pn : Nat) : Int), .int .i64 ((rn : Nat) : Int)] 142, .blk g1 #[.int .i64 r, .int .i64 s, .int .i64 b, .int .i64 o, .int .i64 c, .int .i64 y, .int .i64 z] 69]) (by kernel_rfl) (by kernel_rfl) (by kernel_rfl) hsShut (fun _ h => h.pick [1, 2, 3, 4, 5] _ (by decide) (by kernel_rfl)) H.drew ?_
  refine s_quiet 0 rfl (by kernel_rfl) (y_val (.pointer (some ⟨p, 0, none⟩)) (by kernel_rfl) (fun _ => by kernel_rfl)) ?_
  refine s_quiet 1 rfl (by kernel_rfl) (y_val (.pointer (some ⟨p, 0, none⟩)) (by kernel_rfl) (fun _ => by kernel_rfl)) ?_
  refine s_quiet 2 rfl (by kernel_rfl) (y_val (.pointer (some ⟨g2, 3, none⟩)) (by kernel_rfl) (fun _ => by kernel_rfl)) ?_
  refine s_quiet 3 rfl (by kernel_rfl) (y_load1 3 g2 3 #[.slice aL nl cL, .slice aD nd cD, .slice aS nq cS, .int .i64 ((pn : Nat) : Int), .int .i64 ((rn : Nat) : Int)] 142 (.int .i64 ((pn : Nat) : Int)) (by kernel_rfl) (by kernel_rfl) (by kernel_rfl) (fun _ => by kernel_rfl)) ?_
  refine s_quiet 4 rfl (by kernel_rfl) (y_val (.pointer (some ⟨g2, 4, none⟩)) (by kernel_rfl) (fun _ => by kernel_rfl)) ?_
  refine s_quiet 5 rfl (by kernel_rfl) (y_load1 3 g2 4 #[.slice aL nl cL, .slice aD nd cD, .slice aS nq cS, .int .i64 ((pn : Nat) : Int), .int .i64 ((rn : Nat) : Int)] 142 (.int .i64 ((rn : Nat) : Int)) (by kernel_rfl) (by kernel_rfl) (by kernel_rfl) (fun _ => by kernel_rfl)) ?_
  refine s_quiet 6 rfl (by kernel_rfl) (y_val (.pointer (some ⟨p, 0, none⟩)) (by kernel_rfl) (fun _ => by kernel_rfl)) ?_
  refine s_quiet 7 rfl (by kernel_rfl) (y_val (.pointer (some ⟨p, 10, none⟩)) (by kernel_rfl) (fun _ => by kernel_rfl)) ?_
  refine s_one 8 rfl (by kernel_rfl) rfl ?_
  clear H
  intro v5 H
  refine x_store (t := 3) (v := .int .i64 ((pn : Nat) : Int)) H 0 p 10 #[.int .i64 r, .int .i64 s, .int .i64 b, .int .i64 o, .int .i64 c, .int .i64 y, .int .i64 z, .slice (some ⟨gl, 0, none⟩) sn cl, .slice (some ⟨gd, 0, none⟩) pg cd, .slice (some ⟨gs, 0, none⟩) ns cs, .int .i64 ((0 : Nat) : Int), .int .i64 ((0 : Nat) : Int)] #[.int .i64 r, .int .i64 s, .int .i64 b, .int .i64 o, .int .i64 c, .int .i64 y, .int .i64 z, .slice (some ⟨gl, 0, none⟩) sn cl, .slice (some ⟨gd, 0, none⟩) pg cd, .slice (some ⟨gs, 0, none⟩) ns cs, .int .i64 ((pn : Nat) : Int), .int .i64 ((0 : Nat) : Int)] 181 [.int .i64 ((pn : Nat) : Int)] [.blk p #[.int .i64 r, .int .i64 s, .int .i64 b, .int .i64 o, .int .i64 c, .int .i64 y, .int .i64 z, .slice (some ⟨gl, 0, none⟩) sn cl, .slice (some ⟨gd, 0, none⟩) pg cd, .slice (some ⟨gs, 0, none⟩) ns cs, .int .i64 ((pn : Nat) : Int), .int .i64 ((0 : Nat) : Int)] 181, .row (.slice (some ⟨gl, 0, none⟩) sn cl) 3 1 sn (List.map (Value.int .i64) (iota sn)), .row (.slice (some ⟨gd, 0, none⟩) pg cd) 4 1 pg (List.map Value.bool (List.replicate pg false)), .row (.slice (some ⟨gs, 0, none⟩) ns cs) 3 1 ns (List.map (Value.int .i64) (List.replicate ns (-1))), .blk g2 #[.slice aL nl cL, .slice aD nd cD, .slice aS nq cS, .int .i64 ((pn : Nat) : Int), .int .i64 ((rn : Nat) : Int)] 142, .blk g1 #[.int .i64 r, .int .i64 s, .int .i64 b, .int .i64 o, .int .i64 c, .int .i64 y, .int .i64 z] 69] (by kernel_rfl) rfl (by kernel_rfl) (by kernel_rfl) (by kernel_rfl) (by kernel_rfl) (by kernel_rfl) (by kernel_rfl) (by kernel_rfl) (by kernel_rfl) ?_
  clear H
  intro v6 H
  refine x_nil ?_
  refine x_then ?_
  refine ⟨fun w' => Hs [] w0 w' [.row (.slice (some ⟨gl, 0, none⟩) sn cl) 3 1 sn (List.map (Value.int .i64) (iota sn)), .row (.slice (some ⟨gd, 0, none⟩) pg cd) 4 1 pg (List.map Value.bool (List.replicate pg false)), .row (.slice (some ⟨gs, 0, none⟩) ns cs) 3 1 ns (List.map (Value.int .i64) (List.replicate ns (-1))), .blk g2 #[.slice aL nl cL, .slice aD nd cD, .slice aS nq cS, .int .i64 ((pn : Nat) : Int), .int .i64 ((rn : Nat) : Int)] 142, .blk g1 #[.int .i64 r, .int .i64 s, .int .i64 b, .int .i64 o, .int .i64 c, .int .i64 y, .int .i64 z] 69], fun w' => Hs [] w0 w' [.blk p #[.int .i64 r, .int .i64 s, .int .i64 b, .int .i64 o, .int .i64 c, .int .i64 y, .int .i64 z, .slice (some ⟨gl, 0, none⟩) sn cl, .slice (some ⟨gd, 0, none⟩) pg cd, .slice (some ⟨gs, 0, none⟩) ns cs, .int .i64 ((pn : Nat) : Int), .int .i64 ((0 : Nat) : Int)] 181, .row (.slice (some ⟨gl, 0, none⟩) sn cl) 3 1 sn (List.map (Value.int .i64) (iota sn)), .row (.slice (some ⟨gd, 0, none⟩) pg cd) 4 1 pg (List.map Value.bool (List.replicate pg false)), .row (.slice (some ⟨gs, 0, none⟩) ns cs) 3 1 ns (List.map (Value.int .i64) (List.replicate ns (-1))), .blk g2 #[.slice aL nl cL, .slice aD nd cD, .slice aS nq cS, .int .i64 ((pn : Nat) : Int), .int .i64 ((rn : Nat) : Int)] 142, .blk g1 #[.int .i64 r, .int .i64 s, .int .i64 b, .int .i64 o, .int .i64 c, .int .i64 y, .int .i64 z] 69], H, hsShut, fun _ h => h.pick [1, 2, 3, 4, 5] _ (by decide) (by kernel_rfl), fun _ h => h.pick [0, 1, 2, 3, 4] _ (by decide) (by kernel_rfl), ?_⟩
  refine s_quiet 9 rfl (by kernel_rfl) (y_val (.pointer (some ⟨p, 0, none⟩)) (by kernel_rfl) (fun _ => by kernel_rfl)) ?_
  refine s_quiet 10 rfl (by kernel_rfl) (y_val (.pointer (some ⟨p, 11, none⟩)) (by kernel_rfl) (fun _ => by kernel_rfl)) ?_
  refine s_one 11 rfl (by kernel_rfl) rfl ?_
  clear H
  intro v7 H
  refine x_store (t := 3) (v := .int .i64 ((rn : Nat) : Int)) H 0 p 11 #[.int .i64 r, .int .i64 s, .int .i64 b, .int .i64 o, .int .i64 c, .int .i64 y, .int .i64 z, .slice (some ⟨gl, 0, none⟩) sn cl, .slice (some ⟨gd, 0, none⟩) pg cd, .slice (some ⟨gs, 0, none⟩) ns cs, .int .i64 ((pn : Nat) : Int), .int .i64 ((0 : Nat) : Int)] #[.int .i64 r, .int .i64 s, .int .i64 b, .int .i64 o, .int .i64 c, .int .i64 y, .int .i64 z, .slice (some ⟨gl, 0, none⟩) sn cl, .slice (some ⟨gd, 0, none⟩) pg cd, .slice (some ⟨gs, 0, none⟩) ns cs, .int .i64 ((pn : Nat) : Int), .int .i64 ((rn : Nat) : Int)] 181 [.int .i64 ((rn : Nat) : Int)] [.blk p #[.int .i64 r, .int .i64 s, .int .i64 b, .int .i64 o, .int .i64 c, .int .i64 y, .int .i64 z, .slice (some ⟨gl, 0, none⟩) sn cl, .slice (some ⟨gd, 0, none⟩) pg cd, .slice (some ⟨gs, 0, none⟩) ns cs, .int .i64 ((pn : Nat) : Int), .int .i64 ((rn : Nat) : Int)] 181, .row (.slice (some ⟨gl, 0, none⟩) sn cl) 3 1 sn (List.map (Value.int .i64) (iota sn)), .row (.slice (some ⟨gd, 0, none⟩) pg cd) 4 1 pg (List.map Value.bool (List.replicate pg false)), .row (.slice (some ⟨gs, 0, none⟩) ns cs) 3 1 ns (List.map (Value.int .i64) (List.replicate ns (-1))), .blk g2 #[.slice aL nl cL, .slice aD nd cD, .slice aS nq cS, .int .i64 ((pn : Nat) : Int), .int .i64 ((rn : Nat) : Int)] 142, .blk g1 #[.int .i64 r, .int .i64 s, .int .i64 b, .int .i64 o, .int .i64 c, .int .i64 y, .int .i64 z] 69] (by kernel_rfl) rfl (by kernel_rfl) (by kernel_rfl) (by kernel_rfl) (by kernel_rfl) (by kernel_rfl) (by kernel_rfl) (by kernel_rfl) (by kernel_rfl) ?_
  clear H
  intro v8 H
  refine x_nil ?_
  refine x_then ?_
  refine ⟨fun w' => Hs [] w0 w' [.blk p #[.int .i64 r, .int .i64 s, .int .i64 b, .int .i64 o, .int .i64 c, .int .i64 y, .int .i64 z, .slice (some ⟨gl, 0, none⟩) sn cl, .slice (some ⟨gd, 0, none⟩) pg cd, .slice (some ⟨gs, 0, none⟩) ns cs, .int .i64 ((pn : Nat) : Int), .int .i64 ((rn : Nat) : Int)] 181, .row (.slice (some ⟨gl, 0, none⟩) sn cl) 3 1 sn (List.map (Value.int .i64) (iota sn)), .row (.slice (some ⟨gd, 0, none⟩) pg cd) 4 1 pg (List.map Value.bool (List.replicate pg false)), .row (.slice (some ⟨gs, 0, none⟩) ns cs) 3 1 ns (List.map (Value.int .i64) (List.replicate ns (-1))), .blk g2 #[.slice aL nl cL, .slice aD nd cD, .slice aS nq cS, .int .i64 ((pn : Nat) : Int), .int .i64 ((rn : Nat) : Int)] 142, .blk g1 #[.int .i64 r, .int .i64 s, .int .i64 b, .int .i64 o, .int .i64 c, .int .i64 y, .int .i64 z] 69], fun w' => Hs [] w0 w' [.blk p #[.int .i64 r, .int .i64 s, .int .i64 b, .int .i64 o, .int .i64 c, .int .i64 y, .int .i64 z, .slice (some ⟨gl, 0, none⟩) sn cl, .slice (some ⟨gd, 0, none⟩) pg cd, .slice (some ⟨gs, 0, none⟩) ns cs, .int .i64 ((pn : Nat) : Int), .int .i64 ((rn : Nat) : Int)] 181, .row (.slice (some ⟨gl, 0, none⟩) sn cl) 3 1 sn (List.map (Value.int .i64) (iota sn)), .row (.slice (some ⟨gd, 0, none⟩) pg cd) 4 1 pg (List.map Value.bool (List.replicate pg false)), .row (.slice (some ⟨gs, 0, none⟩) ns cs) 3 1 ns (List.map (Value.int .i64) (List.replicate ns (-1))), .blk g2 #[.slice aL nl cL, .slice aD nd cD, .slice aS nq cS, .int .i64 ((pn : Nat) : Int), .int .i64 ((rn : Nat) : Int)] 142, .blk g1 #[.int .i64 r, .int .i64 s, .int .i64 b, .int .i64 o, .int .i64 c, .int .i64 y, .int .i64 z] 69], H, hsShut, fun _ h => h.pick [0, 1, 2, 3, 4, 5] _ (by decide) (by kernel_rfl), fun _ h => h.pick [1, 2, 3, 4, 5] _ (by decide) (by kernel_rfl), ?_⟩
  refine s_done (by kernel_rfl) ?_
  clear H
  intro v9 H
  refine x_frame' { tmps := #[.agg #[.int .i64 r, .int .i64 s, .int .i64 b, .int .i64 o, .int .i64 c, .int .i64 y, .int .i64 z], .agg #[.slice aL nl cL, .slice aD nd cD, .slice aS nq cS, .int .i64 ((pn : Nat) : Int), .int .i64 ((rn : Nat) : Int)], .pointer (some ⟨g1, 0, none⟩), .pointer (some ⟨g2, 0, none⟩), .pointer none, .int .i64 0, .pointer (some ⟨p, 0, none⟩), .int .i64 0, .tuple #[.pointer (some ⟨p, 0, none⟩), .int .i64 0], .agg #[.int .i64 r, .int .i64 s, .int .i64 b, .int .i64 o, .int .i64 c, .int .i64 y, .int .i64 z], .tuple #[.pointer (some ⟨p, 0, none⟩), .int .i64 0], .pointer (some ⟨p, 0, none⟩), .int .i64 0, .int .i64 0, .bool false, undef, .agg #[.slice aL nl cL, .slice aD nd cD, .slice aS nq cS, .int .i64 ((pn : Nat) : Int), .int .i64 ((rn : Nat) : Int)], .agg #[.int .i64 r, .int .i64 s, .int .i64 b, .int .i64 o, .int .i64 c, .int .i64 y, .int .i64 z], .bool true, .bool false, .pointer (some ⟨p, 0, none⟩), .pointer (some ⟨p, 0, none⟩), .pointer (some ⟨g2, 3, none⟩), .int .i64 ((pn : Nat) : Int), .pointer (some ⟨g2, 4, none⟩), .int .i64 ((rn : Nat) : Int), .pointer (some ⟨p, 0, none⟩), .pointer (some ⟨p, 10, none⟩), .pointer (some ⟨p, 0, none⟩), .pointer (some ⟨p, 11, none⟩), undef, undef, undef, undef, undef, undef, undef, undef, undef, undef, undef, undef, undef, undef, undef, undef, undef, undef, undef, undef], defers := [] } (by kernel_rfl) ?_
  refine x_then ?_
  refine x_seq ?_
  refine x_seq ?_
  refine x_region ?_
  refine x_val (.pointer (some ⟨p, 0, none⟩)) (by kernel_rfl) rfl (by kernel_rfl) ?_
  refine x_val (.pointer (some ⟨g2, 1, none⟩)) (by kernel_rfl) rfl (by kernel_rfl) ?_
  refine x_load1 H 4 g2 1 #[.slice aL nl cL, .slice aD nd cD, .slice aS nq cS, .int .i64 ((pn : Nat) : Int), .int .i64 ((rn : Nat) : Int)] 142 (.slice aD nd cD) (by kernel_rfl) (by kernel_rfl) (by kernel_rfl) rfl (by kernel_rfl) ?_
  refine x_callH (.bool true) [.blk p #[.int .i64 r, .int .i64 s, .int .i64 b, .int .i64 o, .int .i64 c, .int .i64 y, .int .i64 z, .slice (some ⟨gl, 0, none⟩) sn cl, .slice (some ⟨gd, 0, none⟩) pg cd, .slice (some ⟨gs, 0, none⟩) ns cs, .int .i64 ((pn : Nat) : Int), .int .i64 ((rn : Nat) : Int)] 181, .row (.slice (some ⟨gl, 0, none⟩) sn cl) 3 1 sn (List.map (Value.int .i64) (iota sn)), .row (.slice (some ⟨gd, 0, none⟩) pg cd) 4 1 pg (List.map Value.bool (marks pg lD nd)), .row (.slice (some ⟨gs, 0, none⟩) ns cs) 3 1 ns (List.map (Value.int .i64) (List.replicate ns (-1))), .blk g2 #[.slice aL nl cL, .slice aD nd cD, .slice aS nq cS, .int .i64 ((pn : Nat) : Int), .int .i64 ((rn : Nat) : Int)] 142, .blk g1 #[.int .i64 r, .int .i64 s, .int .i64 b, .int .i64 o, .int .i64 c, .int .i64 y, .int .i64 z] 69] (by kernel_rfl) rfl (by kernel_rfl) (Hs.use (A := [.blk p #[.int .i64 r, .int .i64 s, .int .i64 b, .int .i64 o, .int .i64 c, .int .i64 y, .int .i64 z, .slice (some ⟨gl, 0, none⟩) sn cl, .slice (some ⟨gd, 0, none⟩) pg cd, .slice (some ⟨gs, 0, none⟩) ns cs, .int .i64 ((pn : Nat) : Int), .int .i64 ((rn : Nat) : Int)] 181, .row (.slice (some ⟨gl, 0, none⟩) sn cl) 3 1 sn (List.map (Value.int .i64) (iota sn)), .row (.slice (some ⟨gd, 0, none⟩) pg cd) 4 1 pg (List.map Value.bool (List.replicate pg false)), .row (.slice (some ⟨gs, 0, none⟩) ns cs) 3 1 ns (List.map (Value.int .i64) (List.replicate ns (-1)))]) (R := [.blk g2 #[.slice aL nl cL, .slice aD nd cD, .slice aS nq cS, .int .i64 ((pn : Nat) : Int), .int .i64 ((rn : Nat) : Int)] 142, .blk g1 #[.int .i64 r, .int .i64 s, .int .i64 b, .int .i64 o, .int .i64 c, .int .i64 y, .int .i64 z] 69]) (H.pick [0, 1, 2, 3, 4, 5] _ (by decide) (by kernel_rfl)) (fun h => bury_yes hL hM0 aD nd cD lD (by omega) h1 _ (hID.held H [0, 1, 2, 3] _ (by kernel_rfl)) h)) ?_
  clear H
  intro v10 H
  refine x_val (.bool false) (by kernel_rfl) rfl (by kernel_rfl) ?_
  refine x_val (.bool false) (by kernel_rfl) rfl (by kernel_rfl) ?_
  refine x_val (.pointer (some ⟨p, 0, none⟩)) (by kernel_rfl) rfl (by kernel_rfl) ?_
  refine x_val (.pointer (some ⟨g2, 0, none⟩)) (by kernel_rfl) rfl (by kernel_rfl) ?_
  refine x_load1 H 4 g2 0 #[.slice aL nl cL, .slice aD nd cD, .slice aS nq cS, .int .i64 ((pn : Nat) : Int), .int .i64 ((rn : Nat) : Int)] 142 (.slice aL nl cL) (by kernel_rfl) (by kernel_rfl) (by kernel_rfl) rfl (by kernel_rfl) ?_
  refine x_callH (.bool true) [.blk p #[.int .i64 r, .int .i64 s, .int .i64 b, .int .i64 o, .int .i64 c, .int .i64 y, .int .i64 z, .slice (some ⟨gl, 0, none⟩) sn cl, .slice (some ⟨gd, 0, none⟩) pg cd, .slice (some ⟨gs, 0, none⟩) ns cs, .int .i64 ((pn : Nat) : Int), .int .i64 ((rn : Nat) : Int)] 181, .row (.slice (some ⟨gl, 0, none⟩) sn cl) 3 1 sn (List.map (Value.int .i64) (setsL lL (iota sn) nl)), .row (.slice (some ⟨gd, 0, none⟩) pg cd) 4 1 pg (List.map Value.bool (marks pg lD nd)), .row (.slice (some ⟨gs, 0, none⟩) ns cs) 3 1 ns (List.map (Value.int .i64) (List.replicate ns (-1))), .blk g2 #[.slice aL nl cL, .slice aD nd cD, .slice aS nq cS, .int .i64 ((pn : Nat) : Int), .int .i64 ((rn : Nat) : Int)] 142, .blk g1 #[.int .i64 r, .int .i64 s, .int .i64 b, .int .i64 o, .int .i64 c, .int .i64 y, .int .i64 z] 69] (by kernel_rfl) rfl (by kernel_rfl) (Hs.use (A := [.blk p #[.int .i64 r, .int .i64 s, .int .i64 b, .int .i64 o, .int .i64 c, .int .i64 y, .int .i64 z, .slice (some ⟨gl, 0, none⟩) sn cl, .slice (some ⟨gd, 0, none⟩) pg cd, .slice (some ⟨gs, 0, none⟩) ns cs, .int .i64 ((pn : Nat) : Int), .int .i64 ((rn : Nat) : Int)] 181, .row (.slice (some ⟨gl, 0, none⟩) sn cl) 3 1 sn (List.map (Value.int .i64) (iota sn)), .row (.slice (some ⟨gd, 0, none⟩) pg cd) 4 1 pg (List.map Value.bool (marks pg lD nd)), .row (.slice (some ⟨gs, 0, none⟩) ns cs) 3 1 ns (List.map (Value.int .i64) (List.replicate ns (-1)))]) (R := [.blk g2 #[.slice aL nl cL, .slice aD nd cD, .slice aS nq cS, .int .i64 ((pn : Nat) : Int), .int .i64 ((rn : Nat) : Int)] 142, .blk g1 #[.int .i64 r, .int .i64 s, .int .i64 b, .int .i64 o, .int .i64 c, .int .i64 y, .int .i64 z] 69]) (H.pick [0, 1, 2, 3, 4, 5] _ (by decide) (by kernel_rfl)) (fun h => settle_yes hL hM1 aL nl cL lL (by omega) h2 _ (hIL.held H [0, 1, 2, 3] _ (by kernel_rfl)) h)) ?_
  clear H
  intro v11 H
  refine x_val (.bool false) (by kernel_rfl) rfl (by kernel_rfl) ?_
  refine x_val (.bool false) (by kernel_rfl) rfl (by kernel_rfl) ?_
  refine x_val (.bool false) (by kernel_rfl) rfl (by kernel_rfl) ?_
  refine x_val (.pointer (some ⟨p, 0, none⟩)) (by kernel_rfl) rfl (by kernel_rfl) ?_
  refine x_val (.pointer (some ⟨g2, 2, none⟩)) (by kernel_rfl) rfl (by kernel_rfl) ?_
  refine x_load1 H 4 g2 2 #[.slice aL nl cL, .slice aD nd cD, .slice aS nq cS, .int .i64 ((pn : Nat) : Int), .int .i64 ((rn : Nat) : Int)] 142 (.slice aS nq cS) (by kernel_rfl) (by kernel_rfl) (by kernel_rfl) rfl (by kernel_rfl) ?_
  refine x_callH (.bool true) [.blk p #[.int .i64 r, .int .i64 s, .int .i64 b, .int .i64 o, .int .i64 c, .int .i64 y, .int .i64 z, .slice (some ⟨gl, 0, none⟩) sn cl, .slice (some ⟨gd, 0, none⟩) pg cd, .slice (some ⟨gs, 0, none⟩) ns cs, .int .i64 ((pn : Nat) : Int), .int .i64 ((rn : Nat) : Int)] 181, .row (.slice (some ⟨gl, 0, none⟩) sn cl) 3 1 sn (List.map (Value.int .i64) (setsL lL (iota sn) nl)), .row (.slice (some ⟨gd, 0, none⟩) pg cd) 4 1 pg (List.map Value.bool (marks pg lD nd)), .row (.slice (some ⟨gs, 0, none⟩) ns cs) 3 1 ns (List.map (Value.int .i64) (standL lS (List.replicate ns (-1)) nq)), .blk g2 #[.slice aL nl cL, .slice aD nd cD, .slice aS nq cS, .int .i64 ((pn : Nat) : Int), .int .i64 ((rn : Nat) : Int)] 142, .blk g1 #[.int .i64 r, .int .i64 s, .int .i64 b, .int .i64 o, .int .i64 c, .int .i64 y, .int .i64 z] 69] (by kernel_rfl) rfl (by kernel_rfl) (Hs.use (A := [.blk p #[.int .i64 r, .int .i64 s, .int .i64 b, .int .i64 o, .int .i64 c, .int .i64 y, .int .i64 z, .slice (some ⟨gl, 0, none⟩) sn cl, .slice (some ⟨gd, 0, none⟩) pg cd, .slice (some ⟨gs, 0, none⟩) ns cs, .int .i64 ((pn : Nat) : Int), .int .i64 ((rn : Nat) : Int)] 181, .row (.slice (some ⟨gl, 0, none⟩) sn cl) 3 1 sn (List.map (Value.int .i64) (setsL lL (iota sn) nl)), .row (.slice (some ⟨gd, 0, none⟩) pg cd) 4 1 pg (List.map Value.bool (marks pg lD nd)), .row (.slice (some ⟨gs, 0, none⟩) ns cs) 3 1 ns (List.map (Value.int .i64) (List.replicate ns (-1)))]) (R := [.blk g2 #[.slice aL nl cL, .slice aD nd cD, .slice aS nq cS, .int .i64 ((pn : Nat) : Int), .int .i64 ((rn : Nat) : Int)] 142, .blk g1 #[.int .i64 r, .int .i64 s, .int .i64 b, .int .i64 o, .int .i64 c, .int .i64 y, .int .i64 z] 69]) (H.pick [0, 1, 2, 3, 4, 5] _ (by decide) (by kernel_rfl)) (fun h => stand_yes hL hM2 aS nq cS lS (by omega) hxS h3 _ (hIS.held H [0, 1, 2, 3] _ (by kernel_rfl)) h)) ?_
  clear H
  intro v12 H
  refine x_val (.bool false) (by kernel_rfl) rfl (by kernel_rfl) ?_
  refine x_val (.bool false) (by kernel_rfl) rfl (by kernel_rfl) ?_
  refine x_nil ?_
  refine x_frame' { tmps := #[.agg #[.int .i64 r, .int .i64 s, .int .i64 b, .int .i64 o, .int .i64 c, .int .i64 y, .int .i64 z], .agg #[.slice aL nl cL, .slice aD nd cD, .slice aS nq cS, .int .i64 ((pn : Nat) : Int), .int .i64 ((rn : Nat) : Int)], .pointer (some ⟨g1, 0, none⟩), .pointer (some ⟨g2, 0, none⟩), .pointer none, .int .i64 0, .pointer (some ⟨p, 0, none⟩), .int .i64 0, .tuple #[.pointer (some ⟨p, 0, none⟩), .int .i64 0], .agg #[.int .i64 r, .int .i64 s, .int .i64 b, .int .i64 o, .int .i64 c, .int .i64 y, .int .i64 z], .tuple #[.pointer (some ⟨p, 0, none⟩), .int .i64 0], .pointer (some ⟨p, 0, none⟩), .int .i64 0, .int .i64 0, .bool false, undef, .agg #[.slice aL nl cL, .slice aD nd cD, .slice aS nq cS, .int .i64 ((pn : Nat) : Int), .int .i64 ((rn : Nat) : Int)], .agg #[.int .i64 r, .int .i64 s, .int .i64 b, .int .i64 o, .int .i64 c, .int .i64 y, .int .i64 z], .bool true, .bool false, .pointer (some ⟨p, 0, none⟩), .pointer (some ⟨p, 0, none⟩), .pointer (some ⟨g2, 3, none⟩), .int .i64 ((pn : Nat) : Int), .pointer (some ⟨g2, 4, none⟩), .int .i64 ((rn : Nat) : Int), .pointer (some ⟨p, 0, none⟩), .pointer (some ⟨p, 10, none⟩), .pointer (some ⟨p, 0, none⟩), .pointer (some ⟨p, 11, none⟩), .pointer (some ⟨p, 0, none⟩), .pointer (some ⟨g2, 1, none⟩), .slice aD nd cD, .bool true, .bool false, .bool false, .pointer (some ⟨p, 0, none⟩), .pointer (some ⟨g2, 0, none⟩), .slice aL nl cL, .bool true, .bool false, .bool false, .bool false, .pointer (some ⟨p, 0, none⟩), .pointer (some ⟨g2, 2, none⟩), .slice aS nq cS, .bool true, .bool false, .bool false, undef], defers := [] } (by kernel_rfl) ?_
  refine x_then ?_
  refine x_f (by kernel_rfl) ?_
  refine x_skipc ?_
  refine x_then ?_
  refine x_seq ?_
  refine x_region ?_
  refine x_val (.pointer (some ⟨p, 0, none⟩)) (by kernel_rfl) rfl (by kernel_rfl) ?_
  refine x_val (.pointer (some ⟨p, 0, none⟩)) (by kernel_rfl) rfl (by kernel_rfl) ?_
  refine x_val (.int .i64 0) (by kernel_rfl) rfl (by kernel_rfl) ?_
  refine x_nil ?_
  refine x_then ?_
  refine x_retc ?_
  refine x_ret (.tuple #[.pointer (some ⟨p, 0, none⟩), .int .i64 0]) (by kernel_rfl) (by kernel_rfl) ?_
  exact ⟨_, _, _, _, _, _, _, rfl, H.pick [0, 1, 2, 3] _ (by decide) rfl⟩

set_option maxRecDepth 100000 in
set_option maxHeartbeats 4000000 in
theorem Restore_bad {r s b o c y z : Int} {pg sn ns : Nat} (hL : Lay r s b o c y z pg sn ns) (aL aD aS : Option Addr) (nl cL nd cD nq cS : Nat) {pn rn : Nat} (lL lD lS : List Int) (hxS : ∀ i, i < nq → -9223372036854775808 ≤ lS.getD i 0 ∧ lS.getD i 0 ≤ 9223372036854775807) (hnd : nd ≤ 9223372036854775807) (hf : fitsB nl sn nq r z s ((pn : Nat) : Int) ((rn : Nat) : Int) = true) (hbad : ((okD pg lD nd && okS (((sn : Nat) : Int) + ((pn : Nat) : Int)) (marks pg lD nd) lL nl) && okT r ((rn : Nat) : Int) lS nq) = false) (w0 : World) (hIL : IntsAt w0 aL nl lL) (hID : IntsAt w0 aD nd lD) (hIS : IntsAt w0 aS nq lS) :
    Calls Try.prog 75 #[.agg #[.int .i64 r, .int .i64 s, .int .i64 b, .int .i64 o, .int .i64 c, .int .i64 y, .int .i64 z], .agg #[.slice aL nl cL, .slice aD nd cD, .slice aS nq cS, .int .i64 ((pn : Nat) : Int), .int .i64 ((rn : Nat) : Int)]] w0 fun e w' => e = .returned (.tuple #[.pointer none, .int .i64 10]) ∧ Below w0.heap.size w0 w' := by
  refine x_enter Try.func75 rfl #[.agg #[.int .i64 r, .int .i64 s, .int .i64 b, .int .i64 o, .int .i64 c, .int .i64 y, .int .i64 z], .agg #[.slice aL nl cL, .slice aD nd cD, .slice aS nq cS, .int .i64 ((pn : Nat) : Int), .int .i64 ((rn : Nat) : Int)], undef, undef, undef, undef, undef, undef, undef, undef, undef, undef, undef, undef, undef, undef, undef, undef, undef, undef, undef, undef, undef, undef, undef, undef, undef, undef, undef, undef, undef, undef, undef, undef, undef, undef, undef, undef, undef, undef, undef, undef, undef, undef, undef, undef, undef, undef, undef, undef] (by kernel_rfl) ?_
  have H := Hs.nil w0
  have hok := hL.ok
  obtain ⟨-, r1, r8, s0, s8, b1, b2, o1, o2, c1, c2, y0, y4, z0, z2, hpg, hsn, hns, sn1, pg2, ln0, ln2⟩ := id hL
  have r1' := r1
  obtain ⟨f1, f2, ⟨f3, f4⟩, f5, f6⟩ := fitsB_parts hf
  have hM0 : MapOk z s sn pg ns (iota sn) (List.replicate pg false) (List.replicate ns (-1)) pn rn := ⟨iota_len sn, List.length_replicate, List.length_replicate, by omega, by omega⟩
  have hM1 : MapOk z s sn pg ns (iota sn) (marks pg lD nd) (List.replicate ns (-1)) pn rn := ⟨iota_len sn, marks_len _ _ _, List.length_replicate, by omega, by omega⟩
  have hM2 : MapOk z s sn pg ns (setsL lL (iota sn) nl) (marks pg lD nd) (List.replicate ns (-1)) pn rn := ⟨by rw [setsL_len]; exact iota_len sn, marks_len _ _ _, List.length_replicate, by omega, by omega⟩
  refine x_seq ?_
  refine x_region ?_
  refine x_box H #[.int .i64 r, .int .i64 s, .int .i64 b, .int .i64 o, .int .i64 c, .int .i64 y, .int .i64 z] 69 (by kernel_rfl) rfl (by kernel_rfl) ?_
  clear H
  intro v1 g1 H
  refine x_box H #[.slice aL nl cL, .slice aD nd cD, .slice aS nq cS, .int .i64 ((pn : Nat) : Int), .int .i64 ((rn : Nat) : Int)] 142 (by kernel_rfl) rfl (by kernel_rfl) ?_
  clear H
  intro v2 g2 H
  refine x_val (.pointer none) (by kernel_rfl) rfl (by kernel_rfl) ?_
  refine x_val (.int .i64 0) (by kernel_rfl) rfl (by kernel_rfl) ?_
  refine x_nil ?_
  refine x_then ?_
  refine x_seq ?_
  refine x_region ?_
  refine x_loadn (t := 69) H 1 g1 0 #[.int .i64 r, .int .i64 s, .int .i64 b, .int .i64 o, .int .i64 c, .int .i64 y, .int .i64 z] 69 [.int .i64 r, .int .i64 s, .int .i64 b, .int .i64 o, .int .i64 c, .int .i64 y, .int .i64 z] (by kernel_rfl) (by kernel_rfl) (by kernel_rfl) rfl (by kernel_rfl) (by kernel_rfl) ?_
  refine x_call (by kernel_rfl) rfl (by kernel_rfl) (New_yes hL _) ?_
  rintro _ v3 ⟨p, gl, cl, gd, cd, gs, cs, rfl, hN'⟩
  refine ⟨_, rfl, ?_⟩
  replace H := H.more hN'
  clear hN'
  replace H : Hs [] w0 _ [.blk p #[.int .i64 r, .int .i64 s, .int .i64 b, .int .i64 o, .int .i64 c, .int .i64 y, .int .i64 z, .slice (some ⟨gl, 0, none⟩) sn cl, .slice (some ⟨gd, 0, none⟩) pg cd, .slice (some ⟨gs, 0, none⟩) ns cs, .int .i64 ((0 : Nat) : Int), .int .i64 ((0 : Nat) : Int)] 181, .row (.slice (some ⟨gl, 0, none⟩) sn cl) 3 1 sn (List.map (Value.int .i64) (iota sn)), .row (.slice (some ⟨gd, 0, none⟩) pg cd) 4 1 pg (List.map Value.bool (List.replicate pg false)), .row (.slice (some ⟨gs, 0, none⟩) ns cs) 3 1 ns (List.map (Value.int .i64) (List.replicate ns (-1))), .blk g2 #[.slice aL nl cL, .slice aD nd cD, .slice aS nq cS, .int .i64 ((pn : Nat) : Int), .int .i64 ((rn : Nat) : Int)] 142, .blk g1 #[.int .i64 r, .int .i64 s, .int .i64 b, .int .i64 o, .int .i64 c, .int .i64 y, .int .i64 z] 69] := H
  refine x_val (.tuple #[.pointer (some ⟨p, 0, none⟩), .int .i64 0]) (by kernel_rfl) rfl (by kernel_rfl) ?_
  refine x_val (.pointer (some ⟨p, 0, none⟩)) (by kernel_rfl) rfl (by kernel_rfl) ?_
  refine x_val (.int .i64 0) (by kernel_rfl) rfl (by kernel_rfl) ?_
  refine x_val (.pointer (some ⟨p, 0, none⟩)) (by kernel_rfl) rfl (by kernel_rfl) ?_
  refine x_val (.int .i64 0) (by kernel_rfl) rfl (by kernel_rfl) ?_
  refine x_nil ?_
  refine x_then ?_
  refine x_seq ?_
  refine x_seq ?_
  refine x_region ?_
  refine x_val (.int .i64 0) (by kernel_rfl) rfl (by kernel_rfl) ?_
  refine x_val (.bool false) (by kernel_rfl) rfl (by kernel_rfl) ?_
  refine x_nil ?_
  refine x_frame' { tmps := #[.agg #[.int .i64 r, .int .i64 s, .int .i64 b, .int .i64 o, .int .i64 c, .int .i64 y, .int .i64 z], .agg #[.slice aL nl cL, .slice aD nd cD, .slice aS nq cS, .int .i64 ((pn : Nat) : Int), .int .i64 ((rn : Nat) : Int)], .pointer (some ⟨g1, 0, none⟩), .pointer (some ⟨g2, 0, none⟩), .pointer none, .int .i64 0, .pointer (some ⟨p, 0, none⟩), .int .i64 0, .tuple #[.pointer (some ⟨p, 0, none⟩), .int .i64 0], .agg #[.int .i64 r, .int .i64 s, .int .i64 b, .int .i64 o, .int .i64 c, .int .i64 y, .int .i64 z], .tuple #[.pointer (some ⟨p, 0, none⟩), .int .i64 0], .pointer (some ⟨p, 0, none⟩), .int .i64 0, .int .i64 0, .bool false, undef, undef, undef, undef, undef, undef, undef, undef, undef, undef, undef, undef, undef, undef, undef, undef, undef, undef, undef, undef, undef, undef, undef, undef, undef, undef, undef, undef, undef, undef, undef, undef, undef, undef, undef], defers := [] } (by kernel_rfl) ?_
  refine x_then ?_
  refine x_f (by kernel_rfl) ?_
  refine x_skipc ?_
  refine x_then ?_
  refine x_seq ?_
  refine x_seq ?_
  refine x_region ?_
  refine x_loadn (t := 142) H 4 g2 0 #[.slice aL nl cL, .slice aD nd cD, .slice aS nq cS, .int .i64 ((pn : Nat) : Int), .int .i64 ((rn : Nat) : Int)] 142 [.slice aL nl cL, .slice aD nd cD, .slice aS nq cS, .int .i64 ((pn : Nat) : Int), .int .i64 ((rn : Nat) : Int)] (by kernel_rfl) (by kernel_rfl) (by kernel_rfl) rfl (by kernel_rfl) (by kernel_rfl) ?_
  refine x_loadn (t := 69) H 5 g1 0 #[.int .i64 r, .int .i64 s, .int .i64 b, .int .i64 o, .int .i64 c, .int .i64 y, .int .i64 z] 69 [.int .i64 r, .int .i64 s, .int .i64 b, .int .i64 o, .int .i64 c, .int .i64 y, .int .i64 z] (by kernel_rfl) (by kernel_rfl) (by kernel_rfl) rfl (by kernel_rfl) (by kernel_rfl) ?_
  refine x_callB (.bool (fitsB nl sn nq r z s ((pn : Nat) : Int) ((rn : Nat) : Int))) H (by kernel_rfl) rfl (by kernel_rfl) (fits_any hL aL aD aS nl cL nd cD nq cS ((pn : Nat) : Int) ((rn : Nat) : Int) _) ?_
  clear H
  intro v4 H
  refine x_val (.bool (!(fitsB nl sn nq r z s ((pn : Nat) : Int) ((rn : Nat) : Int)))) (by kernel_rfl) rfl (by kernel_rfl) ?_
  refine x_nil ?_
  refine x_then ?_
  rw [hf]
  refine x_f (by kernel_rfl) ?_
  refine x_skipc ?_
  refine x_then ?_
  refine x_seq ?_
  refine x_region_s 12 (fun w' => Hs [] w0 w' [.row (.slice (some ⟨gl, 0, none⟩) sn cl) 3 1 sn (List.map (Value.int .i64) (iota sn)), .row (.slice (some ⟨gd, 0, none⟩) pg cd) 4 1 pg (List.map Value.bool (List.replicate pg false)), .row (.slice (some ⟨gs, 0, none⟩) ns cs) 3 1 ns (List.map (Value.int .i64) (List.replicate ns (-1))), .blk g2 #[.slice aL nl cL, .slice aD nd cD, .slice aS nq cS, .int .i64 ((pn : Nat) : Int), .int .i64 ((rn : Nat) : Int)] 142, .blk g1 #[.int .i64 r, .int .i64 s, .int .i64 b, .int .i64 o, .int .i64 c, .int .i64 y, .int .i64 z] 69]) (fun w' => Hs [] w0 w' [.blk p #[.int .i64 r, .int .i64 s, .int .i64 b, .int .i64 o, .int .i64 c, .int .i64 y, .int .i64 z, .slice (some ⟨gl, 0, none⟩) sn cl, .slice (some ⟨gd, 0, none⟩) pg cd, .slice (some ⟨gs, 0, none⟩) ns cs, .int .i64 ((0 : Nat) : Int), .int .i64 ((0 : Nat) : Int)] 181, .row (.slice (some ⟨gl, 0, none⟩) sn cl) 3 1 sn (List.map (Value.int .i64) (iota sn)), .row (.slice (some ⟨gd, 0, none⟩) pg cd) 4 1 pg (List.map Value.bool (List.replicate pg false)), .row (.slice (some ⟨gs, 0, none⟩) ns cs) 3 1 ns (List.map (Value.int .i64) (List.replicate ns (-1))), .blk g2 #[.slice aL nl cL, .slice aD nd cD, .slice aS nq cS, .int .i64 ((pn : Nat) : Int), .int .i64 ((rn : Nat) : Int)] 142, .blk g1 #[.int .i64 r, .int .i64 s, .int .i64 b, .int .i64 o, .int .i64 c, .int .i64 y, .int .i64 z] 69]) (by kernel_rfl) (by kernel_rfl) (by kernel_rfl) hsShut (fun _ h => h.pick [1, 2, 3, 4, 5] _ (by decide) (by kernel_rfl)) H.drew ?_
  refine s_quiet 0 rfl (by kernel_rfl) (y_val (.pointer (some ⟨p, 0, none⟩)) (by kernel_rfl) (fun _ => by kernel_rfl)) ?_
  refine s_quiet 1 rfl (by kernel_rfl) (y_val (.pointer (some ⟨p, 0, none⟩)) (by kernel_rfl) (fun _ => by kernel_rfl)) ?_
  refine s_quiet 2 rfl (by kernel_rfl) (y_val (.pointer (some ⟨g2, 3, none⟩)) (by kernel_rfl) (fun _ => by kernel_rfl)) ?_
  refine s_quiet 3 rfl (by kernel_rfl) (y_load1 3 g2 3 #[.slice aL nl cL, .slice aD nd cD, .slice aS nq cS, .int .i64 ((pn : Nat) : Int), .int .i64 ((rn : Nat) : Int)] 142 (.int .i64 ((pn : Nat) : Int)) (by kernel_rfl) (by kernel_rfl) (by kernel_rfl) (fun _ => by kernel_rfl)) ?_
  refine s_quiet 4 rfl (by kernel_rfl) (y_val (.pointer (some ⟨g2, 4, none⟩)) (by kernel_rfl) (fun _ => by kernel_rfl)) ?_
  refine s_quiet 5 rfl (by kernel_rfl) (y_load1 3 g2 4 #[.slice aL nl cL, .slice aD nd cD, .slice aS nq cS, .int .i64 ((pn : Nat) : Int), .int .i64 ((rn : Nat) : Int)] 142 (.int .i64 ((rn : Nat) : Int)) (by kernel_rfl) (by kernel_rfl) (by kernel_rfl) (fun _ => by kernel_rfl)) ?_
  refine s_quiet 6 rfl (by kernel_rfl) (y_val (.pointer (some ⟨p, 0, none⟩)) (by kernel_rfl) (fun _ => by kernel_rfl)) ?_
  refine s_quiet 7 rfl (by kernel_rfl) (y_val (.pointer (some ⟨p, 10, none⟩)) (by kernel_rfl) (fun _ => by kernel_rfl)) ?_
  refine s_one 8 rfl (by kernel_rfl) rfl ?_
  clear H
  intro v5 H
  refine x_store (t := 3) (v := .int .i64 ((pn : Nat) : Int)) H 0 p 10 #[.int .i64 r, .int .i64 s, .int .i64 b, .int .i64 o, .int .i64 c, .int .i64 y, .int .i64 z, .slice (some ⟨gl, 0, none⟩) sn cl, .slice (some ⟨gd, 0, none⟩) pg cd, .slice (some ⟨gs, 0, none⟩) ns cs, .int .i64 ((0 : Nat) : Int), .int .i64 ((0 : Nat) : Int)] #[.int .i64 r, .int .i64 s, .int .i64 b, .int .i64 o, .int .i64 c, .int .i64 y, .int .i64 z, .slice (some ⟨gl, 0, none⟩) sn cl, .slice (some ⟨gd, 0, none⟩) pg cd, .slice (some ⟨gs, 0, none⟩) ns cs, .int .i64 ((pn : Nat) : Int), .int .i64 ((0 : Nat) : Int)] 181 [.int .i64 ((pn : Nat) : Int)] [.blk p #[.int .i64 r, .int .i64 s, .int .i64 b, .int .i64 o, .int .i64 c, .int .i64 y, .int .i64 z, .slice (some ⟨gl, 0, none⟩) sn cl, .slice (some ⟨gd, 0, none⟩) pg cd, .slice (some ⟨gs, 0, none⟩) ns cs, .int .i64 ((pn : Nat) : Int), .int .i64 ((0 : Nat) : Int)] 181, .row (.slice (some ⟨gl, 0, none⟩) sn cl) 3 1 sn (List.map (Value.int .i64) (iota sn)), .row (.slice (some ⟨gd, 0, none⟩) pg cd) 4 1 pg (List.map Value.bool (List.replicate pg false)), .row (.slice (some ⟨gs, 0, none⟩) ns cs) 3 1 ns (List.map (Value.int .i64) (List.replicate ns (-1))), .blk g2 #[.slice aL nl cL, .slice aD nd cD, .slice aS nq cS, .int .i64 ((pn : Nat) : Int), .int .i64 ((rn : Nat) : Int)] 142, .blk g1 #[.int .i64 r, .int .i64 s, .int .i64 b, .int .i64 o, .int .i64 c, .int .i64 y, .int .i64 z] 69] (by kernel_rfl) rfl (by kernel_rfl) (by kernel_rfl) (by kernel_rfl) (by kernel_rfl) (by kernel_rfl) (by kernel_rfl) (by kernel_rfl) (by kernel_rfl) ?_
  clear H
  intro v6 H
  refine x_nil ?_
  refine x_then ?_
  refine ⟨fun w' => Hs [] w0 w' [.row (.slice (some ⟨gl, 0, none⟩) sn cl) 3 1 sn (List.map (Value.int .i64) (iota sn)), .row (.slice (some ⟨gd, 0, none⟩) pg cd) 4 1 pg (List.map Value.bool (List.replicate pg false)), .row (.slice (some ⟨gs, 0, none⟩) ns cs) 3 1 ns (List.map (Value.int .i64) (List.replicate ns (-1))), .blk g2 #[.slice aL nl cL, .slice aD nd cD, .slice aS nq cS, .int .i64 ((pn : Nat) : Int), .int .i64 ((rn : Nat) : Int)] 142, .blk g1 #[.int .i64 r, .int .i64 s, .int .i64 b, .int .i64 o, .int .i64 c, .int .i64 y, .int .i64 z] 69], fun w' => Hs [] w0 w' [.blk p #[.int .i64 r, .int .i64 s, .int .i64 b, .int .i64 o, .int .i64 c, .int .i64 y, .int .i64 z, .slice (some ⟨gl, 0, none⟩) sn cl, .slice (some ⟨gd, 0, none⟩) pg cd, .slice (some ⟨gs, 0, none⟩) ns cs, .int .i64 ((pn : Nat) : Int), .int .i64 ((0 : Nat) : Int)] 181, .row (.slice (some ⟨gl, 0, none⟩) sn cl) 3 1 sn (List.map (Value.int .i64) (iota sn)), .row (.slice (some ⟨gd, 0, none⟩) pg cd) 4 1 pg (List.map Value.bool (List.replicate pg false)), .row (.slice (some ⟨gs, 0, none⟩) ns cs) 3 1 ns (List.map (Value.int .i64) (List.replicate ns (-1))), .blk g2 #[.slice aL nl cL, .slice aD nd cD, .slice aS nq cS, .int .i64 ((pn : Nat) : Int), .int .i64 ((rn : Nat) : Int)] 142, .blk g1 #[.int .i64 r, .int .i64 s, .int .i64 b, .int .i64 o, .int .i64 c, .int .i64 y, .int .i64 z] 69], H, hsShut, fun _ h => h.pick [1, 2, 3, 4, 5] _ (by decide) (by kernel_rfl), fun _ h => h.pick [0, 1, 2, 3, 4] _ (by decide) (by kernel_rfl), ?_⟩
  refine s_quiet 9 rfl (by kernel_rfl) (y_val (.pointer (some ⟨p, 0, none⟩)) (by kernel_rfl) (fun _ => by kernel_rfl)) ?_
  refine s_quiet 10 rfl (by kernel_rfl) (y_val (.pointer (some ⟨p, 11, none⟩)) (by kernel_rfl) (fun _ => by kernel_rfl)) ?_
  refine s_one 11 rfl (by kernel_rfl) rfl ?_
  clear H
  intro v7 H
  refine x_store (t := 3) (v := .int .i64 ((rn : Nat) : Int)) H 0 p 11 #[.int .i64 r, .int .i64 s, .int .i64 b, .int .i64 o, .int .i64 c, .int .i64 y, .int .i64 z, .slice (some ⟨gl, 0, none⟩) sn cl, .slice (some ⟨gd, 0, none⟩) pg cd, .slice (some ⟨gs, 0, none⟩) ns cs, .int .i64 ((pn : Nat) : Int), .int .i64 ((0 : Nat) : Int)] #[.int .i64 r, .int .i64 s, .int .i64 b, .int .i64 o, .int .i64 c, .int .i64 y, .int .i64 z, .slice (some ⟨gl, 0, none⟩) sn cl, .slice (some ⟨gd, 0, none⟩) pg cd, .slice (some ⟨gs, 0, none⟩) ns cs, .int .i64 ((pn : Nat) : Int), .int .i64 ((rn : Nat) : Int)] 181 [.int .i64 ((rn : Nat) : Int)] [.blk p #[.int .i64 r, .int .i64 s, .int .i64 b, .int .i64 o, .int .i64 c, .int .i64 y, .int .i64 z, .slice (some ⟨gl, 0, none⟩) sn cl, .slice (some ⟨gd, 0, none⟩) pg cd, .slice (some ⟨gs, 0, none⟩) ns cs, .int .i64 ((pn : Nat) : Int), .int .i64 ((rn : Nat) : Int)] 181, .row (.slice (some ⟨gl, 0, none⟩) sn cl) 3 1 sn (List.map (Value.int .i64) (iota sn)), .row (.slice (some ⟨gd, 0, none⟩) pg cd) 4 1 pg (List.map Value.bool (List.replicate pg false)), .row (.slice (some ⟨gs, 0, none⟩) ns cs) 3 1 ns (List.map (Value.int .i64) (List.replicate ns (-1))), .blk g2 #[.slice aL nl cL, .slice aD nd cD, .slice aS nq cS, .int .i64 ((pn : Nat) : Int), .int .i64 ((rn : Nat) : Int)] 142, .blk g1 #[.int .i64 r, .int .i64 s, .int .i64 b, .int .i64 o, .int .i64 c, .int .i64 y, .int .i64 z] 69] (by kernel_rfl) rfl (by kernel_rfl) (by kernel_rfl) (by kernel_rfl) (by kernel_rfl) (by kernel_rfl) (by kernel_rfl) (by kernel_rfl) (by kernel_rfl) ?_
  clear H
  intro v8 H
  refine x_nil ?_
  refine x_then ?_
  refine ⟨fun w' => Hs [] w0 w' [.blk p #[.int .i64 r, .int .i64 s, .int .i64 b, .int .i64 o, .int .i64 c, .int .i64 y, .int .i64 z, .slice (some ⟨gl, 0, none⟩) sn cl, .slice (some ⟨gd, 0, none⟩) pg cd, .slice (some ⟨gs, 0, none⟩) ns cs, .int .i64 ((pn : Nat) : Int), .int .i64 ((rn : Nat) : Int)] 181, .row (.slice (some ⟨gl, 0, none⟩) sn cl) 3 1 sn (List.map (Value.int .i64) (iota sn)), .row (.slice (some ⟨gd, 0, none⟩) pg cd) 4 1 pg (List.map Value.bool (List.replicate pg false)), .row (.slice (some ⟨gs, 0, none⟩) ns cs) 3 1 ns (List.map (Value.int .i64) (List.replicate ns (-1))), .blk g2 #[.slice aL nl cL, .slice aD nd cD, .slice aS nq cS, .int .i64 ((pn : Nat) : Int), .int .i64 ((rn : Nat) : Int)] 142, .blk g1 #[.int .i64 r, .int .i64 s, .int .i64 b, .int .i64 o, .int .i64 c, .int .i64 y, .int .i64 z] 69], fun w' => Hs [] w0 w' [.blk p #[.int .i64 r, .int .i64 s, .int .i64 b, .int .i64 o, .int .i64 c, .int .i64 y, .int .i64 z, .slice (some ⟨gl, 0, none⟩) sn cl, .slice (some ⟨gd, 0, none⟩) pg cd, .slice (some ⟨gs, 0, none⟩) ns cs, .int .i64 ((pn : Nat) : Int), .int .i64 ((rn : Nat) : Int)] 181, .row (.slice (some ⟨gl, 0, none⟩) sn cl) 3 1 sn (List.map (Value.int .i64) (iota sn)), .row (.slice (some ⟨gd, 0, none⟩) pg cd) 4 1 pg (List.map Value.bool (List.replicate pg false)), .row (.slice (some ⟨gs, 0, none⟩) ns cs) 3 1 ns (List.map (Value.int .i64) (List.replicate ns (-1))), .blk g2 #[.slice aL nl cL, .slice aD nd cD, .slice aS nq cS, .int .i64 ((pn : Nat) : Int), .int .i64 ((rn : Nat) : Int)] 142, .blk g1 #[.int .i64 r, .int .i64 s, .int .i64 b, .int .i64 o, .int .i64 c, .int .i64 y, .int .i64 z] 69], H, hsShut, fun _ h => h.pick [0, 1, 2, 3, 4, 5] _ (by decide) (by kernel_rfl), fun _ h => h.pick [1, 2, 3, 4, 5] _ (by decide) (by kernel_rfl), ?_⟩
  refine s_done (by kernel_rfl) ?_
  clear H
  intro v9 H
  refine x_frame' { tmps := #[.agg #[.int .i64 r, .int .i64 s, .int .i64 b, .int .i64 o, .int .i64 c, .int .i64 y, .int .i64 z], .agg #[.slice aL nl cL, .slice aD nd cD, .slice aS nq cS, .int .i64 ((pn : Nat) : Int), .int .i64 ((rn : Nat) : Int)], .pointer (some ⟨g1, 0, none⟩), .pointer (some ⟨g2, 0, none⟩), .pointer none, .int .i64 0, .pointer (some ⟨p, 0, none⟩), .int .i64 0, .tuple #[.pointer (some ⟨p, 0, none⟩), .int .i64 0], .agg #[.int .i64 r, .int .i64 s, .int .i64 b, .int .i64 o, .int .i64 c, .int .i64 y, .int .i64 z], .tuple #[.pointer (some ⟨p, 0, none⟩), .int .i64 0], .pointer (some ⟨p, 0, none⟩), .int .i64 0, .int .i64 0, .bool false, undef, .agg #[.slice aL nl cL, .slice aD nd cD, .slice aS nq cS, .int .i64 ((pn : Nat) : Int), .int .i64 ((rn : Nat) : Int)], .agg #[.int .i64 r, .int .i64 s, .int .i64 b, .int .i64 o, .int .i64 c, .int .i64 y, .int .i64 z], .bool true, .bool false, .pointer (some ⟨p, 0, none⟩), .pointer (some ⟨p, 0, none⟩), .pointer (some ⟨g2, 3, none⟩), .int .i64 ((pn : Nat) : Int), .pointer (some ⟨g2, 4, none⟩), .int .i64 ((rn : Nat) : Int), .pointer (some ⟨p, 0, none⟩), .pointer (some ⟨p, 10, none⟩), .pointer (some ⟨p, 0, none⟩), .pointer (some ⟨p, 11, none⟩), undef, undef, undef, undef, undef, undef, undef, undef, undef, undef, undef, undef, undef, undef, undef, undef, undef, undef, undef, undef], defers := [] } (by kernel_rfl) ?_
  refine x_then ?_
  refine x_seq ?_
  refine x_seq ?_
  refine x_region ?_
  refine x_val (.pointer (some ⟨p, 0, none⟩)) (by kernel_rfl) rfl (by kernel_rfl) ?_
  refine x_val (.pointer (some ⟨g2, 1, none⟩)) (by kernel_rfl) rfl (by kernel_rfl) ?_
  refine x_load1 H 4 g2 1 #[.slice aL nl cL, .slice aD nd cD, .slice aS nq cS, .int .i64 ((pn : Nat) : Int), .int .i64 ((rn : Nat) : Int)] 142 (.slice aD nd cD) (by kernel_rfl) (by kernel_rfl) (by kernel_rfl) rfl (by kernel_rfl) ?_
  cases h1 : okD pg lD nd
  · skip
    refine x_callH (.bool false) [.blk g2 #[.slice aL nl cL, .slice aD nd cD, .slice aS nq cS, .int .i64 ((pn : Nat) : Int), .int .i64 ((rn : Nat) : Int)] 142, .blk g1 #[.int .i64 r, .int .i64 s, .int .i64 b, .int .i64 o, .int .i64 c, .int .i64 y, .int .i64 z] 69] (by kernel_rfl) rfl (by kernel_rfl) (Hs.use (A := [.blk p #[.int .i64 r, .int .i64 s, .int .i64 b, .int .i64 o, .int .i64 c, .int .i64 y, .int .i64 z, .slice (some ⟨gl, 0, none⟩) sn cl, .slice (some ⟨gd, 0, none⟩) pg cd, .slice (some ⟨gs, 0, none⟩) ns cs, .int .i64 ((pn : Nat) : Int), .int .i64 ((rn : Nat) : Int)] 181, .row (.slice (some ⟨gl, 0, none⟩) sn cl) 3 1 sn (List.map (Value.int .i64) (iota sn)), .row (.slice (some ⟨gd, 0, none⟩) pg cd) 4 1 pg (List.map Value.bool (List.replicate pg false)), .row (.slice (some ⟨gs, 0, none⟩) ns cs) 3 1 ns (List.map (Value.int .i64) (List.replicate ns (-1)))]) (R := [.blk g2 #[.slice aL nl cL, .slice aD nd cD, .slice aS nq cS, .int .i64 ((pn : Nat) : Int), .int .i64 ((rn : Nat) : Int)] 142, .blk g1 #[.int .i64 r, .int .i64 s, .int .i64 b, .int .i64 o, .int .i64 c, .int .i64 y, .int .i64 z] 69]) (H.pick [0, 1, 2, 3, 4, 5] _ (by decide) (by kernel_rfl)) (fun h => bury_no hL hM0 aD nd cD lD (by omega) h1 _ (hID.held H [0, 1, 2, 3] _ (by kernel_rfl)) h)) ?_
    clear H
    intro v10 H
    refine x_val (.bool true) (by kernel_rfl) rfl (by kernel_rfl) ?_
    refine x_val (.bool true) (by kernel_rfl) rfl (by kernel_rfl) ?_
    refine x_skip (by kernel_rfl) ?_
    refine x_skip (by kernel_rfl) ?_
    refine x_skip (by kernel_rfl) ?_
    refine x_skip (by kernel_rfl) ?_
    refine x_skip (by kernel_rfl) ?_
    refine x_val (.bool true) (by kernel_rfl) rfl (by kernel_rfl) ?_
    refine x_val (.bool true) (by kernel_rfl) rfl (by kernel_rfl) ?_
    refine x_skip (by kernel_rfl) ?_
    refine x_skip (by kernel_rfl) ?_
    refine x_skip (by kernel_rfl) ?_
    refine x_skip (by kernel_rfl) ?_
    refine x_skip (by kernel_rfl) ?_
    refine x_val (.bool true) (by kernel_rfl) rfl (by kernel_rfl) ?_
    refine x_nil ?_
    refine x_frame' { tmps := #[.agg #[.int .i64 r, .int .i64 s, .int .i64 b, .int .i64 o, .int .i64 c, .int .i64 y, .int .i64 z], .agg #[.slice aL nl cL, .slice aD nd cD, .slice aS nq cS, .int .i64 ((pn : Nat) : Int), .int .i64 ((rn : Nat) : Int)], .pointer (some ⟨g1, 0, none⟩), .pointer (some ⟨g2, 0, none⟩), .pointer none, .int .i64 0, .pointer (some ⟨p, 0, none⟩), .int .i64 0, .tuple #[.pointer (some ⟨p, 0, none⟩), .int .i64 0], .agg #[.int .i64 r, .int .i64 s, .int .i64 b, .int .i64 o, .int .i64 c, .int .i64 y, .int .i64 z], .tuple #[.pointer (some ⟨p, 0, none⟩), .int .i64 0], .pointer (some ⟨p, 0, none⟩), .int .i64 0, .int .i64 0, .bool false, undef, .agg #[.slice aL nl cL, .slice aD nd cD, .slice aS nq cS, .int .i64 ((pn : Nat) : Int), .int .i64 ((rn : Nat) : Int)], .agg #[.int .i64 r, .int .i64 s, .int .i64 b, .int .i64 o, .int .i64 c, .int .i64 y, .int .i64 z], .bool true, .bool false, .pointer (some ⟨p, 0, none⟩), .pointer (some ⟨p, 0, none⟩), .pointer (some ⟨g2, 3, none⟩), .int .i64 ((pn : Nat) : Int), .pointer (some ⟨g2, 4, none⟩), .int .i64 ((rn : Nat) : Int), .pointer (some ⟨p, 0, none⟩), .pointer (some ⟨p, 10, none⟩), .pointer (some ⟨p, 0, none⟩), .pointer (some ⟨p, 11, none⟩), .pointer (some ⟨p, 0, none⟩), .pointer (some ⟨g2, 1, none⟩), .slice aD nd cD, .bool false, .bool true, .bool true, undef, undef, undef, undef, undef, .bool true, .bool true, undef, undef, undef, undef, undef, .bool true, undef], defers := [] } (by kernel_rfl) ?_
    refine x_then ?_
    refine x_t (by kernel_rfl) ?_
    refine x_seq ?_
    refine x_region ?_
    refine x_val (.pointer none) (by kernel_rfl) rfl (by kernel_rfl) ?_
    refine x_val (.int .i64 10) (by kernel_rfl) rfl (by kernel_rfl) ?_
    refine x_nil ?_
    refine x_then ?_
    refine x_retc ?_
    refine x_then_ret ?_
    refine x_ret (.tuple #[.pointer none, .int .i64 10]) (by kernel_rfl) (by kernel_rfl) ?_
    exact ⟨rfl, H.below⟩
  · skip
    refine x_callH (.bool true) [.blk p #[.int .i64 r, .int .i64 s, .int .i64 b, .int .i64 o, .int .i64 c, .int .i64 y, .int .i64 z, .slice (some ⟨gl, 0, none⟩) sn cl, .slice (some ⟨gd, 0, none⟩) pg cd, .slice (some ⟨gs, 0, none⟩) ns cs, .int .i64 ((pn : Nat) : Int), .int .i64 ((rn : Nat) : Int)] 181, .row (.slice (some ⟨gl, 0, none⟩) sn cl) 3 1 sn (List.map (Value.int .i64) (iota sn)), .row (.slice (some ⟨gd, 0, none⟩) pg cd) 4 1 pg (List.map Value.bool (marks pg lD nd)), .row (.slice (some ⟨gs, 0, none⟩) ns cs) 3 1 ns (List.map (Value.int .i64) (List.replicate ns (-1))), .blk g2 #[.slice aL nl cL, .slice aD nd cD, .slice aS nq cS, .int .i64 ((pn : Nat) : Int), .int .i64 ((rn : Nat) : Int)] 142, .blk g1 #[.int .i64 r, .int .i64 s, .int .i64 b, .int .i64 o, .int .i64 c, .int .i64 y, .int .i64 z] 69] (by kernel_rfl) rfl (by kernel_rfl) (Hs.use (A := [.blk p #[.int .i64 r, .int .i64 s, .int .i64 b, .int .i64 o, .int .i64 c, .int .i64 y, .int .i64 z, .slice (some ⟨gl, 0, none⟩) sn cl, .slice (some ⟨gd, 0, none⟩) pg cd, .slice (some ⟨gs, 0, none⟩) ns cs, .int .i64 ((pn : Nat) : Int), .int .i64 ((rn : Nat) : Int)] 181, .row (.slice (some ⟨gl, 0, none⟩) sn cl) 3 1 sn (List.map (Value.int .i64) (iota sn)), .row (.slice (some ⟨gd, 0, none⟩) pg cd) 4 1 pg (List.map Value.bool (List.replicate pg false)), .row (.slice (some ⟨gs, 0, none⟩) ns cs) 3 1 ns (List.map (Value.int .i64) (List.replicate ns (-1)))]) (R := [.blk g2 #[.slice aL nl cL, .slice aD nd cD, .slice aS nq cS, .int .i64 ((pn : Nat) : Int), .int .i64 ((rn : Nat) : Int)] 142, .blk g1 #[.int .i64 r, .int .i64 s, .int .i64 b, .int .i64 o, .int .i64 c, .int .i64 y, .int .i64 z] 69]) (H.pick [0, 1, 2, 3, 4, 5] _ (by decide) (by kernel_rfl)) (fun h => bury_yes hL hM0 aD nd cD lD (by omega) h1 _ (hID.held H [0, 1, 2, 3] _ (by kernel_rfl)) h)) ?_
    clear H
    intro v11 H
    refine x_val (.bool false) (by kernel_rfl) rfl (by kernel_rfl) ?_
    refine x_val (.bool false) (by kernel_rfl) rfl (by kernel_rfl) ?_
    refine x_val (.pointer (some ⟨p, 0, none⟩)) (by kernel_rfl) rfl (by kernel_rfl) ?_
    refine x_val (.pointer (some ⟨g2, 0, none⟩)) (by kernel_rfl) rfl (by kernel_rfl) ?_
    refine x_load1 H 4 g2 0 #[.slice aL nl cL, .slice aD nd cD, .slice aS nq cS, .int .i64 ((pn : Nat) : Int), .int .i64 ((rn : Nat) : Int)] 142 (.slice aL nl cL) (by kernel_rfl) (by kernel_rfl) (by kernel_rfl) rfl (by kernel_rfl) ?_
    cases h2 : okS (((sn : Nat) : Int) + ((pn : Nat) : Int)) (marks pg lD nd) lL nl
    · skip
      refine x_callH (.bool false) [.blk g2 #[.slice aL nl cL, .slice aD nd cD, .slice aS nq cS, .int .i64 ((pn : Nat) : Int), .int .i64 ((rn : Nat) : Int)] 142, .blk g1 #[.int .i64 r, .int .i64 s, .int .i64 b, .int .i64 o, .int .i64 c, .int .i64 y, .int .i64 z] 69] (by kernel_rfl) rfl (by kernel_rfl) (Hs.use (A := [.blk p #[.int .i64 r, .int .i64 s, .int .i64 b, .int .i64 o, .int .i64 c, .int .i64 y, .int .i64 z, .slice (some ⟨gl, 0, none⟩) sn cl, .slice (some ⟨gd, 0, none⟩) pg cd, .slice (some ⟨gs, 0, none⟩) ns cs, .int .i64 ((pn : Nat) : Int), .int .i64 ((rn : Nat) : Int)] 181, .row (.slice (some ⟨gl, 0, none⟩) sn cl) 3 1 sn (List.map (Value.int .i64) (iota sn)), .row (.slice (some ⟨gd, 0, none⟩) pg cd) 4 1 pg (List.map Value.bool (marks pg lD nd)), .row (.slice (some ⟨gs, 0, none⟩) ns cs) 3 1 ns (List.map (Value.int .i64) (List.replicate ns (-1)))]) (R := [.blk g2 #[.slice aL nl cL, .slice aD nd cD, .slice aS nq cS, .int .i64 ((pn : Nat) : Int), .int .i64 ((rn : Nat) : Int)] 142, .blk g1 #[.int .i64 r, .int .i64 s, .int .i64 b, .int .i64 o, .int .i64 c, .int .i64 y, .int .i64 z] 69]) (H.pick [0, 1, 2, 3, 4, 5] _ (by decide) (by kernel_rfl)) (fun h => settle_no hL hM1 aL nl cL lL (by omega) h2 _ (hIL.held H [0, 1, 2, 3] _ (by kernel_rfl)) h)) ?_
      clear H
      intro v12 H
      refine x_val (.bool true) (by kernel_rfl) rfl (by kernel_rfl) ?_
      refine x_val (.bool true) (by kernel_rfl) rfl (by kernel_rfl) ?_
      refine x_val (.bool true) (by kernel_rfl) rfl (by kernel_rfl) ?_
      refine x_skip (by kernel_rfl) ?_
      refine x_skip (by kernel_rfl) ?_
      refine x_skip (by kernel_rfl) ?_
      refine x_skip (by kernel_rfl) ?_
      refine x_skip (by kernel_rfl) ?_
      refine x_val (.bool true) (by kernel_rfl) rfl (by kernel_rfl) ?_
      refine x_nil ?_
      refine x_frame' { tmps := #[.agg #[.int .i64 r, .int .i64 s, .int .i64 b, .int .i64 o, .int .i64 c, .int .i64 y, .int .i64 z], .agg #[.slice aL nl cL, .slice aD nd cD, .slice aS nq cS, .int .i64 ((pn : Nat) : Int), .int .i64 ((rn : Nat) : Int)], .pointer (some ⟨g1, 0, none⟩), .pointer (some ⟨g2, 0, none⟩), .pointer none, .int .i64 0, .pointer (some ⟨p, 0, none⟩), .int .i64 0, .tuple #[.pointer (some ⟨p, 0, none⟩), .int .i64 0], .agg #[.int .i64 r, .int .i64 s, .int .i64 b, .int .i64 o, .int .i64 c, .int .i64 y, .int .i64 z], .tuple #[.pointer (some ⟨p, 0, none⟩), .int .i64 0], .pointer (some ⟨p, 0, none⟩), .int .i64 0, .int .i64 0, .bool false, undef, .agg #[.slice aL nl cL, .slice aD nd cD, .slice aS nq cS, .int .i64 ((pn : Nat) : Int), .int .i64 ((rn : Nat) : Int)], .agg #[.int .i64 r, .int .i64 s, .int .i64 b, .int .i64 o, .int .i64 c, .int .i64 y, .int .i64 z], .bool true, .bool false, .pointer (some ⟨p, 0, none⟩), .pointer (some ⟨p, 0, none⟩), .pointer (some ⟨g2, 3, none⟩), .int .i64 ((pn : Nat) : Int), .pointer (some ⟨g2, 4, none⟩), .int .i64 ((rn : Nat) : Int), .pointer (some ⟨p, 0, none⟩), .pointer (some ⟨p, 10, none⟩), .pointer (some ⟨p, 0, none⟩), .pointer (some ⟨p, 11, none⟩), .pointer (some ⟨p, 0, none⟩), .pointer (some ⟨g2, 1, none⟩), .slice aD nd cD, .bool true, .bool false, .bool false, .pointer (some ⟨p, 0, none⟩), .pointer (some ⟨g2, 0, none⟩), .slice aL nl cL, .bool false, .bool true, .bool true, .bool true, undef, undef, undef, undef, undef, .bool true, undef], defers := [] } (by kernel_rfl) ?_
      refine x_then ?_
      refine x_t (by kernel_rfl) ?_
      refine x_seq ?_
      refine x_region ?_
      refine x_val (.pointer none) (by kernel_rfl) rfl (by kernel_rfl) ?_
      refine x_val (.int .i64 10) (by kernel_rfl) rfl (by kernel_rfl) ?_
      refine x_nil ?_
      refine x_then ?_
      refine x_retc ?_
      refine x_then_ret ?_
      refine x_ret (.tuple #[.pointer none, .int .i64 10]) (by kernel_rfl) (by kernel_rfl) ?_
      exact ⟨rfl, H.below⟩
    · skip
      refine x_callH (.bool true) [.blk p #[.int .i64 r, .int .i64 s, .int .i64 b, .int .i64 o, .int .i64 c, .int .i64 y, .int .i64 z, .slice (some ⟨gl, 0, none⟩) sn cl, .slice (some ⟨gd, 0, none⟩) pg cd, .slice (some ⟨gs, 0, none⟩) ns cs, .int .i64 ((pn : Nat) : Int), .int .i64 ((rn : Nat) : Int)] 181, .row (.slice (some ⟨gl, 0, none⟩) sn cl) 3 1 sn (List.map (Value.int .i64) (setsL lL (iota sn) nl)), .row (.slice (some ⟨gd, 0, none⟩) pg cd) 4 1 pg (List.map Value.bool (marks pg lD nd)), .row (.slice (some ⟨gs, 0, none⟩) ns cs) 3 1 ns (List.map (Value.int .i64) (List.replicate ns (-1))), .blk g2 #[.slice aL nl cL, .slice aD nd cD, .slice aS nq cS, .int .i64 ((pn : Nat) : Int), .int .i64 ((rn : Nat) : Int)] 142, .blk g1 #[.int .i64 r, .int .i64 s, .int .i64 b, .int .i64 o, .int .i64 c, .int .i64 y, .int .i64 z] 69] (by kernel_rfl) rfl (by kernel_rfl) (Hs.use (A := [.blk p #[.int .i64 r, .int .i64 s, .int .i64 b, .int .i64 o, .int .i64 c, .int .i64 y, .int .i64 z, .slice (some ⟨gl, 0, none⟩) sn cl, .slice (some ⟨gd, 0, none⟩) pg cd, .slice (some ⟨gs, 0, none⟩) ns cs, .int .i64 ((pn : Nat) : Int), .int .i64 ((rn : Nat) : Int)] 181, .row (.slice (some ⟨gl, 0, none⟩) sn cl) 3 1 sn (List.map (Value.int .i64) (iota sn)), .row (.slice (some ⟨gd, 0, none⟩) pg cd) 4 1 pg (List.map Value.bool (marks pg lD nd)), .row (.slice (some ⟨gs, 0, none⟩) ns cs) 3 1 ns (List.map (Value.int .i64) (List.replicate ns (-1)))]) (R := [.blk g2 #[.slice aL nl cL, .slice aD nd cD, .slice aS nq cS, .int .i64 ((pn : Nat) : Int), .int .i64 ((rn : Nat) : Int)] 142, .blk g1 #[.int .i64 r, .int .i64 s, .int .i64 b, .int .i64 o, .int .i64 c, .int .i64 y, .int .i64 z] 69]) (H.pick [0, 1, 2, 3, 4, 5] _ (by decide) (by kernel_rfl)) (fun h => settle_yes hL hM1 aL nl cL lL (by omega) h2 _ (hIL.held H [0, 1, 2, 3] _ (by kernel_rfl)) h)) ?_
      clear H
      intro v13 H
      refine x_val (.bool false) (by kernel_rfl) rfl (by kernel_rfl) ?_
      refine x_val (.bool false) (by kernel_rfl) rfl (by kernel_rfl) ?_
      refine x_val (.bool false) (by kernel_rfl) rfl (by kernel_rfl) ?_
      refine x_val (.pointer (some ⟨p, 0, none⟩)) (by kernel_rfl) rfl (by kernel_rfl) ?_
      refine x_val (.pointer (some ⟨g2, 2, none⟩)) (by kernel_rfl) rfl (by kernel_rfl) ?_
      refine x_load1 H 4 g2 2 #[.slice aL nl cL, .slice aD nd cD, .slice aS nq cS, .int .i64 ((pn : Nat) : Int), .int .i64 ((rn : Nat) : Int)] 142 (.slice aS nq cS) (by kernel_rfl) (by kernel_rfl) (by kernel_rfl) rfl (by kernel_rfl) ?_
      cases h3 : okT r ((rn : Nat) : Int) lS nq
      · skip
        refine x_callH (.bool false) [.blk g2 #[.slice aL nl cL, .slice aD nd cD, .slice aS nq cS, .int .i64 ((pn : Nat) : Int), .int .i64 ((rn : Nat) : Int)] 142, .blk g1 #[.int .i64 r, .int .i64 s, .int .i64 b, .int .i64 o, .int .i64 c, .int .i64 y, .int .i64 z] 69] (by kernel_rfl) rfl (by kernel_rfl) (Hs.use (A := [.blk p #[.int .i64 r, .int .i64 s, .int .i64 b, .int .i64 o, .int .i64 c, .int .i64 y, .int .i64 z, .slice (some ⟨gl, 0, none⟩) sn cl, .slice (some ⟨gd, 0, none⟩) pg cd, .slice (some ⟨gs, 0, none⟩) ns cs, .int .i64 ((pn : Nat) : Int), .int .i64 ((rn : Nat) : Int)] 181, .row (.slice (some ⟨gl, 0, none⟩) sn cl) 3 1 sn (List.map (Value.int .i64) (setsL lL (iota sn) nl)), .row (.slice (some ⟨gd, 0, none⟩) pg cd) 4 1 pg (List.map Value.bool (marks pg lD nd)), .row (.slice (some ⟨gs, 0, none⟩) ns cs) 3 1 ns (List.map (Value.int .i64) (List.replicate ns (-1)))]) (R := [.blk g2 #[.slice aL nl cL, .slice aD nd cD, .slice aS nq cS, .int .i64 ((pn : Nat) : Int), .int .i64 ((rn : Nat) : Int)] 142, .blk g1 #[.int .i64 r, .int .i64 s, .int .i64 b, .int .i64 o, .int .i64 c, .int .i64 y, .int .i64 z] 69]) (H.pick [0, 1, 2, 3, 4, 5] _ (by decide) (by kernel_rfl)) (fun h => stand_no hL hM2 aS nq cS lS (by omega) hxS h3 _ (hIS.held H [0, 1, 2, 3] _ (by kernel_rfl)) h)) ?_
        clear H
        intro v14 H
        refine x_val (.bool true) (by kernel_rfl) rfl (by kernel_rfl) ?_
        refine x_val (.bool true) (by kernel_rfl) rfl (by kernel_rfl) ?_
        refine x_nil ?_
        refine x_frame' { tmps := #[.agg #[.int .i64 r, .int .i64 s, .int .i64 b, .int .i64 o, .int .i64 c, .int .i64 y, .int .i64 z], .agg #[.slice aL nl cL, .slice aD nd cD, .slice aS nq cS, .int .i64 ((pn : Nat) : Int), .int .i64 ((rn : Nat) : Int)], .pointer (some ⟨g1, 0, none⟩), .pointer (some ⟨g2, 0, none⟩), .pointer none, .int .i64 0, .pointer (some ⟨p, 0, none⟩), .int .i64 0, .tuple #[.pointer (some ⟨p, 0, none⟩), .int .i64 0], .agg #[.int .i64 r, .int .i64 s, .int .i64 b, .int .i64 o, .int .i64 c, .int .i64 y, .int .i64 z], .tuple #[.pointer (some ⟨p, 0, none⟩), .int .i64 0], .pointer (some ⟨p, 0, none⟩), .int .i64 0, .int .i64 0, .bool false, undef, .agg #[.slice aL nl cL, .slice aD nd cD, .slice aS nq cS, .int .i64 ((pn : Nat) : Int), .int .i64 ((rn : Nat) : Int)], .agg #[.int .i64 r, .int .i64 s, .int .i64 b, .int .i64 o, .int .i64 c, .int .i64 y, .int .i64 z], .bool true, .bool false, .pointer (some ⟨p, 0, none⟩), .pointer (some ⟨p, 0, none⟩), .pointer (some ⟨g2, 3, none⟩), .int .i64 ((pn : Nat) : Int), .pointer (some ⟨g2, 4, none⟩), .int .i64 ((rn : Nat) : Int), .pointer (some ⟨p, 0, none⟩), .pointer (some ⟨p, 10, none⟩), .pointer (some ⟨p, 0, none⟩), .pointer (some ⟨p, 11, none⟩), .pointer (some ⟨p, 0, none⟩), .pointer (some ⟨g2, 1, none⟩), .slice aD nd cD, .bool true, .bool false, .bool false, .pointer (some ⟨p, 0, none⟩), .pointer (some ⟨g2, 0, none⟩), .slice aL nl cL, .bool true, .bool false, .bool false, .bool false, .pointer (some ⟨p, 0, none⟩), .pointer (some ⟨g2, 2, none⟩), .slice aS nq cS, .bool false, .bool true, .bool true, undef], defers := [] } (by kernel_rfl) ?_
        refine x_then ?_
        refine x_t (by kernel_rfl) ?_
        refine x_seq ?_
        refine x_region ?_
        refine x_val (.pointer none) (by kernel_rfl) rfl (by kernel_rfl) ?_
        refine x_val (.int .i64 10) (by kernel_rfl) rfl (by kernel_rfl) ?_
        refine x_nil ?_
        refine x_then ?_
        refine x_retc ?_
        refine x_then_ret ?_
        refine x_ret (.tuple #[.pointer none, .int .i64 10]) (by kernel_rfl) (by kernel_rfl) ?_
        exact ⟨rfl, H.below⟩
      · skip
        refine x_callH (.bool true) [.blk p #[.int .i64 r, .int .i64 s, .int .i64 b, .int .i64 o, .int .i64 c, .int .i64 y, .int .i64 z, .slice (some ⟨gl, 0, none⟩) sn cl, .slice (some ⟨gd, 0, none⟩) pg cd, .slice (some ⟨gs, 0, none⟩) ns cs, .int .i64 ((pn : Nat) : Int), .int .i64 ((rn : Nat) : Int)] 181, .row (.slice (some ⟨gl, 0, none⟩) sn cl) 3 1 sn (List.map (Value.int .i64) (setsL lL (iota sn) nl)), .row (.slice (some ⟨gd, 0, none⟩) pg cd) 4 1 pg (List.map Value.bool (marks pg lD nd)), .row (.slice (some ⟨gs, 0, none⟩) ns cs) 3 1 ns (List.map (Value.int .i64) (standL lS (List.replicate ns (-1)) nq)), .blk g2 #[.slice aL nl cL, .slice aD nd cD, .slice aS nq cS, .int .i64 ((pn : Nat) : Int), .int .i64 ((rn : Nat) : Int)] 142, .blk g1 #[.int .i64 r, .int .i64 s, .int .i64 b, .int .i64 o, .int .i64 c, .int .i64 y, .int .i64 z] 69] (by kernel_rfl) rfl (by kernel_rfl) (Hs.use (A := [.blk p #[.int .i64 r, .int .i64 s, .int .i64 b, .int .i64 o, .int .i64 c, .int .i64 y, .int .i64 z, .slice (some ⟨gl, 0, none⟩) sn cl, .slice (some ⟨gd, 0, none⟩) pg cd, .slice (some ⟨gs, 0, none⟩) ns cs, .int .i64 ((pn : Nat) : Int), .int .i64 ((rn : Nat) : Int)] 181, .row (.slice (some ⟨gl, 0, none⟩) sn cl) 3 1 sn (List.map (Value.int .i64) (setsL lL (iota sn) nl)), .row (.slice (some ⟨gd, 0, none⟩) pg cd) 4 1 pg (List.map Value.bool (marks pg lD nd)), .row (.slice (some ⟨gs, 0, none⟩) ns cs) 3 1 ns (List.map (Value.int .i64) (List.replicate ns (-1)))]) (R := [.blk g2 #[.slice aL nl cL, .slice aD nd cD, .slice aS nq cS, .int .i64 ((pn : Nat) : Int), .int .i64 ((rn : Nat) : Int)] 142, .blk g1 #[.int .i64 r, .int .i64 s, .int .i64 b, .int .i64 o, .int .i64 c, .int .i64 y, .int .i64 z] 69]) (H.pick [0, 1, 2, 3, 4, 5] _ (by decide) (by kernel_rfl)) (fun h => stand_yes hL hM2 aS nq cS lS (by omega) hxS h3 _ (hIS.held H [0, 1, 2, 3] _ (by kernel_rfl)) h)) ?_
        clear H
        intro v15 H
        refine x_val (.bool false) (by kernel_rfl) rfl (by kernel_rfl) ?_
        refine x_val (.bool false) (by kernel_rfl) rfl (by kernel_rfl) ?_
        refine x_nil ?_
        refine x_frame' { tmps := #[.agg #[.int .i64 r, .int .i64 s, .int .i64 b, .int .i64 o, .int .i64 c, .int .i64 y, .int .i64 z], .agg #[.slice aL nl cL, .slice aD nd cD, .slice aS nq cS, .int .i64 ((pn : Nat) : Int), .int .i64 ((rn : Nat) : Int)], .pointer (some ⟨g1, 0, none⟩), .pointer (some ⟨g2, 0, none⟩), .pointer none, .int .i64 0, .pointer (some ⟨p, 0, none⟩), .int .i64 0, .tuple #[.pointer (some ⟨p, 0, none⟩), .int .i64 0], .agg #[.int .i64 r, .int .i64 s, .int .i64 b, .int .i64 o, .int .i64 c, .int .i64 y, .int .i64 z], .tuple #[.pointer (some ⟨p, 0, none⟩), .int .i64 0], .pointer (some ⟨p, 0, none⟩), .int .i64 0, .int .i64 0, .bool false, undef, .agg #[.slice aL nl cL, .slice aD nd cD, .slice aS nq cS, .int .i64 ((pn : Nat) : Int), .int .i64 ((rn : Nat) : Int)], .agg #[.int .i64 r, .int .i64 s, .int .i64 b, .int .i64 o, .int .i64 c, .int .i64 y, .int .i64 z], .bool true, .bool false, .pointer (some ⟨p, 0, none⟩), .pointer (some ⟨p, 0, none⟩), .pointer (some ⟨g2, 3, none⟩), .int .i64 ((pn : Nat) : Int), .pointer (some ⟨g2, 4, none⟩), .int .i64 ((rn : Nat) : Int), .pointer (some ⟨p, 0, none⟩), .pointer (some ⟨p, 10, none⟩), .pointer (some ⟨p, 0, none⟩), .pointer (some ⟨p, 11, none⟩), .pointer (some ⟨p, 0, none⟩), .pointer (some ⟨g2, 1, none⟩), .slice aD nd cD, .bool true, .bool false, .bool false, .pointer (some ⟨p, 0, none⟩), .pointer (some ⟨g2, 0, none⟩), .slice aL nl cL, .bool true, .bool false, .bool false, .bool false, .pointer (some ⟨p, 0, none⟩), .pointer (some ⟨g2, 2, none⟩), .slice aS nq cS, .bool true, .bool false, .bool false, undef], defers := [] } (by kernel_rfl) ?_
        refine x_then ?_
        refine x_f (by kernel_rfl) ?_
        refine x_skipc ?_
        refine x_then ?_
        refine x_seq ?_
        refine x_region ?_
        refine x_val (.pointer (some ⟨p, 0, none⟩)) (by kernel_rfl) rfl (by kernel_rfl) ?_
        refine x_val (.pointer (some ⟨p, 0, none⟩)) (by kernel_rfl) rfl (by kernel_rfl) ?_
        refine x_val (.int .i64 0) (by kernel_rfl) rfl (by kernel_rfl) ?_
        refine x_nil ?_
        refine x_then ?_
        refine x_retc ?_
        refine x_ret (.tuple #[.pointer (some ⟨p, 0, none⟩), .int .i64 0]) (by kernel_rfl) (by kernel_rfl) ?_
        exact absurd hbad (by rw [h1, h2, h3]; decide)

end Go.Proofs.Ytgpalgbdacoagaa
