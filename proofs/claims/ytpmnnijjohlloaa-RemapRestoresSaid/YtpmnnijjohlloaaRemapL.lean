/- Restore, and the law RemapRefuses, walked. -/
import Derived.Test.YtpmnnijjohlloaaRemapK
import Derived.Test.YtpmnnijjohlloaaPxZ
namespace Go.Proofs.Ytpmnnijjohlloaa
open Go Go.RowKit
set_option linter.unusedVariables false
set_option linter.unusedSimpArgs false

theorem fitsB_parts {nl sn nq : Nat} {r z s pu ru : Int} (h : fitsB nl sn nq r z s pu ru = true) : nl = sn ∧ ((nq : Nat) : Int) = r ∧ (0 ≤ pu ∧ pu ≤ z) ∧ 0 ≤ ru ∧ ru ≤ s := by
  simp only [fitsB, Bool.and_eq_true, decide_eq_true_eq] at h
  omega
theorem fitsB_mk {nl sn nq : Nat} {r z s pu ru : Int} (h1 : ((nl : Nat) : Int) = sn) (h2 : ((nq : Nat) : Int) = r) (h3 : 0 ≤ pu) (h4 : pu ≤ z) (h5 : 0 ≤ ru) (h6 : ru ≤ s) : fitsB nl sn nq r z s pu ru = true := by
  simp only [fitsB, Bool.and_eq_true, decide_eq_true_eq]
  omega
/-- Pages live where the document says: as it is told. -/
def okL (top : Int) (lD : List Int) (nd : Nat) (l : List Int) : Nat → Bool
  | 0 => true
  | k + 1 => okL top lD nd l k && (((decide (0 ≤ l.getD k 0) && decide (l.getD k 0 < top)) && !(hasK lD nd (l.getD k 0))) && (decide (l.getD k 0 = ((k : Nat) : Int)) || hasK lD nd ((k : Nat) : Int)))
theorem okL_okS {pg : Nat} {top : Int} {lD : List Int} {nd : Nat} (hd : okD pg lD nd = true) (ht : top ≤ (pg : Int)) (l : List Int) : ∀ k, k ≤ pg → okL top lD nd l k = okS top (marks pg lD nd) l k
  | 0, _ => rfl
  | k + 1, hk => by
    rw [okL, okS, okL_okS hd ht l k (by omega)]
    by_cases h : 0 ≤ l.getD k 0 ∧ l.getD k 0 < top
    · obtain ⟨x, hx⟩ := Int.eq_ofNat_of_zero_le h.1
      have m1 := marks_get hd (h := x) (by omega)
      have m2 := marks_get hd (h := k) (by omega)
      rw [m2, hx, Int.toNat_natCast, m1]
      by_cases e : ((x : Nat) : Int) = (k : Int)
      · rw [e]; cases hasK lD nd (k : Int) <;> simp
      · rw [decide_eq_false e]
        cases hasK lD nd (x : Int) <;> cases hasK lD nd (k : Int) <;> simp
    · have e : (decide (0 ≤ l.getD k 0) && decide (l.getD k 0 < top)) = false := by
        rw [Bool.eq_false_iff]; intro hb
        rw [Bool.and_eq_true, decide_eq_true_eq, decide_eq_true_eq] at hb
        exact h hb
      rw [e]; rfl
theorem oks_doc {pg nd nl : Nat} {top : Int} {lD l : List Int} (ht : top ≤ (pg : Int)) (hn : nl ≤ pg) : (okD pg lD nd && okL top lD nd l nl) = (okD pg lD nd && okS top (marks pg lD nd) l nl) := by
  cases h : okD pg lD nd with
  | false => rfl
  | true => rw [okL_okS h ht l nl hn]

set_option maxRecDepth 100000 in
set_option maxHeartbeats 4000000 in
theorem Restore_no (r s b o c y z : Int) (aL aD aS : Option Addr) (nl cL nd cD nq cS : Nat) (pu ru : Int) (hbd : r ≤ 9223372036854775807 ∧ b ≤ 9223372036854775807 ∧ o ≤ 9223372036854775807 ∧ c ≤ 9223372036854775807) (hok : layoutOk r s b o c y z = false) (w0 : World) :
    Calls Try.prog 31 #[.agg #[.int .i64 r, .int .i64 s, .int .i64 b, .int .i64 o, .int .i64 c, .int .i64 y, .int .i64 z], .agg #[.slice aL nl cL, .slice aD nd cD, .slice aS nq cS, .int .i64 pu, .int .i64 ru]] w0 fun e w' => e = .returned (.tuple #[.pointer none, .int .i64 22]) ∧ Below w0.heap.size w0 w' := by
  refine z_enter Try.func31 rfl ?_
  have H := Hs.nil w0
  refine x_seq <| x_region <| z_box H #[.int .i64 r, .int .i64 s, .int .i64 b, .int .i64 o, .int .i64 c, .int .i64 y, .int .i64 z] 25 (fun v1 g1 H => ?_)
  refine z_box H #[.slice aL nl cL, .slice aD nd cD, .slice aS nq cS, .int .i64 pu, .int .i64 ru] 56 (fun v2 g2 H => ?_)
  refine x_b H [.m, .m] <| x_nil <| x_then <| x_seq <| x_region <| x_b H [.n 1 0 7 25] <| z_callB H (New_no r s b o c y z hbd hok _) fun v3 H => ?_
  refine x_b H [.m, .m, .m, .m, .m] <| x_nil <| x_then <| x_seq <| x_seq <| x_region <| x_b H [.m, .m] ?_
  refine x_nil <| x_then <| x_t (by kernel_rfl) <| x_seq <| x_region <| x_b H [.m, .m, .m] <| x_nil ?_
  refine x_then <| x_retc <| x_then_ret <| x_ret (.tuple #[.pointer none, .int .i64 22]) (by kernel_rfl) (by kernel_rfl) ?_
  exact ⟨rfl, H.below⟩

set_option maxRecDepth 100000 in
set_option maxHeartbeats 4000000 in
theorem Restore_form {r s b o c y z : Int} {pg sn ns : Nat} (hL : Lay r s b o c y z pg sn ns) (aL aD aS : Option Addr) (nl cL nd cD nq cS : Nat) (pu ru : Int) (hf : fitsB nl sn nq r z s pu ru = false) (w0 : World) :
    Calls Try.prog 31 #[.agg #[.int .i64 r, .int .i64 s, .int .i64 b, .int .i64 o, .int .i64 c, .int .i64 y, .int .i64 z], .agg #[.slice aL nl cL, .slice aD nd cD, .slice aS nq cS, .int .i64 pu, .int .i64 ru]] w0 fun e w' => e = .returned (.tuple #[.pointer none, .int .i64 10]) ∧ Below w0.heap.size w0 w' := by
  refine z_enter Try.func31 rfl ?_
  have H := Hs.nil w0
  have hok := hL.ok
  obtain ⟨-, r1, r8, s0, s8, b1, b2, o1, o2, c1, c2, y0, y4, z0, z2, hpg, hsn, hns, sn1, pg2, ln0, ln2⟩ := id hL
  have r1' := r1
  refine x_seq <| x_region <| z_box H #[.int .i64 r, .int .i64 s, .int .i64 b, .int .i64 o, .int .i64 c, .int .i64 y, .int .i64 z] 25 (fun v1 g1 H => ?_)
  refine z_box H #[.slice aL nl cL, .slice aD nd cD, .slice aS nq cS, .int .i64 pu, .int .i64 ru] 56 (fun v2 g2 H => ?_)
  refine x_b H [.m, .m] <| x_nil <| x_then <| x_seq <| x_region <| x_b H [.n 1 0 7 25] <| z_call (New_yes hL _) ?_
  rintro _ v3 ⟨p, gl, cl, gd, cd, gs, cs, rfl, hN'⟩
  refine ⟨_, rfl, ?_⟩
  replace H := H.more hN'
  clear hN'
  refine x_b H [.m, .m, .m, .m, .m] <| x_nil <| x_then <| x_seq <| x_seq <| x_region <| x_b H [.m, .m] ?_
  refine x_nil <| x_then <| x_f (by kernel_rfl) <| x_skipc <| x_then <| x_seq <| x_seq ?_
  refine x_region <| x_b H [.n 4 0 5 56, .n 5 0 7 25] <| z_callB (v := .bool (fitsB nl sn nq r z s pu ru)) H (fits_any hL aL aD aS nl cL nd cD nq cS pu ru _) fun v4 H => x_b H [.v (.bool (!(fitsB nl sn nq r z s pu ru)))] <| x_nil <| x_then ?_
  rw [hf]
  refine x_t (by kernel_rfl) <| x_seq <| x_region <| x_b H [.m, .m] <| x_nil <| x_then <| x_retc ?_
  refine x_then_ret <| x_ret (.tuple #[.pointer none, .int .i64 10]) (by kernel_rfl) (by kernel_rfl) ?_
  exact ⟨rfl, H.below⟩

set_option maxRecDepth 100000 in
set_option maxHeartbeats 4000000 in
theorem Restore_yes {r s b o c y z : Int} {pg sn ns : Nat} (hL : Lay r s b o c y z pg sn ns) (aL aD aS : Option Addr) (nl cL nd cD nq cS : Nat) {pn rn : Nat} (lL lD lS : List Int) (hxS : ∀ i, i < nq → -9223372036854775808 ≤ lS.getD i 0 ∧ lS.getD i 0 ≤ 9223372036854775807) (hnd : nd ≤ 9223372036854775807) (hf : fitsB nl sn nq r z s ((pn : Nat) : Int) ((rn : Nat) : Int) = true) (h1 : okD pg lD nd = true) (h2 : okS (((sn : Nat) : Int) + ((pn : Nat) : Int)) (marks pg lD nd) lL nl = true) (h3 : okT r ((rn : Nat) : Int) lS nq = true) (w0 : World) (hIL : IntsAt w0 aL nl lL) (hID : IntsAt w0 aD nd lD) (hIS : IntsAt w0 aS nq lS) :
    Calls Try.prog 31 #[.agg #[.int .i64 r, .int .i64 s, .int .i64 b, .int .i64 o, .int .i64 c, .int .i64 y, .int .i64 z], .agg #[.slice aL nl cL, .slice aD nd cD, .slice aS nq cS, .int .i64 ((pn : Nat) : Int), .int .i64 ((rn : Nat) : Int)]] w0 fun e w' => ∃ p gl cl gd cd gs cs, e = .returned (.tuple #[.pointer (some ⟨p, 0, none⟩), .int .i64 0]) ∧ Hs [] w0 w' [.blk p #[.int .i64 r, .int .i64 s, .int .i64 b, .int .i64 o, .int .i64 c, .int .i64 y, .int .i64 z, .slice (some ⟨gl, 0, none⟩) sn cl, .slice (some ⟨gd, 0, none⟩) pg cd, .slice (some ⟨gs, 0, none⟩) ns cs, .int .i64 ((pn : Nat) : Int), .int .i64 ((rn : Nat) : Int)] 118, .row (.slice (some ⟨gl, 0, none⟩) sn cl) 3 1 sn (List.map (Value.int .i64) (setsL lL (iota sn) nl)), .row (.slice (some ⟨gd, 0, none⟩) pg cd) 4 1 pg (List.map Value.bool (marks pg lD nd)), .row (.slice (some ⟨gs, 0, none⟩) ns cs) 3 1 ns (List.map (Value.int .i64) (standL lS (List.replicate ns (-1)) nq))] := by
  refine z_enter Try.func31 rfl ?_
  have H := Hs.nil w0
  have hok := hL.ok
  obtain ⟨-, r1, r8, s0, s8, b1, b2, o1, o2, c1, c2, y0, y4, z0, z2, hpg, hsn, hns, sn1, pg2, ln0, ln2⟩ := id hL
  have r1' := r1
  obtain ⟨f1, f2, ⟨f3, f4⟩, f5, f6⟩ := fitsB_parts hf
  have hM0 : MapOk z s sn pg ns (iota sn) (List.replicate pg false) (List.replicate ns (-1)) pn rn := ⟨iota_len sn, List.length_replicate, List.length_replicate, by omega, by omega⟩
  have hM1 : MapOk z s sn pg ns (iota sn) (marks pg lD nd) (List.replicate ns (-1)) pn rn := ⟨iota_len sn, marks_len _ _ _, List.length_replicate, by omega, by omega⟩
  have hM2 : MapOk z s sn pg ns (setsL lL (iota sn) nl) (marks pg lD nd) (List.replicate ns (-1)) pn rn := ⟨by rw [setsL_len]; exact iota_len sn, marks_len _ _ _, List.length_replicate, by omega, by omega⟩
  refine x_seq <| x_region <| z_box H #[.int .i64 r, .int .i64 s, .int .i64 b, .int .i64 o, .int .i64 c, .int .i64 y, .int .i64 z] 25 (fun v1 g1 H => ?_)
  refine z_box H #[.slice aL nl cL, .slice aD nd cD, .slice aS nq cS, .int .i64 (pn : Int), .int .i64 (rn : Int)] 56 (fun v2 g2 H => ?_)
  refine x_b H [.m, .m] <| x_nil <| x_then <| x_seq <| x_region <| x_b H [.n 1 0 7 25] <| z_call (New_yes hL _) ?_
  rintro _ v3 ⟨p, gl, cl, gd, cd, gs, cs, rfl, hN'⟩
  refine ⟨_, rfl, ?_⟩
  replace H := H.more hN'
  clear hN'
  refine x_b H [.m, .m, .m, .m, .m] <| x_nil <| x_then <| x_seq <| x_seq <| x_region <| x_b H [.m, .m] ?_
  refine x_nil <| x_then <| x_f (by kernel_rfl) <| x_skipc <| x_then <| x_seq <| x_seq ?_
  refine x_region <| x_b H [.n 4 0 5 56, .n 5 0 7 25] <| z_callB (v := .bool (fitsB nl sn nq r z s (pn : Int) (rn : Int))) H (fits_any hL aL aD aS nl cL nd cD nq cS (pn : Int) (rn : Int) _) fun v4 H => x_b H [.v (.bool (!(fitsB nl sn nq r z s (pn : Int) (rn : Int))))] <| x_nil <| x_then ?_
  rw [hf]
  refine x_f (by kernel_rfl) <| x_skipc <| x_then <| x_seq <| z_region_s H 12 [1, 2, 3, 4, 5] <| s_b [(0, .m), (1, .m), (2, .m), (3, .l 3 3), (4, .m), (5, .l 3 4), (6, .m), (7, .m)] 4 <| s_one 8 rfl (by kernel_rfl) rfl ?_
  clear H
  intro v5 H
  refine z_store H 0 10 [.int .i64 (pn : Int)] (fun v6 H => ?_)
  refine x_nil <| x_then <| z_next H [1, 2, 3, 4, 5] [0, 1, 2, 3, 4] rfl <| s_b [(9, .m), (10, .m)] 1 <| s_one 11 rfl (by kernel_rfl) rfl ?_
  clear H
  intro v7 H
  refine z_store H 0 11 [.int .i64 (rn : Int)] (fun v8 H => ?_)
  refine x_nil <| x_then <| z_next H [0, 1, 2, 3, 4, 5] [1, 2, 3, 4, 5] rfl <| s_done (by kernel_rfl) ?_
  clear H
  intro v9 H
  refine x_then <| x_seq <| x_seq <| x_region <| x_b H [.m, .m, .l 4 1] <| z_callH (v := .bool true) (H.useI [0, 1, 2, 3] (fun h => bury_yes hL hM0 aD nd cD lD (by omega) h1 _ (hID.held H [0, 1, 2, 3] _ (by kernel_rfl)) h)) fun v10 H => x_b H [.m, .m, .m, .m, .l 4 0] ?_
  refine z_callH (v := .bool true) (H.useI [0, 1, 2, 3] (fun h => settle_yes hL hM1 aL nl cL lL (by omega) h2 _ (hIL.held H [0, 1, 2, 3] _ (by kernel_rfl)) h)) fun v11 H => x_b H [.m, .m, .m, .m, .m, .l 4 2] <| z_callH (v := .bool true) (H.useI [0, 1, 2, 3] (fun h => stand_yes hL hM2 aS nq cS lS (by omega) hxS h3 _ (hIS.held H [0, 1, 2, 3] _ (by kernel_rfl)) h)) fun v12 H => x_b H [.m, .m] <| x_nil <| z_fr 50 [(6, .pointer (some ⟨p, 0, none⟩)), (48, .bool false)] [] fun uf1 => x_then ?_
  refine x_f (by kernel_rfl) <| x_skipc <| x_then <| x_seq <| x_region <| x_b H [.m, .m, .m] <| x_nil ?_
  refine x_then <| x_retc <| x_ret (.tuple #[.pointer (some ⟨p, 0, none⟩), .int .i64 0]) (by kernel_rfl) (by kernel_rfl) ?_
  exact ⟨_, _, _, _, _, _, _, rfl, H.pick [0, 1, 2, 3] _ (by decide) rfl⟩

set_option maxRecDepth 100000 in
set_option maxHeartbeats 4000000 in
theorem Restore_bad {r s b o c y z : Int} {pg sn ns : Nat} (hL : Lay r s b o c y z pg sn ns) (aL aD aS : Option Addr) (nl cL nd cD nq cS : Nat) {pn rn : Nat} (lL lD lS : List Int) (hxS : ∀ i, i < nq → -9223372036854775808 ≤ lS.getD i 0 ∧ lS.getD i 0 ≤ 9223372036854775807) (hnd : nd ≤ 9223372036854775807) (hf : fitsB nl sn nq r z s ((pn : Nat) : Int) ((rn : Nat) : Int) = true) (hbad : ((okD pg lD nd && okS (((sn : Nat) : Int) + ((pn : Nat) : Int)) (marks pg lD nd) lL nl) && okT r ((rn : Nat) : Int) lS nq) = false) (w0 : World) (hIL : IntsAt w0 aL nl lL) (hID : IntsAt w0 aD nd lD) (hIS : IntsAt w0 aS nq lS) :
    Calls Try.prog 31 #[.agg #[.int .i64 r, .int .i64 s, .int .i64 b, .int .i64 o, .int .i64 c, .int .i64 y, .int .i64 z], .agg #[.slice aL nl cL, .slice aD nd cD, .slice aS nq cS, .int .i64 ((pn : Nat) : Int), .int .i64 ((rn : Nat) : Int)]] w0 fun e w' => e = .returned (.tuple #[.pointer none, .int .i64 10]) ∧ Below w0.heap.size w0 w' := by
  refine z_enter Try.func31 rfl ?_
  have H := Hs.nil w0
  have hok := hL.ok
  obtain ⟨-, r1, r8, s0, s8, b1, b2, o1, o2, c1, c2, y0, y4, z0, z2, hpg, hsn, hns, sn1, pg2, ln0, ln2⟩ := id hL
  have r1' := r1
  obtain ⟨f1, f2, ⟨f3, f4⟩, f5, f6⟩ := fitsB_parts hf
  have hM0 : MapOk z s sn pg ns (iota sn) (List.replicate pg false) (List.replicate ns (-1)) pn rn := ⟨iota_len sn, List.length_replicate, List.length_replicate, by omega, by omega⟩
  have hM1 : MapOk z s sn pg ns (iota sn) (marks pg lD nd) (List.replicate ns (-1)) pn rn := ⟨iota_len sn, marks_len _ _ _, List.length_replicate, by omega, by omega⟩
  have hM2 : MapOk z s sn pg ns (setsL lL (iota sn) nl) (marks pg lD nd) (List.replicate ns (-1)) pn rn := ⟨by rw [setsL_len]; exact iota_len sn, marks_len _ _ _, List.length_replicate, by omega, by omega⟩
  refine x_seq <| x_region <| z_box H #[.int .i64 r, .int .i64 s, .int .i64 b, .int .i64 o, .int .i64 c, .int .i64 y, .int .i64 z] 25 (fun v1 g1 H => ?_)
  refine z_box H #[.slice aL nl cL, .slice aD nd cD, .slice aS nq cS, .int .i64 (pn : Int), .int .i64 (rn : Int)] 56 (fun v2 g2 H => ?_)
  refine x_b H [.m, .m] <| x_nil <| x_then <| x_seq <| x_region <| x_b H [.n 1 0 7 25] <| z_call (New_yes hL _) ?_
  rintro _ v3 ⟨p, gl, cl, gd, cd, gs, cs, rfl, hN'⟩
  refine ⟨_, rfl, ?_⟩
  replace H := H.more hN'
  clear hN'
  refine x_b H [.m, .m, .m, .m, .m] <| x_nil <| x_then <| x_seq <| x_seq <| x_region <| x_b H [.m, .m] ?_
  refine x_nil <| x_then <| x_f (by kernel_rfl) <| x_skipc <| x_then <| x_seq <| x_seq ?_
  refine x_region <| x_b H [.n 4 0 5 56, .n 5 0 7 25] <| z_callB (v := .bool (fitsB nl sn nq r z s (pn : Int) (rn : Int))) H (fits_any hL aL aD aS nl cL nd cD nq cS (pn : Int) (rn : Int) _) fun v4 H => x_b H [.v (.bool (!(fitsB nl sn nq r z s (pn : Int) (rn : Int))))] <| x_nil <| x_then ?_
  rw [hf]
  refine x_f (by kernel_rfl) <| x_skipc <| x_then <| x_seq <| z_region_s H 12 [1, 2, 3, 4, 5] <| s_b [(0, .m), (1, .m), (2, .m), (3, .l 3 3), (4, .m), (5, .l 3 4), (6, .m), (7, .m)] 4 <| s_one 8 rfl (by kernel_rfl) rfl ?_
  clear H
  intro v5 H
  refine z_store H 0 10 [.int .i64 (pn : Int)] (fun v6 H => ?_)
  refine x_nil <| x_then <| z_next H [1, 2, 3, 4, 5] [0, 1, 2, 3, 4] rfl <| s_b [(9, .m), (10, .m)] 1 <| s_one 11 rfl (by kernel_rfl) rfl ?_
  clear H
  intro v7 H
  refine z_store H 0 11 [.int .i64 (rn : Int)] (fun v8 H => ?_)
  refine x_nil <| x_then <| z_next H [0, 1, 2, 3, 4, 5] [1, 2, 3, 4, 5] rfl <| s_done (by kernel_rfl) ?_
  clear H
  intro v9 H
  refine x_then <| x_seq <| x_seq <| x_region <| x_b H [.m, .m, .l 4 1] ?_
  cases h1 : okD pg lD nd
  · skip
    refine z_callH (v := .bool false) (H.useI [0, 1, 2, 3] (fun h => bury_no hL hM0 aD nd cD lD (by omega) h1 _ (hID.held H [0, 1, 2, 3] _ (by kernel_rfl)) h)) fun v10 H => x_b H [.m, .m, .k, .k, .k, .k, .k, .m, .m, .k, .k, .k, .k, .k, .m] <| x_nil <| z_fr 50 [(6, .pointer (some ⟨p, 0, none⟩)), (48, .bool true)] [] fun uf1 => x_then <| x_t (by kernel_rfl) <| x_seq ?_
    refine x_region <| x_b H [.m, .m] <| x_nil <| x_then <| x_retc <| x_then_ret <| x_ret (.tuple #[.pointer none, .int .i64 10]) (by kernel_rfl) (by kernel_rfl) ?_
    exact ⟨rfl, H.below⟩
  refine z_callH (v := .bool true) (H.useI [0, 1, 2, 3] (fun h => bury_yes hL hM0 aD nd cD lD (by omega) h1 _ (hID.held H [0, 1, 2, 3] _ (by kernel_rfl)) h)) fun v11 H => x_b H [.m, .m, .m, .m, .l 4 0] ?_
  cases h2 : okS ((sn : Int) + (pn : Int)) (marks pg lD nd) lL nl
  · skip
    refine z_callH (v := .bool false) (H.useI [0, 1, 2, 3] (fun h => settle_no hL hM1 aL nl cL lL (by omega) h2 _ (hIL.held H [0, 1, 2, 3] _ (by kernel_rfl)) h)) fun v12 H => x_b H [.m, .m, .m, .k, .k, .k, .k, .k, .m] <| x_nil <| z_fr 50 [(6, .pointer (some ⟨p, 0, none⟩)), (48, .bool true)] [] fun uf2 => x_then <| x_t (by kernel_rfl) <| x_seq ?_
    refine x_region <| x_b H [.m, .m] <| x_nil <| x_then <| x_retc <| x_then_ret <| x_ret (.tuple #[.pointer none, .int .i64 10]) (by kernel_rfl) (by kernel_rfl) ?_
    exact ⟨rfl, H.below⟩
  refine z_callH (v := .bool true) (H.useI [0, 1, 2, 3] (fun h => settle_yes hL hM1 aL nl cL lL (by omega) h2 _ (hIL.held H [0, 1, 2, 3] _ (by kernel_rfl)) h)) fun v13 H => x_b H [.m, .m, .m, .m, .m, .l 4 2] ?_
  cases h3 : okT r (rn : Int) lS nq
  · skip
    refine z_callH (v := .bool false) (H.useI [0, 1, 2, 3] (fun h => stand_no hL hM2 aS nq cS lS (by omega) hxS h3 _ (hIS.held H [0, 1, 2, 3] _ (by kernel_rfl)) h)) fun v14 H => x_b H [.m, .m] <| x_nil <| z_fr 50 [(6, .pointer (some ⟨p, 0, none⟩)), (48, .bool true)] [] fun uf3 => x_then <| x_t (by kernel_rfl) <| x_seq ?_
    refine x_region <| x_b H [.m, .m] <| x_nil <| x_then <| x_retc <| x_then_ret <| x_ret (.tuple #[.pointer none, .int .i64 10]) (by kernel_rfl) (by kernel_rfl) ?_
    exact ⟨rfl, H.below⟩
  refine z_callH (v := .bool true) (H.useI [0, 1, 2, 3] (fun h => stand_yes hL hM2 aS nq cS lS (by omega) hxS h3 _ (hIS.held H [0, 1, 2, 3] _ (by kernel_rfl)) h)) fun v15 H => x_b H [.m, .m] <| x_nil <| z_fr 50 [(6, .pointer (some ⟨p, 0, none⟩)), (48, .bool false)] [] fun uf4 => x_then <| x_f (by kernel_rfl) <| x_skipc ?_
  refine x_then <| x_seq <| x_region <| x_b H [.m, .m, .m] <| x_nil <| x_then <| x_retc ?_
  refine x_ret (.tuple #[.pointer (some ⟨p, 0, none⟩), .int .i64 0]) (by kernel_rfl) (by kernel_rfl) ?_
  exact absurd hbad (by rw [h1, h2, h3]; decide)

end Go.Proofs.Ytpmnnijjohlloaa
