/- Restore, and the law RemapRefuses, walked. -/
import Derived.Test.YtpmnnijjohlloaaGreatRemapK
import Derived.Test.YtpmnnijjohlloaaGreatPxZ
namespace Go.Proofs.YtpmnnijjohlloaaGreat
open Go Go.RowKit
set_option linter.unusedVariables false
set_option linter.unusedSimpArgs false
theorem fitsB_parts {nl sn nq : Nat} {r z s pu ru : Int} (h : fitsB nl sn nq r z s pu ru = true) : nl = sn ∧ ((nq : Nat) : Int) = r ∧ (0 ≤ pu ∧ pu ≤ z) ∧ 0 ≤ ru ∧ ru ≤ s := by
  simp only [fitsB, Bool.and_eq_true, decide_eq_true_eq] at h
  omega
theorem fitsB_mk {nl sn nq : Nat} {r z s pu ru : Int} (h1 : ((nl : Nat) : Int) = sn) (h2 : ((nq : Nat) : Int) = r) (h3 : 0 ≤ pu) (h4 : pu ≤ z) (h5 : 0 ≤ ru) (h6 : ru ≤ s) : fitsB nl sn nq r z s pu ru = true := by
  simp only [fitsB, Bool.and_eq_true, decide_eq_true_eq]
  omega
set_option maxRecDepth 100000 in
set_option maxHeartbeats 4000000 in
theorem Restore_yes {r s b o c y z : Int} {pg sn ns : Nat} (hL : Lay r s b o c y z pg sn ns) (aL aD aS : Option Addr) (nl cL nd cD nq cS : Nat) {pn rn : Nat} (lL lD lS : List Int) (hxS : ∀ i, i < nq → -9223372036854775808 ≤ lS.getD i 0 ∧ lS.getD i 0 ≤ 9223372036854775807) (hnd : nd ≤ 9223372036854775807) (hf : fitsB nl sn nq r z s ((pn : Nat) : Int) ((rn : Nat) : Int) = true) (h1 : okD pg lD nd = true) (h2 : okS (((sn : Nat) : Int) + ((pn : Nat) : Int)) (marks pg lD nd) lL nl = true) (h3 : okT r ((rn : Nat) : Int) lS nq = true) (w0 : World) (hIL : IntsAt w0 aL nl lL) (hID : IntsAt w0 aD nd lD) (hIS : IntsAt w0 aS nq lS) :
    Calls Tryz.prog 17 #[.agg #[.int .i64 r, .int .i64 s, .int .i64 b, .int .i64 o, .int .i64 c, .int .i64 y, .int .i64 z], .agg #[.slice aL nl cL, .slice aD nd cD, .slice aS nq cS, .int .i64 ((pn : Nat) : Int), .int .i64 ((rn : Nat) : Int)]] w0 fun e w' => ∃ p gl cl gd cd gs cs, e = .returned (.tuple #[.pointer (some ⟨p, 0, none⟩), .int .i64 0]) ∧ Hs [] w0 w' [.blk p #[.int .i64 r, .int .i64 s, .int .i64 b, .int .i64 o, .int .i64 c, .int .i64 y, .int .i64 z, .slice (some ⟨gl, 0, none⟩) sn cl, .slice (some ⟨gd, 0, none⟩) pg cd, .slice (some ⟨gs, 0, none⟩) ns cs, .int .i64 ((pn : Nat) : Int), .int .i64 ((rn : Nat) : Int)] 109, .row (.slice (some ⟨gl, 0, none⟩) sn cl) 3 1 sn (List.map (Value.int .i64) (setsL lL (iota sn) nl)), .row (.slice (some ⟨gd, 0, none⟩) pg cd) 4 1 pg (List.map Value.bool (marks pg lD nd)), .row (.slice (some ⟨gs, 0, none⟩) ns cs) 3 1 ns (List.map (Value.int .i64) (standL lS (List.replicate ns (-1)) nq))] := by
  refine z_enter Tryz.func17 rfl ?_
  have H := Hs.nil w0
  have hok := hL.ok
  obtain ⟨-, r1, r8, s0, s8, b1, b2, o1, o2, c1, c2, y0, y4, z0, z2, hpg, hsn, hns, sn1, pg2, ln0, ln2⟩ := id hL
  have r1' := r1
  obtain ⟨f1, f2, ⟨f3, f4⟩, f5, f6⟩ := fitsB_parts hf
  have hM0 : MapOk z s sn pg ns (iota sn) (List.replicate pg false) (List.replicate ns (-1)) pn rn := ⟨iota_len sn, List.length_replicate, List.length_replicate, by omega, by omega⟩
  have hM1 : MapOk z s sn pg ns (iota sn) (marks pg lD nd) (List.replicate ns (-1)) pn rn := ⟨iota_len sn, marks_len _ _ _, List.length_replicate, by omega, by omega⟩
  have hM2 : MapOk z s sn pg ns (setsL lL (iota sn) nl) (marks pg lD nd) (List.replicate ns (-1)) pn rn := ⟨by rw [setsL_len]; exact iota_len sn, marks_len _ _ _, List.length_replicate, by omega, by omega⟩
  refine x_seq <| x_region <| z_box H #[.int .i64 r, .int .i64 s, .int .i64 b, .int .i64 o, .int .i64 c, .int .i64 y, .int .i64 z] 25 (fun v1 g1 H => ?_)
  refine z_box H #[.slice aL nl cL, .slice aD nd cD, .slice aS nq cS, .int .i64 (pn : Int), .int .i64 (rn : Int)] 46 (fun v2 g2 H => ?_)
  refine x_b H [.m, .m] <| x_nil <| x_then <| x_seq <| x_region <| x_b H [.n 1 0 7 25] <| z_call (New_yes hL _) ?_
  rintro _ v3 ⟨p, gl, cl, gd, cd, gs, cs, rfl, hN'⟩
  refine ⟨_, rfl, ?_⟩
  replace H := H.more hN'
  clear hN'
  refine x_b H [.m, .m, .m, .m, .m] <| x_nil <| x_then <| x_seq <| x_seq <| x_region <| x_b H [.m, .m] ?_
  refine x_nil <| x_then <| x_f (by kernel_rfl) <| x_skipc <| x_then <| x_seq <| x_seq ?_
  refine x_region <| x_b H [.n 4 0 5 46, .n 5 0 7 25] <| z_callB (v := .bool (fitsB nl sn nq r z s (pn : Int) (rn : Int))) H (fits_any hL aL aD aS nl cL nd cD nq cS (pn : Int) (rn : Int) _) fun v4 H => x_b H [.v (.bool (!(fitsB nl sn nq r z s (pn : Int) (rn : Int))))] <| x_nil <| x_then ?_
  rw [hf]
  refine x_f (by kernel_rfl) <| x_skipc <| x_then <| x_seq <| z_region_s H 12 [1, 2, 3, 4, 5] <| s_b [(0, .m), (1, .m), (2, .m), (3, .l 3 3), (4, .m), (5, .l 3 4), (6, .m), (7, .m)] 4 <| s_one 8 rfl (by kernel_rfl) rfl ?_
  clear H
  intro v5 H
  refine z_store H 0 10 [.int .i64 (pn : Int)] (fun v6 H => ?_)
  refine x_nil <| x_then <| z_next H [1, 2, 3, 4, 5] [0, 1, 2, 3, 4] rfl <| s_b [(9, .m), (10, .m)] 1 <| s_one 11 rfl (by kernel_rfl) rfl ?_
  clear H
  intro v7 H
  refine z_store H 0 11 [.int .i64 (rn : Int)] (fun v8 H => ?_)
  refine x_nil <| x_then <| z_next H [0, 1, 2, 3, 4, 5] [1, 2, 3, 4, 5] rfl <| s_done (by kernel_rfl) ?_
  clear H
  intro v9 H
  refine x_then <| x_seq <| x_seq <| x_region <| x_b H [.m, .m, .l 4 1] <| z_callH (v := .bool true) (H.useI [0, 1, 2, 3] (fun h => bury_yes hL hM0 aD nd cD lD (by omega) h1 _ (hID.held H [0, 1, 2, 3] _ (by kernel_rfl)) h)) fun v10 H => x_b H [.m, .m, .m, .m, .l 4 0] ?_
  refine z_callH (v := .bool true) (H.useI [0, 1, 2, 3] (fun h => settle_yes hL hM1 aL nl cL lL (by omega) h2 _ (hIL.held H [0, 1, 2, 3] _ (by kernel_rfl)) h)) fun v11 H => x_b H [.m, .m, .m, .m, .m, .l 4 2] <| z_callH (v := .bool true) (H.useI [0, 1, 2, 3] (fun h => stand_yes hL hM2 aS nq cS lS (by omega) hxS h3 _ (hIS.held H [0, 1, 2, 3] _ (by kernel_rfl)) h)) fun v12 H => x_b H [.m, .m] <| x_nil <| z_fr 50 [(6, .pointer (some ⟨p, 0, none⟩)), (48, .bool false)] [] fun uf1 => x_then ?_
  refine x_f (by kernel_rfl) <| x_skipc <| x_then <| x_seq <| x_region <| x_b H [.m, .m, .m] <| x_nil ?_
  refine x_then <| x_retc <| x_ret (.tuple #[.pointer (some ⟨p, 0, none⟩), .int .i64 0]) (by kernel_rfl) (by kernel_rfl) ?_
  exact ⟨_, _, _, _, _, _, _, rfl, H.pick [0, 1, 2, 3] _ (by decide) rfl⟩
end Go.Proofs.YtpmnnijjohlloaaGreat
