/- Contracts of remap.Map: what is changed, and what is made. -/
import Derived.Test.YtpmnnijjohlloaaRemapA
import Derived.Test.YtpmnnijjohlloaaPxZ
namespace Go.Proofs.Ytpmnnijjohlloaa
open Go Go.RowKit
set_option linter.unusedVariables false
set_option linter.unusedSimpArgs false
def iota (n : Nat) : List Int := (List.range n).map fun (i : Nat) => (i : Int)
theorem iota_succ (n : Nat) : iota (n + 1) = iota n ++ [(n : Int)] := by simp [iota, List.range_succ]
theorem iota_len (n : Nat) : (iota n).length = n := by simp [iota]
theorem iota_get (n k : Nat) (d : Int) (h : k < n) : (iota n).getD k d = (k : Int) := by simp [iota, List.getD, h]
def rets (home to : Int) (L : List Int) (k : Nat) : List Int := (L.take k).map (fun x => if x = home then to else x) ++ L.drop k
def retL (home to : Int) (L : List Int) : List Int := L.map (fun x => if x = home then to else x)
theorem rets_zero (home to : Int) (L : List Int) : rets home to L 0 = L := by simp [rets]
theorem rets_len (home to : Int) (L : List Int) (k : Nat) : (rets home to L k).length = L.length := by
  simp only [rets, List.length_append, List.length_map, List.length_take, List.length_drop]; omega
theorem rets_end (home to : Int) (L : List Int) (k : Nat) (h : L.length ≤ k) : rets home to L k = retL home to L := by
  simp [rets, retL, List.take_of_length_le h, List.drop_eq_nil_of_le h]
theorem rets_get (home to : Int) (L : List Int) (k : Nat) (h : k < L.length) : (rets home to L k).getD k 0 = L.getD k 0 := by
  have : ((L.take k).map (fun x => if x = home then to else x)).length = k := by simp; omega
  simp only [rets, List.getD]
  rw [List.getElem?_append_right (by omega), this]
  simp
theorem rets_next (home to : Int) (L : List Int) (k : Nat) (h : k < L.length) : rets home to L (k + 1) = (L.take k).map (fun x => if x = home then to else x) ++ (if L.getD k 0 = home then to else L.getD k 0) :: L.drop (k + 1) := by
  have e : L.getD k 0 = L[k] := by simp [List.getD, h]
  rw [e]
  simp only [rets, List.take_succ_eq_append_getElem h, List.map_append, List.map_cons, List.map_nil, List.append_assoc, List.singleton_append]
theorem rets_no (home to : Int) (L : List Int) (k : Nat) (h : k < L.length) (hn : ¬ (rets home to L k).getD k 0 = home) : rets home to L (k + 1) = rets home to L k := by
  rw [rets_get _ _ _ _ h] at hn
  rw [rets_next _ _ _ _ h, if_neg hn]
  have e : L.getD k 0 = L[k] := by simp [List.getD, h]
  rw [e, rets, List.drop_eq_getElem_cons h]
theorem rets_yes (home to : Int) (L : List Int) (k : Nat) (h : k < L.length) (hn : (rets home to L k).getD k 0 = home) : rets home to L (k + 1) = (rets home to L k).set k to := by
  rw [rets_get _ _ _ _ h] at hn
  rw [rets_next _ _ _ _ h, if_pos hn]
  have hl : ((L.take k).map (fun x => if x = home then to else x)).length = k := by simp; omega
  rw [rets, List.set_append_right _ _ (by omega), hl, Nat.sub_self, List.drop_eq_getElem_cons h]
  rfl
set_option maxRecDepth 100000 in
set_option maxHeartbeats 1000000 in
theorem TakePage_no {r s b o c y z : Int} {pg sn ns : Nat} (hL : Lay r s b o c y z pg sn ns) {p gl cl gd cd gs cs : Nat} {L : List Int} {D : List Bool} {S : List Int} {pu ru : Nat} (hM : MapOk z s sn pg ns L D S pu ru) (hz : ((pu : Nat) : Int) = z) (w0 : World) (H0 : Hs (fps [.blk p #[.int .i64 r, .int .i64 s, .int .i64 b, .int .i64 o, .int .i64 c, .int .i64 y, .int .i64 z, .slice (some ⟨gl, 0, none⟩) sn cl, .slice (some ⟨gd, 0, none⟩) pg cd, .slice (some ⟨gs, 0, none⟩) ns cs, .int .i64 ((pu : Nat) : Int), .int .i64 ((ru : Nat) : Int)] 118, .row (.slice (some ⟨gl, 0, none⟩) sn cl) 3 1 sn (List.map (Value.int .i64) L), .row (.slice (some ⟨gd, 0, none⟩) pg cd) 4 1 pg (List.map Value.bool D), .row (.slice (some ⟨gs, 0, none⟩) ns cs) 3 1 ns (List.map (Value.int .i64) S)]) w0 w0 [.blk p #[.int .i64 r, .int .i64 s, .int .i64 b, .int .i64 o, .int .i64 c, .int .i64 y, .int .i64 z, .slice (some ⟨gl, 0, none⟩) sn cl, .slice (some ⟨gd, 0, none⟩) pg cd, .slice (some ⟨gs, 0, none⟩) ns cs, .int .i64 ((pu : Nat) : Int), .int .i64 ((ru : Nat) : Int)] 118, .row (.slice (some ⟨gl, 0, none⟩) sn cl) 3 1 sn (List.map (Value.int .i64) L), .row (.slice (some ⟨gd, 0, none⟩) pg cd) 4 1 pg (List.map Value.bool D), .row (.slice (some ⟨gs, 0, none⟩) ns cs) 3 1 ns (List.map (Value.int .i64) S)]) :
    Calls Try.prog 16 #[.pointer (some ⟨p, 0, none⟩)] w0 fun e w' => e = .returned (.tuple #[.int .i64 0, .int .i64 52]) ∧ Hs (fps [.blk p #[.int .i64 r, .int .i64 s, .int .i64 b, .int .i64 o, .int .i64 c, .int .i64 y, .int .i64 z, .slice (some ⟨gl, 0, none⟩) sn cl, .slice (some ⟨gd, 0, none⟩) pg cd, .slice (some ⟨gs, 0, none⟩) ns cs, .int .i64 ((pu : Nat) : Int), .int .i64 ((ru : Nat) : Int)] 118, .row (.slice (some ⟨gl, 0, none⟩) sn cl) 3 1 sn (List.map (Value.int .i64) L), .row (.slice (some ⟨gd, 0, none⟩) pg cd) 4 1 pg (List.map Value.bool D), .row (.slice (some ⟨gs, 0, none⟩) ns cs) 3 1 ns (List.map (Value.int .i64) S)]) w0 w' [.blk p #[.int .i64 r, .int .i64 s, .int .i64 b, .int .i64 o, .int .i64 c, .int .i64 y, .int .i64 z, .slice (some ⟨gl, 0, none⟩) sn cl, .slice (some ⟨gd, 0, none⟩) pg cd, .slice (some ⟨gs, 0, none⟩) ns cs, .int .i64 ((pu : Nat) : Int), .int .i64 ((ru : Nat) : Int)] 118, .row (.slice (some ⟨gl, 0, none⟩) sn cl) 3 1 sn (List.map (Value.int .i64) L), .row (.slice (some ⟨gd, 0, none⟩) pg cd) 4 1 pg (List.map Value.bool D), .row (.slice (some ⟨gs, 0, none⟩) ns cs) 3 1 ns (List.map (Value.int .i64) S)] := by
  refine z_enter Try.func16 rfl ?_
  have H := H0
  obtain ⟨eL, eD, eS, hp, hr⟩ := id hM
  have hok := hL.ok
  obtain ⟨-, r1, r8, s0, s8, b1, b2, o1, o2, c1, c2, y0, y4, z0, z2, hpg, hsn, hns, sn1, pg2, ln0, ln2⟩ := id hL
  refine x_seq <| x_region <| x_b H [.m, .m] <| x_nil <| x_then <| x_seq <| x_region ?_
  refine x_b H [.m] <| z_callB H (FreePage_no hL hM hz _ (H.ro1 [0, 1, 2, 3])) fun v1 H => x_b H [.m, .m, .m, .m, .m] <| x_nil <| x_then <| x_seq <| x_seq ?_
  refine x_region <| x_b H [.m, .m] <| x_nil <| x_then <| x_t (by kernel_rfl) <| x_seq <| x_region ?_
  refine x_b H [.m, .m] <| x_nil <| x_then <| x_retc <| x_then_ret <| x_ret (.tuple #[.int .i64 0, .int .i64 52]) (by kernel_rfl) (by kernel_rfl) ?_
  exact ⟨rfl, H⟩
set_option maxRecDepth 100000 in
set_option maxHeartbeats 1000000 in
theorem TakePage_yes {r s b o c y z : Int} {pg sn ns : Nat} (hL : Lay r s b o c y z pg sn ns) {p gl cl gd cd gs cs : Nat} {L : List Int} {D : List Bool} {S : List Int} {pu ru : Nat} (hM : MapOk z s sn pg ns L D S pu ru) (hz : ¬ ((pu : Nat) : Int) = z) (w0 : World) (H0 : Hs (fps [.blk p #[.int .i64 r, .int .i64 s, .int .i64 b, .int .i64 o, .int .i64 c, .int .i64 y, .int .i64 z, .slice (some ⟨gl, 0, none⟩) sn cl, .slice (some ⟨gd, 0, none⟩) pg cd, .slice (some ⟨gs, 0, none⟩) ns cs, .int .i64 ((pu : Nat) : Int), .int .i64 ((ru : Nat) : Int)] 118, .row (.slice (some ⟨gl, 0, none⟩) sn cl) 3 1 sn (List.map (Value.int .i64) L), .row (.slice (some ⟨gd, 0, none⟩) pg cd) 4 1 pg (List.map Value.bool D), .row (.slice (some ⟨gs, 0, none⟩) ns cs) 3 1 ns (List.map (Value.int .i64) S)]) w0 w0 [.blk p #[.int .i64 r, .int .i64 s, .int .i64 b, .int .i64 o, .int .i64 c, .int .i64 y, .int .i64 z, .slice (some ⟨gl, 0, none⟩) sn cl, .slice (some ⟨gd, 0, none⟩) pg cd, .slice (some ⟨gs, 0, none⟩) ns cs, .int .i64 ((pu : Nat) : Int), .int .i64 ((ru : Nat) : Int)] 118, .row (.slice (some ⟨gl, 0, none⟩) sn cl) 3 1 sn (List.map (Value.int .i64) L), .row (.slice (some ⟨gd, 0, none⟩) pg cd) 4 1 pg (List.map Value.bool D), .row (.slice (some ⟨gs, 0, none⟩) ns cs) 3 1 ns (List.map (Value.int .i64) S)]) :
    Calls Try.prog 16 #[.pointer (some ⟨p, 0, none⟩)] w0 fun e w' => e = .returned (.tuple #[.int .i64 (((sn : Nat) : Int) + ((pu : Nat) : Int)), .int .i64 0]) ∧ Hs (fps [.blk p #[.int .i64 r, .int .i64 s, .int .i64 b, .int .i64 o, .int .i64 c, .int .i64 y, .int .i64 z, .slice (some ⟨gl, 0, none⟩) sn cl, .slice (some ⟨gd, 0, none⟩) pg cd, .slice (some ⟨gs, 0, none⟩) ns cs, .int .i64 ((pu : Nat) : Int), .int .i64 ((ru : Nat) : Int)] 118, .row (.slice (some ⟨gl, 0, none⟩) sn cl) 3 1 sn (List.map (Value.int .i64) L), .row (.slice (some ⟨gd, 0, none⟩) pg cd) 4 1 pg (List.map Value.bool D), .row (.slice (some ⟨gs, 0, none⟩) ns cs) 3 1 ns (List.map (Value.int .i64) S)]) w0 w' [.blk p #[.int .i64 r, .int .i64 s, .int .i64 b, .int .i64 o, .int .i64 c, .int .i64 y, .int .i64 z, .slice (some ⟨gl, 0, none⟩) sn cl, .slice (some ⟨gd, 0, none⟩) pg cd, .slice (some ⟨gs, 0, none⟩) ns cs, .int .i64 (((pu + 1) : Nat) : Int), .int .i64 ((ru : Nat) : Int)] 118, .row (.slice (some ⟨gl, 0, none⟩) sn cl) 3 1 sn (List.map (Value.int .i64) L), .row (.slice (some ⟨gd, 0, none⟩) pg cd) 4 1 pg (List.map Value.bool D), .row (.slice (some ⟨gs, 0, none⟩) ns cs) 3 1 ns (List.map (Value.int .i64) S)] := by
  refine z_enter Try.func16 rfl ?_
  have H := H0
  obtain ⟨eL, eD, eS, hp, hr⟩ := id hM
  have hok := hL.ok
  obtain ⟨-, r1, r8, s0, s8, b1, b2, o1, o2, c1, c2, y0, y4, z0, z2, hpg, hsn, hns, sn1, pg2, ln0, ln2⟩ := id hL
  refine x_seq <| x_region <| x_b H [.m, .m] <| x_nil <| x_then <| x_seq <| x_region ?_
  refine x_b H [.m] <| z_callB H (FreePage_yes hL hM hz _ (H.ro1 [0, 1, 2, 3])) fun v1 H => x_b H [.m, .m, .m, .m, .m] <| x_nil <| x_then <| x_seq <| x_seq ?_
  refine x_region <| x_b H [.m, .m] <| x_nil <| x_then <| x_f (by kernel_rfl) <| x_skipc <| x_then ?_
  refine x_seq <| x_region <| x_b H [.m, .m, .m, .l 0 10] <| z_ar ((pu : Int) + 1) <| x_b H [.m, .m] <| z_store H 0 10 [.int .i64 ((pu : Int) + 1)] (fun v2 H => ?_)
  refine x_nil <| x_then <| x_seq <| x_region <| x_b H [.m, .m, .m] <| x_nil <| x_then ?_
  refine x_retc <| x_ret (.tuple #[.int .i64 ((sn : Int) + (pu : Int)), .int .i64 0]) (by kernel_rfl) (by kernel_rfl) ?_
  exact ⟨rfl, H⟩
set_option maxRecDepth 100000 in
set_option maxHeartbeats 1000000 in
theorem TakeSpare_no {r s b o c y z : Int} {pg sn ns : Nat} (hL : Lay r s b o c y z pg sn ns) {p gl cl gd cd gs cs : Nat} {L : List Int} {D : List Bool} {S : List Int} {pu ru : Nat} (hM : MapOk z s sn pg ns L D S pu ru) (hz : ((ru : Nat) : Int) = s) (w0 : World) (H0 : Hs (fps [.blk p #[.int .i64 r, .int .i64 s, .int .i64 b, .int .i64 o, .int .i64 c, .int .i64 y, .int .i64 z, .slice (some ⟨gl, 0, none⟩) sn cl, .slice (some ⟨gd, 0, none⟩) pg cd, .slice (some ⟨gs, 0, none⟩) ns cs, .int .i64 ((pu : Nat) : Int), .int .i64 ((ru : Nat) : Int)] 118, .row (.slice (some ⟨gl, 0, none⟩) sn cl) 3 1 sn (List.map (Value.int .i64) L), .row (.slice (some ⟨gd, 0, none⟩) pg cd) 4 1 pg (List.map Value.bool D), .row (.slice (some ⟨gs, 0, none⟩) ns cs) 3 1 ns (List.map (Value.int .i64) S)]) w0 w0 [.blk p #[.int .i64 r, .int .i64 s, .int .i64 b, .int .i64 o, .int .i64 c, .int .i64 y, .int .i64 z, .slice (some ⟨gl, 0, none⟩) sn cl, .slice (some ⟨gd, 0, none⟩) pg cd, .slice (some ⟨gs, 0, none⟩) ns cs, .int .i64 ((pu : Nat) : Int), .int .i64 ((ru : Nat) : Int)] 118, .row (.slice (some ⟨gl, 0, none⟩) sn cl) 3 1 sn (List.map (Value.int .i64) L), .row (.slice (some ⟨gd, 0, none⟩) pg cd) 4 1 pg (List.map Value.bool D), .row (.slice (some ⟨gs, 0, none⟩) ns cs) 3 1 ns (List.map (Value.int .i64) S)]) :
    Calls Try.prog 19 #[.pointer (some ⟨p, 0, none⟩)] w0 fun e w' => e = .returned (.tuple #[.int .i64 0, .int .i64 52]) ∧ Hs (fps [.blk p #[.int .i64 r, .int .i64 s, .int .i64 b, .int .i64 o, .int .i64 c, .int .i64 y, .int .i64 z, .slice (some ⟨gl, 0, none⟩) sn cl, .slice (some ⟨gd, 0, none⟩) pg cd, .slice (some ⟨gs, 0, none⟩) ns cs, .int .i64 ((pu : Nat) : Int), .int .i64 ((ru : Nat) : Int)] 118, .row (.slice (some ⟨gl, 0, none⟩) sn cl) 3 1 sn (List.map (Value.int .i64) L), .row (.slice (some ⟨gd, 0, none⟩) pg cd) 4 1 pg (List.map Value.bool D), .row (.slice (some ⟨gs, 0, none⟩) ns cs) 3 1 ns (List.map (Value.int .i64) S)]) w0 w' [.blk p #[.int .i64 r, .int .i64 s, .int .i64 b, .int .i64 o, .int .i64 c, .int .i64 y, .int .i64 z, .slice (some ⟨gl, 0, none⟩) sn cl, .slice (some ⟨gd, 0, none⟩) pg cd, .slice (some ⟨gs, 0, none⟩) ns cs, .int .i64 ((pu : Nat) : Int), .int .i64 ((ru : Nat) : Int)] 118, .row (.slice (some ⟨gl, 0, none⟩) sn cl) 3 1 sn (List.map (Value.int .i64) L), .row (.slice (some ⟨gd, 0, none⟩) pg cd) 4 1 pg (List.map Value.bool D), .row (.slice (some ⟨gs, 0, none⟩) ns cs) 3 1 ns (List.map (Value.int .i64) S)] := by
  refine z_enter Try.func19 rfl ?_
  have H := H0
  obtain ⟨eL, eD, eS, hp, hr⟩ := id hM
  have hok := hL.ok
  obtain ⟨-, r1, r8, s0, s8, b1, b2, o1, o2, c1, c2, y0, y4, z0, z2, hpg, hsn, hns, sn1, pg2, ln0, ln2⟩ := id hL
  refine x_seq <| x_region <| x_b H [.m, .m] <| x_nil <| x_then <| x_seq <| x_region ?_
  refine x_b H [.m] <| z_callB H (FreeSpare_no hL hM hz _ (H.ro1 [0, 1, 2, 3])) fun v1 H => x_b H [.m, .m, .m, .m, .m] <| x_nil <| x_then <| x_seq <| x_seq ?_
  refine x_region <| x_b H [.m, .m] <| x_nil <| x_then <| x_t (by kernel_rfl) <| x_seq <| x_region ?_
  refine x_b H [.m, .m] <| x_nil <| x_then <| x_retc <| x_then_ret <| x_ret (.tuple #[.int .i64 0, .int .i64 52]) (by kernel_rfl) (by kernel_rfl) ?_
  exact ⟨rfl, H⟩
set_option maxRecDepth 100000 in
set_option maxHeartbeats 1000000 in
theorem TakeSpare_yes {r s b o c y z : Int} {pg sn ns : Nat} (hL : Lay r s b o c y z pg sn ns) {p gl cl gd cd gs cs : Nat} {L : List Int} {D : List Bool} {S : List Int} {pu ru : Nat} (hM : MapOk z s sn pg ns L D S pu ru) (hz : ¬ ((ru : Nat) : Int) = s) (w0 : World) (H0 : Hs (fps [.blk p #[.int .i64 r, .int .i64 s, .int .i64 b, .int .i64 o, .int .i64 c, .int .i64 y, .int .i64 z, .slice (some ⟨gl, 0, none⟩) sn cl, .slice (some ⟨gd, 0, none⟩) pg cd, .slice (some ⟨gs, 0, none⟩) ns cs, .int .i64 ((pu : Nat) : Int), .int .i64 ((ru : Nat) : Int)] 118, .row (.slice (some ⟨gl, 0, none⟩) sn cl) 3 1 sn (List.map (Value.int .i64) L), .row (.slice (some ⟨gd, 0, none⟩) pg cd) 4 1 pg (List.map Value.bool D), .row (.slice (some ⟨gs, 0, none⟩) ns cs) 3 1 ns (List.map (Value.int .i64) S)]) w0 w0 [.blk p #[.int .i64 r, .int .i64 s, .int .i64 b, .int .i64 o, .int .i64 c, .int .i64 y, .int .i64 z, .slice (some ⟨gl, 0, none⟩) sn cl, .slice (some ⟨gd, 0, none⟩) pg cd, .slice (some ⟨gs, 0, none⟩) ns cs, .int .i64 ((pu : Nat) : Int), .int .i64 ((ru : Nat) : Int)] 118, .row (.slice (some ⟨gl, 0, none⟩) sn cl) 3 1 sn (List.map (Value.int .i64) L), .row (.slice (some ⟨gd, 0, none⟩) pg cd) 4 1 pg (List.map Value.bool D), .row (.slice (some ⟨gs, 0, none⟩) ns cs) 3 1 ns (List.map (Value.int .i64) S)]) :
    Calls Try.prog 19 #[.pointer (some ⟨p, 0, none⟩)] w0 fun e w' => e = .returned (.tuple #[.int .i64 (r + ((ru : Nat) : Int)), .int .i64 0]) ∧ Hs (fps [.blk p #[.int .i64 r, .int .i64 s, .int .i64 b, .int .i64 o, .int .i64 c, .int .i64 y, .int .i64 z, .slice (some ⟨gl, 0, none⟩) sn cl, .slice (some ⟨gd, 0, none⟩) pg cd, .slice (some ⟨gs, 0, none⟩) ns cs, .int .i64 ((pu : Nat) : Int), .int .i64 ((ru : Nat) : Int)] 118, .row (.slice (some ⟨gl, 0, none⟩) sn cl) 3 1 sn (List.map (Value.int .i64) L), .row (.slice (some ⟨gd, 0, none⟩) pg cd) 4 1 pg (List.map Value.bool D), .row (.slice (some ⟨gs, 0, none⟩) ns cs) 3 1 ns (List.map (Value.int .i64) S)]) w0 w' [.blk p #[.int .i64 r, .int .i64 s, .int .i64 b, .int .i64 o, .int .i64 c, .int .i64 y, .int .i64 z, .slice (some ⟨gl, 0, none⟩) sn cl, .slice (some ⟨gd, 0, none⟩) pg cd, .slice (some ⟨gs, 0, none⟩) ns cs, .int .i64 ((pu : Nat) : Int), .int .i64 (((ru + 1) : Nat) : Int)] 118, .row (.slice (some ⟨gl, 0, none⟩) sn cl) 3 1 sn (List.map (Value.int .i64) L), .row (.slice (some ⟨gd, 0, none⟩) pg cd) 4 1 pg (List.map Value.bool D), .row (.slice (some ⟨gs, 0, none⟩) ns cs) 3 1 ns (List.map (Value.int .i64) S)] := by
  refine z_enter Try.func19 rfl ?_
  have H := H0
  obtain ⟨eL, eD, eS, hp, hr⟩ := id hM
  have hok := hL.ok
  obtain ⟨-, r1, r8, s0, s8, b1, b2, o1, o2, c1, c2, y0, y4, z0, z2, hpg, hsn, hns, sn1, pg2, ln0, ln2⟩ := id hL
  refine x_seq <| x_region <| x_b H [.m, .m] <| x_nil <| x_then <| x_seq <| x_region ?_
  refine x_b H [.m] <| z_callB H (FreeSpare_yes hL hM hz _ (H.ro1 [0, 1, 2, 3])) fun v1 H => x_b H [.m, .m, .m, .m, .m] <| x_nil <| x_then <| x_seq <| x_seq ?_
  refine x_region <| x_b H [.m, .m] <| x_nil <| x_then <| x_f (by kernel_rfl) <| x_skipc <| x_then ?_
  refine x_seq <| x_region <| x_b H [.m, .m, .m, .l 0 11] <| z_ar ((ru : Int) + 1) <| x_b H [.m, .m] <| z_store H 0 11 [.int .i64 ((ru : Int) + 1)] (fun v2 H => ?_)
  refine x_nil <| x_then <| x_seq <| x_region <| x_b H [.m, .m, .m] <| x_nil <| x_then ?_
  refine x_retc <| x_ret (.tuple #[.int .i64 (r + (ru : Int)), .int .i64 0]) (by kernel_rfl) (by kernel_rfl) ?_
  exact ⟨rfl, H⟩
set_option maxRecDepth 100000 in
set_option maxHeartbeats 1000000 in
theorem Retire_ok {r s b o c y z : Int} {pg sn ns : Nat} (hL : Lay r s b o c y z pg sn ns) {p gl cl gd cd gs cs : Nat} {L : List Int} {D : List Bool} {S : List Int} {pu ru : Nat} (hM : MapOk z s sn pg ns L D S pu ru) (h t : Nat) (hh : h < pg) (ht1 : sn ≤ t) (ht2 : t < sn + pu) (htp : t < pg) (dh : (D.getD h false) = false) (dt : (D.getD t false) = false) (hne : h ≠ t) (w0 : World) (H0 : Hs (fps [.blk p #[.int .i64 r, .int .i64 s, .int .i64 b, .int .i64 o, .int .i64 c, .int .i64 y, .int .i64 z, .slice (some ⟨gl, 0, none⟩) sn cl, .slice (some ⟨gd, 0, none⟩) pg cd, .slice (some ⟨gs, 0, none⟩) ns cs, .int .i64 ((pu : Nat) : Int), .int .i64 ((ru : Nat) : Int)] 118, .row (.slice (some ⟨gl, 0, none⟩) sn cl) 3 1 sn (List.map (Value.int .i64) L), .row (.slice (some ⟨gd, 0, none⟩) pg cd) 4 1 pg (List.map Value.bool D), .row (.slice (some ⟨gs, 0, none⟩) ns cs) 3 1 ns (List.map (Value.int .i64) S)]) w0 w0 [.blk p #[.int .i64 r, .int .i64 s, .int .i64 b, .int .i64 o, .int .i64 c, .int .i64 y, .int .i64 z, .slice (some ⟨gl, 0, none⟩) sn cl, .slice (some ⟨gd, 0, none⟩) pg cd, .slice (some ⟨gs, 0, none⟩) ns cs, .int .i64 ((pu : Nat) : Int), .int .i64 ((ru : Nat) : Int)] 118, .row (.slice (some ⟨gl, 0, none⟩) sn cl) 3 1 sn (List.map (Value.int .i64) L), .row (.slice (some ⟨gd, 0, none⟩) pg cd) 4 1 pg (List.map Value.bool D), .row (.slice (some ⟨gs, 0, none⟩) ns cs) 3 1 ns (List.map (Value.int .i64) S)]) :
    Calls Try.prog 68 #[.pointer (some ⟨p, 0, none⟩), .int .i64 ((h : Nat) : Int), .int .i64 ((t : Nat) : Int)] w0 fun e w' => e = .returned (.int .i64 0) ∧ Hs (fps [.blk p #[.int .i64 r, .int .i64 s, .int .i64 b, .int .i64 o, .int .i64 c, .int .i64 y, .int .i64 z, .slice (some ⟨gl, 0, none⟩) sn cl, .slice (some ⟨gd, 0, none⟩) pg cd, .slice (some ⟨gs, 0, none⟩) ns cs, .int .i64 ((pu : Nat) : Int), .int .i64 ((ru : Nat) : Int)] 118, .row (.slice (some ⟨gl, 0, none⟩) sn cl) 3 1 sn (List.map (Value.int .i64) L), .row (.slice (some ⟨gd, 0, none⟩) pg cd) 4 1 pg (List.map Value.bool D), .row (.slice (some ⟨gs, 0, none⟩) ns cs) 3 1 ns (List.map (Value.int .i64) S)]) w0 w' [.blk p #[.int .i64 r, .int .i64 s, .int .i64 b, .int .i64 o, .int .i64 c, .int .i64 y, .int .i64 z, .slice (some ⟨gl, 0, none⟩) sn cl, .slice (some ⟨gd, 0, none⟩) pg cd, .slice (some ⟨gs, 0, none⟩) ns cs, .int .i64 ((pu : Nat) : Int), .int .i64 ((ru : Nat) : Int)] 118, .row (.slice (some ⟨gl, 0, none⟩) sn cl) 3 1 sn (List.map (Value.int .i64) (retL ((h : Nat) : Int) ((t : Nat) : Int) L)), .row (.slice (some ⟨gd, 0, none⟩) pg cd) 4 1 pg (List.map Value.bool (D.set h true)), .row (.slice (some ⟨gs, 0, none⟩) ns cs) 3 1 ns (List.map (Value.int .i64) S)] := by
  refine z_enter Try.func68 rfl ?_
  have H := H0
  obtain ⟨eL, eD, eS, hp, hr⟩ := id hM
  have hok := hL.ok
  obtain ⟨-, r1, r8, s0, s8, b1, b2, o1, o2, c1, c2, y0, y4, z0, z2, hpg, hsn, hns, sn1, pg2, ln0, ln2⟩ := id hL
  have q1 : (decide (0 ≤ (h : Int)) && decide ((h : Int) < (pg : Int))) = true := by simp; omega
  have q2 : (decide (0 ≤ ((t : Int) - (sn : Int))) && decide (((t : Int) - (sn : Int)) < (pu : Int))) = true := by simp; omega
  have q3 : (decide ((h : Int) = (t : Int))) = false := by simp; omega
  refine x_seq <| x_region <| x_b H [.m] <| x_nil <| x_then <| x_seq <| x_block ?_
  refine x_seq <| z_region_whole H <| q_b [.m, .m, .m, .m, .l 0 8, .m] <| q_callB (.bool (decide (0 ≤ (h : Int)) && decide ((h : Int) < (pg : Int)))) (by kernel_rfl) (fun _ => by kernel_rfl) (fun _ => (below_any _ _ _)) <| q_b [.v (.bool (!(decide (0 ≤ (h : Int)) && decide ((h : Int) < (pg : Int))))), .v (.bool (!(decide (0 ≤ (h : Int)) && decide ((h : Int) < (pg : Int)))))] ?_
  rw [q1]
  refine q_b [.m, .m, .m, .m, .n 0 0 7 25] <| q_callB (.int .i64 (sn : Int)) (by kernel_rfl) (fun _ => by kernel_rfl) (fun _ => (seen_of hL _)) <| q_ar ((t : Int) - (sn : Int)) ⟨by omega, by omega⟩ (by kernel_rfl) (fun _ => by kernel_rfl) <| q_b [.m, .m, .m, .l 0 10] <| q_callB (.bool (decide (0 ≤ ((t : Int) - (sn : Int))) && decide (((t : Int) - (sn : Int)) < (pu : Int)))) (by kernel_rfl) (fun _ => by kernel_rfl) (fun _ => (below_any _ _ _)) <| q_b [.v (.bool (!(decide (0 ≤ ((t : Int) - (sn : Int))) && decide (((t : Int) - (sn : Int)) < (pu : Int))))), .v (.bool (!(decide (0 ≤ ((t : Int) - (sn : Int))) && decide (((t : Int) - (sn : Int)) < (pu : Int))))), .v (.bool (!(decide (0 ≤ ((t : Int) - (sn : Int))) && decide (((t : Int) - (sn : Int)) < (pu : Int)))))] <| q_nil ?_
  clear H
  intro v1 H
  refine x_then ?_
  rw [q2]
  refine x_f (by kernel_rfl) <| x_seq <| x_region <| x_b H [.m, .m, .m, .l 0 8, .m] <| x_ix (t := 116) gd 0 h pg cd 4 1 h (by omega) (by omega) (by kernel_rfl) (by kernel_rfl) (by kernel_rfl) rfl (by kernel_rfl) <| x_loadc gd h (.bool (D.getD h false)) (H.rowCell 2 rfl h (mapAt false (by omega))) (by kernel_rfl) rfl (by kernel_rfl) <| x_b H [.v (.bool (D.getD h false))] ?_
  rw [dh]
  refine x_b H [.m, .m, .m, .l 0 8, .m] <| x_ix (t := 116) gd 0 t pg cd 4 1 t (by omega) (by omega) (by kernel_rfl) (by kernel_rfl) (by kernel_rfl) rfl (by kernel_rfl) <| x_loadc gd t (.bool (D.getD t false)) (H.rowCell 2 rfl t (mapAt false (by omega))) (by kernel_rfl) rfl (by kernel_rfl) <| x_b H [.v (.bool (D.getD t false)), .v (.bool (D.getD t false))] ?_
  rw [dt]
  refine x_b H [.m, .m, .v (.bool (decide ((h : Int) = (t : Int)))), .v (.bool (decide ((h : Int) = (t : Int)))), .v (.bool (decide ((h : Int) = (t : Int))))] <| x_nil <| z_fr 82 [(0, .pointer (some ⟨p, 0, none⟩)), (1, .int .i64 (h : Int)), (2, .int .i64 (t : Int)), (33, .bool (decide ((h : Int) = (t : Int))))] [] fun uf1 => x_then ?_
  rw [q3]
  refine x_f (by kernel_rfl) <| x_skipc <| x_blk <| x_then <| x_seq <| x_region <| x_b H [.m, .m, .m, .l 0 8, .m] ?_
  refine x_ix (t := 116) gd 0 h pg cd 4 1 h (by omega) (by omega) (by kernel_rfl) (by kernel_rfl) (by kernel_rfl) rfl (by kernel_rfl) <| x_storeRow (t := 4) (v := .bool true) H 2 gd h pg cd 4 1 (List.map Value.bool D) [.bool true] (List.map Value.bool (D.set h true)) [.blk p #[.int .i64 r, .int .i64 s, .int .i64 b, .int .i64 o, .int .i64 c, .int .i64 y, .int .i64 z, .slice (some ⟨gl, 0, none⟩) sn cl, .slice (some ⟨gd, 0, none⟩) pg cd, .slice (some ⟨gs, 0, none⟩) ns cs, .int .i64 (pu : Int), .int .i64 (ru : Int)] 118, .row (.slice (some ⟨gl, 0, none⟩) sn cl) 3 1 sn (List.map (Value.int .i64) L), .row (.slice (some ⟨gd, 0, none⟩) pg cd) 4 1 pg (List.map Value.bool (D.set h true)), .row (.slice (some ⟨gs, 0, none⟩) ns cs) 3 1 ns (List.map (Value.int .i64) S)] rfl (by simp only [List.length_cons, List.length_nil]; omega) (by kernel_rfl) (setMap (by omega) true) rfl (by kernel_rfl) rfl (by kernel_rfl) (by kernel_rfl) (by kernel_rfl) ?_
  clear H
  intro v2 H
  refine x_nil <| x_then <| x_seq <| x_seq <| x_region <| x_b H [.m, .m, .m, .l 0 7, .m, .m] <| x_nil ?_
  refine x_then <| x_block ?_
  replace H : Hs (fps [.blk p #[.int .i64 r, .int .i64 s, .int .i64 b, .int .i64 o, .int .i64 c, .int .i64 y, .int .i64 z, .slice (some ⟨gl, 0, none⟩) sn cl, .slice (some ⟨gd, 0, none⟩) pg cd, .slice (some ⟨gs, 0, none⟩) ns cs, .int .i64 (pu : Int), .int .i64 (ru : Int)] 118, .row (.slice (some ⟨gl, 0, none⟩) sn cl) 3 1 sn (List.map (Value.int .i64) L), .row (.slice (some ⟨gd, 0, none⟩) pg cd) 4 1 pg (List.map Value.bool D), .row (.slice (some ⟨gs, 0, none⟩) ns cs) 3 1 ns (List.map (Value.int .i64) S)]) w0 v2 [.blk p #[.int .i64 r, .int .i64 s, .int .i64 b, .int .i64 o, .int .i64 c, .int .i64 y, .int .i64 z, .slice (some ⟨gl, 0, none⟩) sn cl, .slice (some ⟨gd, 0, none⟩) pg cd, .slice (some ⟨gs, 0, none⟩) ns cs, .int .i64 (pu : Int), .int .i64 (ru : Int)] 118, .row (.slice (some ⟨gl, 0, none⟩) sn cl) 3 1 sn (List.map (Value.int .i64) (rets (h : Int) (t : Int) L 0)), .row (.slice (some ⟨gd, 0, none⟩) pg cd) 4 1 pg (List.map Value.bool (D.set h true)), .row (.slice (some ⟨gs, 0, none⟩) ns cs) 3 1 ns (List.map (Value.int .i64) S)] := by rw [rets_zero]; exact H
  refine x_loop (G := Nat) (fun (k : Nat) a w' => ∃ uf2 : Nat → Value, a = frm 82 uf2 [(0, .pointer (some ⟨p, 0, none⟩)), (1, .int .i64 (h : Int)), (2, .int .i64 (t : Int)), (64, .slice (some ⟨gl, 0, none⟩) sn cl), (65, .int .i64 (sn : Int)), (66, .int .i64 (k : Int))] [] ∧ Hs (fps [.blk p #[.int .i64 r, .int .i64 s, .int .i64 b, .int .i64 o, .int .i64 c, .int .i64 y, .int .i64 z, .slice (some ⟨gl, 0, none⟩) sn cl, .slice (some ⟨gd, 0, none⟩) pg cd, .slice (some ⟨gs, 0, none⟩) ns cs, .int .i64 (pu : Int), .int .i64 (ru : Int)] 118, .row (.slice (some ⟨gl, 0, none⟩) sn cl) 3 1 sn (List.map (Value.int .i64) L), .row (.slice (some ⟨gd, 0, none⟩) pg cd) 4 1 pg (List.map Value.bool D), .row (.slice (some ⟨gs, 0, none⟩) ns cs) 3 1 ns (List.map (Value.int .i64) S)]) w0 w' [.blk p #[.int .i64 r, .int .i64 s, .int .i64 b, .int .i64 o, .int .i64 c, .int .i64 y, .int .i64 z, .slice (some ⟨gl, 0, none⟩) sn cl, .slice (some ⟨gd, 0, none⟩) pg cd, .slice (some ⟨gs, 0, none⟩) ns cs, .int .i64 (pu : Int), .int .i64 (ru : Int)] 118, .row (.slice (some ⟨gl, 0, none⟩) sn cl) 3 1 sn (List.map (Value.int .i64) (rets (h : Int) (t : Int) L k)), .row (.slice (some ⟨gd, 0, none⟩) pg cd) 4 1 pg (List.map Value.bool (D.set h true)), .row (.slice (some ⟨gs, 0, none⟩) ns cs) 3 1 ns (List.map (Value.int .i64) S)] ∧ (k ≤ sn)) (fun (k : Nat) => sn - k) 0 ⟨_, frm_of, H, (Nat.zero_le _)⟩ ?_
  clear H
  rintro k _ v3 ⟨uf2, rfl, H, r1⟩
  have hk := rets_len (h : Int) (t : Int) L k
  refine x_seq <| x_region <| x_b H [.v (.bool (decide ((k : Int) < (sn : Int))))] <| x_nil <| x_then <| x_seq ?_
  cases h1 : decide ((k : Int) < (sn : Int))
  · skip
    have h1p := of_decide_eq_false h1
    have kE : k = sn := by omega
    rw [kE, rets_end _ _ _ _ (by omega)] at H
    refine x_f (by kernel_rfl) <| x_exit <| x_then_exit <| x_then_exit <| x_blk_exit <| x_then <| x_seq ?_
    refine x_region <| x_b H [.m] <| x_nil <| x_then <| x_retc <| x_ret (.int .i64 0) (by kernel_rfl) (by kernel_rfl) ?_
    exact ⟨rfl, H⟩
  have h1p := of_decide_eq_true h1
  refine x_t (by kernel_rfl) <| x_skipc <| x_then <| x_seq <| x_block <| x_seq <| x_region ?_
  refine x_b H [.m] <| x_ix (t := 40) gl 0 k sn cl 3 1 k (by omega) (by omega) (by kernel_rfl) (by kernel_rfl) (by kernel_rfl) rfl (by kernel_rfl) <| x_loadc gl k (.int .i64 ((rets (h : Int) (t : Int) L k).getD k 0)) (H.rowCell 1 rfl k (mapAt 0 (by omega))) (by kernel_rfl) rfl (by kernel_rfl) <| x_b H [.m, .m] <| x_nil <| x_then <| x_seq ?_
  refine x_region <| x_b H [.m, .m, .v (.bool (decide (((rets (h : Int) (t : Int) L k).getD k 0) = (h : Int))))] <| x_nil <| x_then ?_
  cases h2 : decide (((rets (h : Int) (t : Int) L k).getD k 0) = (h : Int))
  · skip
    have h2p := of_decide_eq_false h2
    refine x_f (by kernel_rfl) <| x_skipc <| x_blk <| x_then <| x_region <| z_ar ((k : Int) + 1) <| x_b H [.m] ?_
    refine x_nil <| x_then ?_
    rw [← rets_no _ _ _ _ (by omega) (of_decide_eq_false h2)] at H
    exact ⟨(k + 1), (by omega), _, frm_of, H, (by omega)⟩
  have h2p := of_decide_eq_true h2
  refine x_t (by kernel_rfl) <| x_region <| x_b H [.m, .m, .m, .l 0 7, .m, .m] <| x_ix (t := 40) gl 0 k sn cl 3 1 k (by omega) (by omega) (by kernel_rfl) (by kernel_rfl) (by kernel_rfl) rfl (by kernel_rfl) <| x_storeRow (t := 3) (v := .int .i64 (t : Int)) H 1 gl k sn cl 3 1 (List.map (Value.int .i64) (rets (h : Int) (t : Int) L k)) [.int .i64 (t : Int)] (List.map (Value.int .i64) ((rets (h : Int) (t : Int) L k).set k (t : Int))) [.blk p #[.int .i64 r, .int .i64 s, .int .i64 b, .int .i64 o, .int .i64 c, .int .i64 y, .int .i64 z, .slice (some ⟨gl, 0, none⟩) sn cl, .slice (some ⟨gd, 0, none⟩) pg cd, .slice (some ⟨gs, 0, none⟩) ns cs, .int .i64 (pu : Int), .int .i64 (ru : Int)] 118, .row (.slice (some ⟨gl, 0, none⟩) sn cl) 3 1 sn (List.map (Value.int .i64) ((rets (h : Int) (t : Int) L k).set k (t : Int))), .row (.slice (some ⟨gd, 0, none⟩) pg cd) 4 1 pg (List.map Value.bool (D.set h true)), .row (.slice (some ⟨gs, 0, none⟩) ns cs) 3 1 ns (List.map (Value.int .i64) S)] rfl (by simp only [List.length_cons, List.length_nil]; omega) (by kernel_rfl) (setMap (by omega) (t : Int)) rfl (by kernel_rfl) rfl (by kernel_rfl) (by kernel_rfl) (by kernel_rfl) ?_
  clear H
  intro v4 H
  refine x_nil <| x_blk <| x_then <| x_region <| z_ar ((k : Int) + 1) <| x_b H [.m] <| x_nil ?_
  refine x_then ?_
  rw [← rets_yes _ _ _ _ (by omega) (of_decide_eq_true h2)] at H
  exact ⟨(k + 1), (by omega), _, frm_of, H, (by omega)⟩
set_option maxRecDepth 100000 in
set_option maxHeartbeats 1000000 in
theorem New_yes {r s b o c y z : Int} {pg sn ns : Nat} (hL : Lay r s b o c y z pg sn ns) (w0 : World) :
    Calls Try.prog 15 #[.agg #[.int .i64 r, .int .i64 s, .int .i64 b, .int .i64 o, .int .i64 c, .int .i64 y, .int .i64 z]] w0 fun e w' => ∃ p gl cl gd cd gs cs, e = .returned (.tuple #[.pointer (some ⟨p, 0, none⟩), .int .i64 0]) ∧ Hs [] w0 w' [.blk p #[.int .i64 r, .int .i64 s, .int .i64 b, .int .i64 o, .int .i64 c, .int .i64 y, .int .i64 z, .slice (some ⟨gl, 0, none⟩) sn cl, .slice (some ⟨gd, 0, none⟩) pg cd, .slice (some ⟨gs, 0, none⟩) ns cs, .int .i64 ((0 : Nat) : Int), .int .i64 ((0 : Nat) : Int)] 118, .row (.slice (some ⟨gl, 0, none⟩) sn cl) 3 1 sn (List.map (Value.int .i64) (iota sn)), .row (.slice (some ⟨gd, 0, none⟩) pg cd) 4 1 pg (List.map Value.bool (List.replicate pg false)), .row (.slice (some ⟨gs, 0, none⟩) ns cs) 3 1 ns (List.map (Value.int .i64) (List.replicate ns (-1)))] := by
  refine z_enter Try.func15 rfl ?_
  have H := Hs.nil w0
  have hok := hL.ok
  obtain ⟨-, r1, r8, s0, s8, b1, b2, o1, o2, c1, c2, y0, y4, z0, z2, hpg, hsn, hns, sn1, pg2, ln0, ln2⟩ := id hL
  refine x_seq <| x_region <| z_box H #[.int .i64 r, .int .i64 s, .int .i64 b, .int .i64 o, .int .i64 c, .int .i64 y, .int .i64 z] 25 (fun v1 g1 H => ?_)
  refine x_b H [.m, .m] <| x_nil <| x_then <| x_seq <| x_seq <| x_region <| x_b H [.n 0 0 7 25] ?_
  refine z_callB (v := .bool (layoutOk r s b o c y z)) H (lRight_any _ _ _ _ _ _ _ (by omega) (by omega) (by omega) (by omega) _) fun v2 H => x_b H [.v (.bool (!(layoutOk r s b o c y z)))] <| x_nil <| x_then ?_
  rw [hok]
  refine x_f (by kernel_rfl) <| x_skipc <| x_then <| x_seq <| z_region_s H 8 [0] <| s_b [(0, .n 0 0 7 25), (1, .m), (2, .n 0 0 5 23)] 5 <| s_c 3 (fun _ _ => (pages_of hL _)) ?_
  refine s_one 4 rfl (by kernel_rfl) rfl ?_
  clear H
  intro v3 H
  refine x_make H 116 4 1 pg (.bool false) (by kernel_rfl) (by kernel_rfl) rfl (by unfold maxLen; omega) (by omega) (by kernel_rfl) rfl (by kernel_rfl) ?_
  clear H
  intro v4 g2 H
  rw [show (List.replicate pg (.bool false)) = (List.map Value.bool (List.replicate pg false)) from (by rw [List.map_replicate])] at H
  refine x_nil <| x_then <| z_next H [0, 1] [1] rfl <| s_b [(5, .m)] 2 <| s_one 6 rfl (by kernel_rfl) rfl ?_
  clear H
  intro v5 H
  refine z_box H #[.int .i64 r, .int .i64 s, .int .i64 b, .int .i64 o, .int .i64 c, .int .i64 y, .int .i64 z, .slice none 0 0, .slice (some ⟨g2, 0, none⟩) pg pg, .slice none 0 0, .int .i64 0, .int .i64 0] 118 (fun v6 g3 H => ?_)
  refine x_nil <| x_then <| z_next H [0, 1, 2] [1, 2] rfl <| s_b [(7, .m)] 0 <| s_done (by kernel_rfl) ?_
  clear H
  intro v7 H
  refine x_then <| x_seq <| x_seq <| x_region <| x_b H [.n 2 0 7 25] <| z_callB H (seen_of hL _) fun v8 H => x_b H [.m] ?_
  refine x_nil <| x_then <| x_block ?_
  replace H := H.nilRow 3 1
  refine x_loop (G := Nat × Value) (fun gh a w' => match gh with | (k, vl) => ∃ uf1 : Nat → Value, a = frm 48 uf1 [(1, .pointer (some ⟨g1, 0, none⟩)), (4, .pointer (some ⟨g3, 0, none⟩)), (17, .int .i64 (sn : Int)), (18, .int .i64 (k : Int))] [] ∧ Hs [] w0 w' [.row (vl) 3 1 k (List.map (Value.int .i64) (iota k)), .blk g3 #[.int .i64 r, .int .i64 s, .int .i64 b, .int .i64 o, .int .i64 c, .int .i64 y, .int .i64 z, vl, .slice (some ⟨g2, 0, none⟩) pg pg, .slice none 0 0, .int .i64 0, .int .i64 0] 118, .row (.slice (some ⟨g2, 0, none⟩) pg pg) 4 1 pg (List.map Value.bool (List.replicate pg false)), .blk g1 #[.int .i64 r, .int .i64 s, .int .i64 b, .int .i64 o, .int .i64 c, .int .i64 y, .int .i64 z] 25] ∧ (k ≤ sn)) (fun gh => match gh with | (k, vl) => sn - k) (0, .slice none 0 0) ⟨_, frm_of, H, (Nat.zero_le _)⟩ ?_
  clear H
  rintro ⟨k, vl⟩ _ v9 ⟨uf1, rfl, H, r1⟩
  refine x_seq <| x_region <| x_b H [.v (.bool (decide ((k : Int) < (sn : Int))))] <| x_nil <| x_then <| x_seq ?_
  cases h1 : decide ((k : Int) < (sn : Int))
  · skip
    have h1p := of_decide_eq_false h1
    refine x_f (by kernel_rfl) <| x_exit <| x_then_exit <| x_then_exit <| x_blk_exit <| x_then <| x_seq ?_
    refine x_seq <| x_region <| x_b H [.m, .m, .l 3 0, .m] <| x_nil <| x_then <| x_block ?_
    replace H := H.nilRow 3 1
    refine x_loop (G := Nat × Value) (fun gh a w' => match gh with | (j, vs) => ∃ uf2 : Nat → Value, a = frm 48 uf2 [(4, .pointer (some ⟨g3, 0, none⟩)), (34, .int .i64 r), (35, .int .i64 (j : Int))] [] ∧ Hs [] w0 w' [.row (vs) 3 1 j (List.map (Value.int .i64) (List.replicate j (-1))), .row (vl) 3 1 k (List.map (Value.int .i64) (iota k)), .blk g3 #[.int .i64 r, .int .i64 s, .int .i64 b, .int .i64 o, .int .i64 c, .int .i64 y, .int .i64 z, vl, .slice (some ⟨g2, 0, none⟩) pg pg, vs, .int .i64 0, .int .i64 0] 118, .row (.slice (some ⟨g2, 0, none⟩) pg pg) 4 1 pg (List.map Value.bool (List.replicate pg false)), .blk g1 #[.int .i64 r, .int .i64 s, .int .i64 b, .int .i64 o, .int .i64 c, .int .i64 y, .int .i64 z] 25] ∧ (j ≤ ns)) (fun gh => match gh with | (j, vs) => ns - j) (0, .slice none 0 0) ⟨_, frm_of, H, (Nat.zero_le _)⟩ ?_
    clear H
    rintro ⟨j, vs⟩ _ v10 ⟨uf2, rfl, H, r1⟩
    refine x_seq <| x_region <| x_b H [.v (.bool (decide ((j : Int) < r)))] <| x_nil <| x_then <| x_seq ?_
    cases h2 : decide ((j : Int) < r)
    · skip
      have h2p := of_decide_eq_false h2
      refine x_f (by kernel_rfl) <| x_exit <| x_then_exit <| x_then_exit <| x_blk_exit <| x_then <| x_seq ?_
      refine x_region <| x_b H [.m, .m, .m] <| x_nil <| x_then <| x_retc <| x_ret (.tuple #[.pointer (some ⟨g3, 0, none⟩), .int .i64 0]) (by kernel_rfl) (by kernel_rfl) ?_
      obtain rfl : k = sn := by omega
      obtain rfl : j = ns := by omega
      obtain ⟨gl, cl, rfl, -⟩ := rowSome (H.ok 1 _ rfl) (by omega)
      obtain ⟨gs, cs, rfl, -⟩ := rowSome (H.ok 0 _ rfl) (by omega)
      exact ⟨_, _, _, _, _, _, _, rfl, H.pick [2, 1, 3, 0] _ (by decide) rfl⟩
    have h2p := of_decide_eq_true h2
    refine x_t (by kernel_rfl) <| x_skipc <| x_then <| x_seq <| x_block <| x_region <| x_b H [.m, .m, .m, .m, .l 2 9] ?_
    refine x_box' H #[.int .i64 (-1)] 3 1 (by kernel_rfl) rfl (by kernel_rfl) ?_
    clear H
    intro v11 g4 H
    refine x_append H 1 (vs) 40 3 1 8 j (.int .i64 0) (List.map (Value.int .i64) (List.replicate j (-1))) ⟨g4, 0, none⟩ 1 1 [.int .i64 (-1)] rfl (by kernel_rfl) (by kernel_rfl) rfl (by decide) (by decide) rfl (fun j u hj => by rw [add_none]; exact cellOf (H.blk 0 rfl) (by simpa using hj)) (List.all_eq_true.1 (by kernel_rfl)) (by unfold maxLen; omega) (by omega) (by kernel_rfl) rfl (by kernel_rfl) ?_
    clear H
    intro v12 g5 c5 hc5 H
    rw [show (List.map (Value.int .i64) (List.replicate j (-1))) ++ [.int .i64 (-1)] = (List.map (Value.int .i64) (List.replicate (j + 1) (-1))) from (by rw [List.replicate_succ', List.map_append]; rfl)] at H
    replace H := H.pk [1, 2, 3, 4, 5]
    refine x_b H [.m, .m] <| z_store H 2 9 [.slice (some ⟨g5, 0, none⟩) (j + 1) c5] (fun v13 H => ?_)
    refine x_nil <| x_blk <| x_then <| x_region <| z_ar ((j : Int) + 1) <| x_b H [.m] <| x_nil ?_
    refine x_then ?_
    exact ⟨(j + 1, .slice (some ⟨g5, 0, none⟩) (j + 1) c5), (by dsimp only; omega), _, frm_of, H, (by omega)⟩
  have h1p := of_decide_eq_true h1
  refine x_t (by kernel_rfl) <| x_skipc <| x_then <| x_seq <| x_block <| x_seq <| x_region ?_
  refine x_b H [.m, .m] <| x_nil <| x_then <| x_region <| x_b H [.m, .m, .m, .m, .l 1 7, .m] <| x_box' H #[.int .i64 (k : Int)] 3 1 (by kernel_rfl) rfl (by kernel_rfl) ?_
  clear H
  intro v14 g6 H
  refine x_append H 1 (vl) 40 3 1 8 k (.int .i64 0) (List.map (Value.int .i64) (iota k)) ⟨g6, 0, none⟩ 1 1 [.int .i64 (k : Int)] rfl (by kernel_rfl) (by kernel_rfl) rfl (by decide) (by decide) rfl (fun j u hj => by rw [add_none]; exact cellOf (H.blk 0 rfl) (by simpa using hj)) (List.all_eq_true.1 (by kernel_rfl)) (by unfold maxLen; omega) (by omega) (by kernel_rfl) rfl (by kernel_rfl) ?_
  clear H
  intro v15 g7 c7 hc7 H
  rw [show (List.map (Value.int .i64) (iota k)) ++ [.int .i64 (k : Int)] = (List.map (Value.int .i64) (iota (k + 1))) from (by rw [iota_succ, List.map_append]; rfl)] at H
  replace H := H.pk [1, 2, 3, 4]
  refine x_b H [.m, .m] <| z_store H 1 7 [.slice (some ⟨g7, 0, none⟩) (k + 1) c7] (fun v16 H => ?_)
  refine x_nil <| x_blk <| x_then <| x_region <| z_ar ((k : Int) + 1) <| x_b H [.m] <| x_nil ?_
  refine x_then ?_
  exact ⟨(k + 1, .slice (some ⟨g7, 0, none⟩) (k + 1) c7), (by dsimp only; omega), _, frm_of, H, (by omega)⟩
set_option maxRecDepth 100000 in
set_option maxHeartbeats 1000000 in
theorem New_no (r s b o c y z : Int) (hb : r ≤ 9223372036854775807 ∧ b ≤ 9223372036854775807 ∧ o ≤ 9223372036854775807 ∧ c ≤ 9223372036854775807) (hok : layoutOk r s b o c y z = false) (w0 : World) :
    Calls Try.prog 15 #[.agg #[.int .i64 r, .int .i64 s, .int .i64 b, .int .i64 o, .int .i64 c, .int .i64 y, .int .i64 z]] w0 fun e w' => e = .returned (.tuple #[.pointer none, .int .i64 22]) ∧ Below w0.heap.size w0 w' := by
  refine z_enter Try.func15 rfl ?_
  have H := Hs.nil w0
  obtain ⟨hb1, hb2, hb3, hb4⟩ := hb
  refine x_seq <| x_region <| z_box H #[.int .i64 r, .int .i64 s, .int .i64 b, .int .i64 o, .int .i64 c, .int .i64 y, .int .i64 z] 25 (fun v1 g1 H => ?_)
  refine x_b H [.m, .m] <| x_nil <| x_then <| x_seq <| x_seq <| x_region <| x_b H [.n 0 0 7 25] ?_
  refine z_callB (v := .bool (layoutOk r s b o c y z)) H (lRight_any _ _ _ _ _ _ _ (by omega) (by omega) (by omega) (by omega) _) fun v2 H => x_b H [.v (.bool (!(layoutOk r s b o c y z)))] <| x_nil <| x_then ?_
  rw [hok]
  refine x_t (by kernel_rfl) <| x_seq <| x_region <| x_b H [.m, .m] <| x_nil <| x_then <| x_retc ?_
  refine x_then_ret <| x_ret (.tuple #[.pointer none, .int .i64 22]) (by kernel_rfl) (by kernel_rfl) ?_
  exact ⟨rfl, H.below⟩
end Go.Proofs.Ytpmnnijjohlloaa
