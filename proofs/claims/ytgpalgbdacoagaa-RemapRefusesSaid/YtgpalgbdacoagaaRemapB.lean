/- Contracts of remap.Map: what is changed, and what is made. -/
import Derived.Test.YtgpalgbdacoagaaRemapA
namespace Go.Proofs.Ytgpalgbdacoagaa
open Go Go.RowKit
set_option linter.unusedVariables false
set_option linter.unusedSimpArgs false

def iota (n : Nat) : List Int := (List.range n).map fun (i : Nat) => (i : Int)
theorem iota_succ (n : Nat) : iota (n + 1) = iota n ++ [(n : Int)] := by simp [iota, List.range_succ]
theorem iota_len (n : Nat) : (iota n).length = n := by simp [iota]
theorem iota_get (n k : Nat) (d : Int) (h : k < n) : (iota n).getD k d = (k : Int) := by simp [iota, List.getD, h]
theorem rep_get {α : Type} (n k : Nat) (x : α) : (List.replicate n x).getD k x = x := by
  simp only [List.getD, List.getElem?_replicate]; split <;> rfl
def rets (home to : Int) (L : List Int) (k : Nat) : List Int := (L.take k).map (fun x => if x = home then to else x) ++ L.drop k
def retL (home to : Int) (L : List Int) : List Int := L.map (fun x => if x = home then to else x)
theorem rets_zero (home to : Int) (L : List Int) : rets home to L 0 = L := by simp [rets]
theorem rets_len (home to : Int) (L : List Int) (k : Nat) : (rets home to L k).length = L.length := by
  simp only [rets, List.length_append, List.length_map, List.length_take, List.length_drop]; omega
theorem rets_end (home to : Int) (L : List Int) (k : Nat) (h : L.length ≤ k) : rets home to L k = retL home to L := by
  simp [rets, retL, List.take_of_length_le h, List.drop_eq_nil_of_le h]
theorem rets_get (home to : Int) (L : List Int) (k : Nat) (h : k < L.length) : (rets home to L k).getD k 0 = L.getD k 0 := by
  have : ((L.take k).map (fun x => if x = home then to else x)).length = k := by simp; omega
  simp only [rets, List.getD]
  rw [List.getElem?_append_right (by omega), this]
  simp
theorem rets_next (home to : Int) (L : List Int) (k : Nat) (h : k < L.length) : rets home to L (k + 1) = (L.take k).map (fun x => if x = home then to else x) ++ (if L.getD k 0 = home then to else L.getD k 0) :: L.drop (k + 1) := by
  have e : L.getD k 0 = L[k] := by simp [List.getD, h]
  rw [e]
  simp only [rets, List.take_succ_eq_append_getElem h, List.map_append, List.map_cons, List.map_nil, List.append_assoc, List.singleton_append]
theorem rets_no (home to : Int) (L : List Int) (k : Nat) (h : k < L.length) (hn : ¬ (rets home to L k).getD k 0 = home) : rets home to L (k + 1) = rets home to L k := by
  rw [rets_get _ _ _ _ h] at hn
  rw [rets_next _ _ _ _ h, if_neg hn]
  have e : L.getD k 0 = L[k] := by simp [List.getD, h]
  rw [e, rets, List.drop_eq_getElem_cons h]
theorem rets_yes (home to : Int) (L : List Int) (k : Nat) (h : k < L.length) (hn : (rets home to L k).getD k 0 = home) : rets home to L (k + 1) = (rets home to L k).set k to := by
  rw [rets_get _ _ _ _ h] at hn
  rw [rets_next _ _ _ _ h, if_pos hn]
  have hl : ((L.take k).map (fun x => if x = home then to else x)).length = k := by simp; omega
  rw [rets, List.set_append_right _ _ (by omega), hl, Nat.sub_self, List.drop_eq_getElem_cons h]
  rfl

set_option maxRecDepth 100000 in
set_option maxHeartbeats 1000000 in
theorem TakePage_no {r s b o c y z : Int} {pg sn ns : Nat} (hL : Lay r s b o c y z pg sn ns) {p gl cl gd cd gs cs : Nat} {L : List Int} {D : List Bool} {S : List Int} {pu ru : Nat} (hM : MapOk z s sn pg ns L D S pu ru) (hz : ((pu : Nat) : Int) = z) (w0 : World) (H0 : Hs (fps [.blk p #[.int .i64 r, .int .i64 s, .int .i64 b, .int .i64 o, .int .i64 c, .int .i64 y, .int .i64 z, .slice (some ⟨gl, 0, none⟩) sn cl, .slice (some ⟨gd, 0, none⟩) pg cd, .slice (some ⟨gs, 0, none⟩) ns cs, .int .i64 ((pu : Nat) : Int), .int .i64 ((ru : Nat) : Int)] 181, .row (.slice (some ⟨gl, 0, none⟩) sn cl) 3 1 sn (List.map (Value.int .i64) L), .row (.slice (some ⟨gd, 0, none⟩) pg cd) 4 1 pg (List.map Value.bool D), .row (.slice (some ⟨gs, 0, none⟩) ns cs) 3 1 ns (List.map (Value.int .i64) S)]) w0 w0 [.blk p #[.int .i64 r, .int .i64 s, .int .i64 b, .int .i64 o, .int .i64 c, .int .i64 y, .int .i64 z, .slice (some ⟨gl, 0, none⟩) sn cl, .slice (some ⟨gd, 0, none⟩) pg cd, .slice (some ⟨gs, 0, none⟩) ns cs, .int .i64 ((pu : Nat) : Int), .int .i64 ((ru : Nat) : Int)] 181, .row (.slice (some ⟨gl, 0, none⟩) sn cl) 3 1 sn (List.map (Value.int .i64) L), .row (.slice (some ⟨gd, 0, none⟩) pg cd) 4 1 pg (List.map Value.bool D), .row (.slice (some ⟨gs, 0, none⟩) ns cs) 3 1 ns (List.map (Value.int .i64) S)]) :
    Calls Try.prog 35 #[.pointer (some ⟨p, 0, none⟩)] w0 fun e w' => e = .returned (.tuple #[.int .i64 0, .int .i64 52]) ∧ Hs (fps [.blk p #[.int .i64 r, .int .i64 s, .int .i64 b, .int .i64 o, .int .i64 c, .int .i64 y, .int .i64 z, .slice (some ⟨gl, 0, none⟩) sn cl, .slice (some ⟨gd, 0, none⟩) pg cd, .slice (some ⟨gs, 0, none⟩) ns cs, .int .i64 ((pu : Nat) : Int), .int .i64 ((ru : Nat) : Int)] 181, .row (.slice (some ⟨gl, 0, none⟩) sn cl) 3 1 sn (List.map (Value.int .i64) L), .row (.slice (some ⟨gd, 0, none⟩) pg cd) 4 1 pg (List.map Value.bool D), .row (.slice (some ⟨gs, 0, none⟩) ns cs) 3 1 ns (List.map (Value.int .i64) S)]) w0 w' [.blk p #[.int .i64 r, .int .i64 s, .int .i64 b, .int .i64 o, .int .i64 c, .int .i64 y, .int .i64 z, .slice (some ⟨gl, 0, none⟩) sn cl, .slice (some ⟨gd, 0, none⟩) pg cd, .slice (some ⟨gs, 0, none⟩) ns cs, .int .i64 ((pu : Nat) : Int), .int .i64 ((ru : Nat) : Int)] 181, .row (.slice (some ⟨gl, 0, none⟩) sn cl) 3 1 sn (List.map (Value.int .i64) L), .row (.slice (some ⟨gd, 0, none⟩) pg cd) 4 1 pg (List.map Value.bool D), .row (.slice (some ⟨gs, 0, none⟩) ns cs) 3 1 ns (List.map (Value.int .i64) S)] := by
  refine x_enter Try.func35 rfl #[.pointer (some ⟨p, 0, none⟩), undef, undef, undef, undef, undef, undef, undef, undef, undef, undef, undef, undef, undef, undef, undef, undef, undef, undef, undef, undef] (by kernel_rfl) ?_
  have H := H0
  obtain ⟨eL, eD, eS, hp, hr⟩ := id hM
  have hok := hL.ok
  obtain ⟨-, r1, r8, s0, s8, b1, b2, o1, o2, c1, c2, y0, y4, z0, z2, hpg, hsn, hns, sn1, pg2, ln0, ln2⟩ := id hL
  refine x_seq ?_
  refine x_region ?_
  refine x_val (.int .i64 0) (by kernel_rfl) rfl (by kernel_rfl) ?_
  refine x_val (.int .i64 0) (by kernel_rfl) rfl (by kernel_rfl) ?_
  refine x_nil ?_
  refine x_then ?_
  refine x_seq ?_
  refine x_region ?_
  refine x_val (.pointer (some ⟨p, 0, none⟩)) (by kernel_rfl) rfl (by kernel_rfl) ?_
  refine x_callB (.tuple #[.int .i64 0, .bool false]) H (by kernel_rfl) rfl (by kernel_rfl) (FreePage_no hL hM hz _ (H.roOf [0, 1, 2, 3] [.blk p #[.int .i64 r, .int .i64 s, .int .i64 b, .int .i64 o, .int .i64 c, .int .i64 y, .int .i64 z, .slice (some ⟨gl, 0, none⟩) sn cl, .slice (some ⟨gd, 0, none⟩) pg cd, .slice (some ⟨gs, 0, none⟩) ns cs, .int .i64 ((pu : Nat) : Int), .int .i64 ((ru : Nat) : Int)] 181, .row (.slice (some ⟨gl, 0, none⟩) sn cl) 3 1 sn (List.map (Value.int .i64) L), .row (.slice (some ⟨gd, 0, none⟩) pg cd) 4 1 pg (List.map Value.bool D), .row (.slice (some ⟨gs, 0, none⟩) ns cs) 3 1 ns (List.map (Value.int .i64) S)] (by kernel_rfl))) ?_
  clear H
  intro v1 H
  refine x_val (.tuple #[.int .i64 0, .bool false]) (by kernel_rfl) rfl (by kernel_rfl) ?_
  refine x_val (.int .i64 0) (by kernel_rfl) rfl (by kernel_rfl) ?_
  refine x_val (.bool false) (by kernel_rfl) rfl (by kernel_rfl) ?_
  refine x_val (.int .i64 0) (by kernel_rfl) rfl (by kernel_rfl) ?_
  refine x_val (.bool false) (by kernel_rfl) rfl (by kernel_rfl) ?_
  refine x_nil ?_
  refine x_then ?_
  refine x_seq ?_
  refine x_seq ?_
  refine x_region ?_
  refine x_val (.bool false) (by kernel_rfl) rfl (by kernel_rfl) ?_
  refine x_val (.bool true) (by kernel_rfl) rfl (by kernel_rfl) ?_
  refine x_nil ?_
  refine x_then ?_
  refine x_t (by kernel_rfl) ?_
  refine x_seq ?_
  refine x_region ?_
  refine x_val (.int .i64 0) (by kernel_rfl) rfl (by kernel_rfl) ?_
  refine x_val (.int .i64 52) (by kernel_rfl) rfl (by kernel_rfl) ?_
  refine x_nil ?_
  refine x_frame' { tmps := #[.pointer (some ⟨p, 0, none⟩), undef, .int .i64 0, .int .i64 52, .int .i64 0, .bool false, .tuple #[.int .i64 0, .bool false], .pointer (some ⟨p, 0, none⟩), .tuple #[.int .i64 0, .bool false], .int .i64 0, .bool false, .bool false, .bool true, undef, undef, undef, undef, undef, undef, undef, undef], defers := [] } (by kernel_rfl) ?_
  refine x_then ?_
  refine x_retc ?_
  refine x_then_ret ?_
  refine x_ret (.tuple #[.int .i64 0, .int .i64 52]) (by kernel_rfl) (by kernel_rfl) ?_
  exact ⟨rfl, H⟩

set_option maxRecDepth 100000 in
set_option maxHeartbeats 1000000 in
theorem TakePage_yes {r s b o c y z : Int} {pg sn ns : Nat} (hL : Lay r s b o c y z pg sn ns) {p gl cl gd cd gs cs : Nat} {L : List Int} {D : List Bool} {S : List Int} {pu ru : Nat} (hM : MapOk z s sn pg ns L D S pu ru) (hz : ¬ ((pu : Nat) : Int) = z) (w0 : World) (H0 : Hs (fps [.blk p #[.int .i64 r, .int .i64 s, .int .i64 b, .int .i64 o, .int .i64 c, .int .i64 y, .int .i64 z, .slice (some ⟨gl, 0, none⟩) sn cl, .slice (some ⟨gd, 0, none⟩) pg cd, .slice (some ⟨gs, 0, none⟩) ns cs, .int .i64 ((pu : Nat) : Int), .int .i64 ((ru : Nat) : Int)] 181, .row (.slice (some ⟨gl, 0, none⟩) sn cl) 3 1 sn (List.map (Value.int .i64) L), .row (.slice (some ⟨gd, 0, none⟩) pg cd) 4 1 pg (List.map Value.bool D), .row (.slice (some ⟨gs, 0, none⟩) ns cs) 3 1 ns (List.map (Value.int .i64) S)]) w0 w0 [.blk p #[.int .i64 r, .int .i64 s, .int .i64 b, .int .i64 o, .int .i64 c, .int .i64 y, .int .i64 z, .slice (some ⟨gl, 0, none⟩) sn cl, .slice (some ⟨gd, 0, none⟩) pg cd, .slice (some ⟨gs, 0, none⟩) ns cs, .int .i64 ((pu : Nat) : Int), .int .i64 ((ru : Nat) : Int)] 181, .row (.slice (some ⟨gl, 0, none⟩) sn cl) 3 1 sn (List.map (Value.int .i64) L), .row (.slice (some ⟨gd, 0, none⟩) pg cd) 4 1 pg (List.map Value.bool D), .row (.slice (some ⟨gs, 0, none⟩) ns cs) 3 1 ns (List.map (Value.int .i64) S)]) :
    Calls Try.prog 35 #[.pointer (some ⟨p, 0, none⟩)] w0 fun e w' => e = .returned (.tuple #[.int .i64 (((sn : Nat) : Int) + ((pu : Nat) : Int)), .int .i64 0]) ∧ Hs (fps [.blk p #[.int .i64 r, .int .i64 s, .int .i64 b, .int .i64 o, .int .i64 c, .int .i64 y, .int .i64 z, .slice (some ⟨gl, 0, none⟩) sn cl, .slice (some ⟨gd, 0, none⟩) pg cd, .slice (some ⟨gs, 0, none⟩) ns cs, .int .i64 ((pu : Nat) : Int), .int .i64 ((ru : Nat) : Int)] 181, .row (.slice (some ⟨gl, 0, none⟩) sn cl) 3 1 sn (List.map (Value.int .i64) L), .row (.slice (some ⟨gd, 0, none⟩) pg cd) 4 1 pg (List.map Value.bool D), .row (.slice (some ⟨gs, 0, none⟩) ns cs) 3 1 ns (List.map (Value.int .i64) S)]) w0 w' [.blk p #[.int .i64 r, .int .i64 s, .int .i64 b, .int .i64 o, .int .i64 c, .int .i64 y, .int .i64 z, .slice (some ⟨gl, 0, none⟩) sn cl, .slice (some ⟨gd, 0, none⟩) pg cd, .slice (some ⟨gs, 0, none⟩) ns cs, .int .i64 (((pu + 1) : Nat) : Int), .int .i64 ((ru : Nat) : Int)] 181, .row (.slice (some ⟨gl, 0, none⟩) sn cl) 3 1 sn (List.map (Value.int .i64) L), .row (.slice (some ⟨gd, 0, none⟩) pg cd) 4 1 pg (List.map Value.bool D), .row (.slice (some ⟨gs, 0, none⟩) ns cs) 3 1 ns (List.map (Value.int .i64) S)] := by
  refine x_enter Try.func35 rfl #[.pointer (some ⟨p, 0, none⟩), undef, undef, undef, undef, undef, undef, undef, undef, undef, undef, undef, undef, undef, undef, undef, undef, undef, undef, undef, undef] (by kernel_rfl) ?_
  have H := H0
  obtain ⟨eL, eD, eS, hp, hr⟩ := id hM
  have hok := hL.ok
  obtain ⟨-, r1, r8, s0, s8, b1, b2, o1, o2, c1, c2, y0, y4, z0, z2, hpg, hsn, hns, sn1, pg2, ln0, ln2⟩ := id hL
  refine x_seq ?_
  refine x_region ?_
  refine x_val (.int .i64 0) (by kernel_rfl) rfl (by kernel_rfl) ?_
  refine x_val (.int .i64 0) (by kernel_rfl) rfl (by kernel_rfl) ?_
  refine x_nil ?_
  refine x_then ?_
  refine x_seq ?_
  refine x_region ?_
  refine x_val (.pointer (some ⟨p, 0, none⟩)) (by kernel_rfl) rfl (by kernel_rfl) ?_
  refine x_callB (.tuple #[.int .i64 (((sn : Nat) : Int) + ((pu : Nat) : Int)), .bool true]) H (by kernel_rfl) rfl (by kernel_rfl) (FreePage_yes hL hM hz _ (H.roOf [0, 1, 2, 3] [.blk p #[.int .i64 r, .int .i64 s, .int .i64 b, .int .i64 o, .int .i64 c, .int .i64 y, .int .i64 z, .slice (some ⟨gl, 0, none⟩) sn cl, .slice (some ⟨gd, 0, none⟩) pg cd, .slice (some ⟨gs, 0, none⟩) ns cs, .int .i64 ((pu : Nat) : Int), .int .i64 ((ru : Nat) : Int)] 181, .row (.slice (some ⟨gl, 0, none⟩) sn cl) 3 1 sn (List.map (Value.int .i64) L), .row (.slice (some ⟨gd, 0, none⟩) pg cd) 4 1 pg (List.map Value.bool D), .row (.slice (some ⟨gs, 0, none⟩) ns cs) 3 1 ns (List.map (Value.int .i64) S)] (by kernel_rfl))) ?_
  clear H
  intro v1 H
  refine x_val (.tuple #[.int .i64 (((sn : Nat) : Int) + ((pu : Nat) : Int)), .bool true]) (by kernel_rfl) rfl (by kernel_rfl) ?_
  refine x_val (.int .i64 (((sn : Nat) : Int) + ((pu : Nat) : Int))) (by kernel_rfl) rfl (by kernel_rfl) ?_
  refine x_val (.bool true) (by kernel_rfl) rfl (by kernel_rfl) ?_
  refine x_val (.int .i64 (((sn : Nat) : Int) + ((pu : Nat) : Int))) (by kernel_rfl) rfl (by kernel_rfl) ?_
  refine x_val (.bool true) (by kernel_rfl) rfl (by kernel_rfl) ?_
  refine x_nil ?_
  refine x_then ?_
  refine x_seq ?_
  refine x_seq ?_
  refine x_region ?_
  refine x_val (.bool true) (by kernel_rfl) rfl (by kernel_rfl) ?_
  refine x_val (.bool false) (by kernel_rfl) rfl (by kernel_rfl) ?_
  refine x_nil ?_
  refine x_then ?_
  refine x_f (by kernel_rfl) ?_
  refine x_skipc ?_
  refine x_then ?_
  refine x_seq ?_
  refine x_region ?_
  refine x_val (.pointer (some ⟨p, 0, none⟩)) (by kernel_rfl) rfl (by kernel_rfl) ?_
  refine x_val (.pointer (some ⟨p, 0, none⟩)) (by kernel_rfl) rfl (by kernel_rfl) ?_
  refine x_val (.pointer (some ⟨p, 10, none⟩)) (by kernel_rfl) rfl (by kernel_rfl) ?_
  refine x_load1 H 0 p 10 #[.int .i64 r, .int .i64 s, .int .i64 b, .int .i64 o, .int .i64 c, .int .i64 y, .int .i64 z, .slice (some ⟨gl, 0, none⟩) sn cl, .slice (some ⟨gd, 0, none⟩) pg cd, .slice (some ⟨gs, 0, none⟩) ns cs, .int .i64 ((pu : Nat) : Int), .int .i64 ((ru : Nat) : Int)] 181 (.int .i64 ((pu : Nat) : Int)) (by kernel_rfl) (by kernel_rfl) (by kernel_rfl) rfl (by kernel_rfl) ?_
  refine x_ar (((pu : Nat) : Int) + 1) ⟨by omega, by omega⟩ (by kernel_rfl) rfl (by kernel_rfl) ?_
  refine x_val (.pointer (some ⟨p, 0, none⟩)) (by kernel_rfl) rfl (by kernel_rfl) ?_
  refine x_val (.pointer (some ⟨p, 10, none⟩)) (by kernel_rfl) rfl (by kernel_rfl) ?_
  refine x_store (t := 3) (v := .int .i64 (((pu : Nat) : Int) + 1)) H 0 p 10 #[.int .i64 r, .int .i64 s, .int .i64 b, .int .i64 o, .int .i64 c, .int .i64 y, .int .i64 z, .slice (some ⟨gl, 0, none⟩) sn cl, .slice (some ⟨gd, 0, none⟩) pg cd, .slice (some ⟨gs, 0, none⟩) ns cs, .int .i64 ((pu : Nat) : Int), .int .i64 ((ru : Nat) : Int)] #[.int .i64 r, .int .i64 s, .int .i64 b, .int .i64 o, .int .i64 c, .int .i64 y, .int .i64 z, .slice (some ⟨gl, 0, none⟩) sn cl, .slice (some ⟨gd, 0, none⟩) pg cd, .slice (some ⟨gs, 0, none⟩) ns cs, .int .i64 (((pu : Nat) : Int) + 1), .int .i64 ((ru : Nat) : Int)] 181 [.int .i64 (((pu : Nat) : Int) + 1)] [.blk p #[.int .i64 r, .int .i64 s, .int .i64 b, .int .i64 o, .int .i64 c, .int .i64 y, .int .i64 z, .slice (some ⟨gl, 0, none⟩) sn cl, .slice (some ⟨gd, 0, none⟩) pg cd, .slice (some ⟨gs, 0, none⟩) ns cs, .int .i64 (((pu : Nat) : Int) + 1), .int .i64 ((ru : Nat) : Int)] 181, .row (.slice (some ⟨gl, 0, none⟩) sn cl) 3 1 sn (List.map (Value.int .i64) L), .row (.slice (some ⟨gd, 0, none⟩) pg cd) 4 1 pg (List.map Value.bool D), .row (.slice (some ⟨gs, 0, none⟩) ns cs) 3 1 ns (List.map (Value.int .i64) S)] (by kernel_rfl) rfl (by kernel_rfl) (by kernel_rfl) (by kernel_rfl) (by kernel_rfl) (by kernel_rfl) (by kernel_rfl) (by kernel_rfl) (by kernel_rfl) ?_
  clear H
  intro v2 H
  refine x_nil ?_
  refine x_frame' { tmps := #[.pointer (some ⟨p, 0, none⟩), undef, .int .i64 0, .int .i64 0, .int .i64 (((sn : Nat) : Int) + ((pu : Nat) : Int)), .bool true, .tuple #[.int .i64 (((sn : Nat) : Int) + ((pu : Nat) : Int)), .bool true], .pointer (some ⟨p, 0, none⟩), .tuple #[.int .i64 (((sn : Nat) : Int) + ((pu : Nat) : Int)), .bool true], .int .i64 (((sn : Nat) : Int) + ((pu : Nat) : Int)), .bool true, .bool true, .bool false, .pointer (some ⟨p, 0, none⟩), .pointer (some ⟨p, 0, none⟩), .pointer (some ⟨p, 10, none⟩), .int .i64 ((pu : Nat) : Int), .int .i64 (((pu : Nat) : Int) + 1), .pointer (some ⟨p, 0, none⟩), .pointer (some ⟨p, 10, none⟩), undef], defers := [] } (by kernel_rfl) ?_
  refine x_then ?_
  refine x_seq ?_
  refine x_region ?_
  refine x_val (.int .i64 (((sn : Nat) : Int) + ((pu : Nat) : Int))) (by kernel_rfl) rfl (by kernel_rfl) ?_
  refine x_val (.int .i64 (((sn : Nat) : Int) + ((pu : Nat) : Int))) (by kernel_rfl) rfl (by kernel_rfl) ?_
  refine x_val (.int .i64 0) (by kernel_rfl) rfl (by kernel_rfl) ?_
  refine x_nil ?_
  refine x_then ?_
  refine x_retc ?_
  refine x_ret (.tuple #[.int .i64 (((sn : Nat) : Int) + ((pu : Nat) : Int)), .int .i64 0]) (by kernel_rfl) (by kernel_rfl) ?_
  exact ⟨rfl, H⟩

set_option maxRecDepth 100000 in
set_option maxHeartbeats 1000000 in
theorem TakeSpare_no {r s b o c y z : Int} {pg sn ns : Nat} (hL : Lay r s b o c y z pg sn ns) {p gl cl gd cd gs cs : Nat} {L : List Int} {D : List Bool} {S : List Int} {pu ru : Nat} (hM : MapOk z s sn pg ns L D S pu ru) (hz : ((ru : Nat) : Int) = s) (w0 : World) (H0 : Hs (fps [.blk p #[.int .i64 r, .int .i64 s, .int .i64 b, .int .i64 o, .int .i64 c, .int .i64 y, .int .i64 z, .slice (some ⟨gl, 0, none⟩) sn cl, .slice (some ⟨gd, 0, none⟩) pg cd, .slice (some ⟨gs, 0, none⟩) ns cs, .int .i64 ((pu : Nat) : Int), .int .i64 ((ru : Nat) : Int)] 181, .row (.slice (some ⟨gl, 0, none⟩) sn cl) 3 1 sn (List.map (Value.int .i64) L), .row (.slice (some ⟨gd, 0, none⟩) pg cd) 4 1 pg (List.map Value.bool D), .row (.slice (some ⟨gs, 0, none⟩) ns cs) 3 1 ns (List.map (Value.int .i64) S)]) w0 w0 [.blk p #[.int .i64 r, .int .i64 s, .int .i64 b, .int .i64 o, .int .i64 c, .int .i64 y, .int .i64 z, .slice (some ⟨gl, 0, none⟩) sn cl, .slice (some ⟨gd, 0, none⟩) pg cd, .slice (some ⟨gs, 0, none⟩) ns cs, .int .i64 ((pu : Nat) : Int), .int .i64 ((ru : Nat) : Int)] 181, .row (.slice (some ⟨gl, 0, none⟩) sn cl) 3 1 sn (List.map (Value.int .i64) L), .row (.slice (some ⟨gd, 0, none⟩) pg cd) 4 1 pg (List.map Value.bool D), .row (.slice (some ⟨gs, 0, none⟩) ns cs) 3 1 ns (List.map (Value.int .i64) S)]) :
    Calls Try.prog 38 #[.pointer (some ⟨p, 0, none⟩)] w0 fun e w' => e = .returned (.tuple #[.int .i64 0, .int .i64 52]) ∧ Hs (fps [.blk p #[.int .i64 r, .int .i64 s, .int .i64 b, .int .i64 o, .int .i64 c, .int .i64 y, .int .i64 z, .slice (some ⟨gl, 0, none⟩) sn cl, .slice (some ⟨gd, 0, none⟩) pg cd, .slice (some ⟨gs, 0, none⟩) ns cs, .int .i64 ((pu : Nat) : Int), .int .i64 ((ru : Nat) : Int)] 181, .row (.slice (some ⟨gl, 0, none⟩) sn cl) 3 1 sn (List.map (Value.int .i64) L), .row (.slice (some ⟨gd, 0, none⟩) pg cd) 4 1 pg (List.map Value.bool D), .row (.slice (some ⟨gs, 0, none⟩) ns cs) 3 1 ns (List.map (Value.int .i64) S)]) w0 w' [.blk p #[.int .i64 r, .int .i64 s, .int .i64 b, .int .i64 o, .int .i64 c, .int .i64 y, .int .i64 z, .slice (some ⟨gl, 0, none⟩) sn cl, .slice (some ⟨gd, 0, none⟩) pg cd, .slice (some ⟨gs, 0, none⟩) ns cs, .int .i64 ((pu : Nat) : Int), .int .i64 ((ru : Nat) : Int)] 181, .row (.slice (some ⟨gl, 0, none⟩) sn cl) 3 1 sn (List.map (Value.int .i64) L), .row (.slice (some ⟨gd, 0, none⟩) pg cd) 4 1 pg (List.map Value.bool D), .row (.slice (some ⟨gs, 0, none⟩) ns cs) 3 1 ns (List.map (Value.int .i64) S)] := by
  refine x_enter Try.func38 rfl #[.pointer (some ⟨p, 0, none⟩), undef, undef, undef, undef, undef, undef, undef, undef, undef, undef, undef, undef, undef, undef, undef, undef, undef, undef, undef, undef] (by kernel_rfl) ?_
  have H := H0
  obtain ⟨eL, eD, eS, hp, hr⟩ := id hM
  have hok := hL.ok
  obtain ⟨-, r1, r8, s0, s8, b1, b2, o1, o2, c1, c2, y0, y4, z0, z2, hpg, hsn, hns, sn1, pg2, ln0, ln2⟩ := id hL
  refine x_seq ?_
  refine x_region ?_
  refine x_val (.int .i64 0) (by kernel_rfl) rfl (by kernel_rfl) ?_
  refine x_val (.int .i64 0) (by kernel_rfl) rfl (by kernel_rfl) ?_
  refine x_nil ?_
  refine x_then ?_
  refine x_seq ?_
  refine x_region ?_
  refine x_val (.pointer (some ⟨p, 0, none⟩)) (by kernel_rfl) rfl (by kernel_rfl) ?_
  refine x_callB (.tuple #[.int .i64 0, .bool false]) H (by kernel_rfl) rfl (by kernel_rfl) (FreeSpare_no hL hM hz _ (H.roOf [0, 1, 2, 3] [.blk p #[.int .i64 r, .int .i64 s, .int .i64 b, .int .i64 o, .int .i64 c, .int .i64 y, .int .i64 z, .slice (some ⟨gl, 0, none⟩) sn cl, .slice (some ⟨gd, 0, none⟩) pg cd, .slice (some ⟨gs, 0, none⟩) ns cs, .int .i64 ((pu : Nat) : Int), .int .i64 ((ru : Nat) : Int)] 181, .row (.slice (some ⟨gl, 0, none⟩) sn cl) 3 1 sn (List.map (Value.int .i64) L), .row (.slice (some ⟨gd, 0, none⟩) pg cd) 4 1 pg (List.map Value.bool D), .row (.slice (some ⟨gs, 0, none⟩) ns cs) 3 1 ns (List.map (Value.int .i64) S)] (by kernel_rfl))) ?_
  clear H
  intro v1 H
  refine x_val (.tuple #[.int .i64 0, .bool false]) (by kernel_rfl) rfl (by kernel_rfl) ?_
  refine x_val (.int .i64 0) (by kernel_rfl) rfl (by kernel_rfl) ?_
  refine x_val (.bool false) (by kernel_rfl) rfl (by kernel_rfl) ?_
  refine x_val (.int .i64 0) (by kernel_rfl) rfl (by kernel_rfl) ?_
  refine x_val (.bool false) (by kernel_rfl) rfl (by kernel_rfl) ?_
  refine x_nil ?_
  refine x_then ?_
  refine x_seq ?_
  refine x_seq ?_
  refine x_region ?_
  refine x_val (.bool false) (by kernel_rfl) rfl (by kernel_rfl) ?_
  refine x_val (.bool true) (by kernel_rfl) rfl (by kernel_rfl) ?_
  refine x_nil ?_
  refine x_then ?_
  refine x_t (by kernel_rfl) ?_
  refine x_seq ?_
  refine x_region ?_
  refine x_val (.int .i64 0) (by kernel_rfl) rfl (by kernel_rfl) ?_
  refine x_val (.int .i64 52) (by kernel_rfl) rfl (by kernel_rfl) ?_
  refine x_nil ?_
  refine x_frame' { tmps := #[.pointer (some ⟨p, 0, none⟩), undef, .int .i64 0, .int .i64 52, .int .i64 0, .bool false, .tuple #[.int .i64 0, .bool false], .pointer (some ⟨p, 0, none⟩), .tuple #[.int .i64 0, .bool false], .int .i64 0, .bool false, .bool false, .bool true, undef, undef, undef, undef, undef, undef, undef, undef], defers := [] } (by kernel_rfl) ?_
  refine x_then ?_
  refine x_retc ?_
  refine x_then_ret ?_
  refine x_ret (.tuple #[.int .i64 0, .int .i64 52]) (by kernel_rfl) (by kernel_rfl) ?_
  exact ⟨rfl, H⟩

set_option maxRecDepth 100000 in
set_option maxHeartbeats 1000000 in
theorem TakeSpare_yes {r s b o c y z : Int} {pg sn ns : Nat} (hL : Lay r s b o c y z pg sn ns) {p gl cl gd cd gs cs : Nat} {L : List Int} {D : List Bool} {S : List Int} {pu ru : Nat} (hM : MapOk z s sn pg ns L D S pu ru) (hz : ¬ ((ru : Nat) : Int) = s) (w0 : World) (H0 : Hs (fps [.blk p #[.int .i64 r, .int .i64 s, .int .i64 b, .int .i64 o, .int .i64 c, .int .i64 y, .int .i64 z, .slice (some ⟨gl, 0, none⟩) sn cl, .slice (some ⟨gd, 0, none⟩) pg cd, .slice (some ⟨gs, 0, none⟩) ns cs, .int .i64 ((pu : Nat) : Int), .int .i64 ((ru : Nat) : Int)] 181, .row (.slice (some ⟨gl, 0, none⟩) sn cl) 3 1 sn (List.map (Value.int .i64) L), .row (.slice (some ⟨gd, 0, none⟩) pg cd) 4 1 pg (List.map Value.bool D), .row (.slice (some ⟨gs, 0, none⟩) ns cs) 3 1 ns (List.map (Value.int .i64) S)]) w0 w0 [.blk p #[.int .i64 r, .int .i64 s, .int .i64 b, .int .i64 o, .int .i64 c, .int .i64 y, .int .i64 z, .slice (some ⟨gl, 0, none⟩) sn cl, .slice (some ⟨gd, 0, none⟩) pg cd, .slice (some ⟨gs, 0, none⟩) ns cs, .int .i64 ((pu : Nat) : Int), .int .i64 ((ru : Nat) : Int)] 181, .row (.slice (some ⟨gl, 0, none⟩) sn cl) 3 1 sn (List.map (Value.int .i64) L), .row (.slice (some ⟨gd, 0, none⟩) pg cd) 4 1 pg (List.map Value.bool D), .row (.slice (some ⟨gs, 0, none⟩) ns cs) 3 1 ns (List.map (Value.int .i64) S)]) :
    Calls Try.prog 38 #[.pointer (some ⟨p, 0, none⟩)] w0 fun e w' => e = .returned (.tuple #[.int .i64 (r + ((ru : Nat) : Int)), .int .i64 0]) ∧ Hs (fps [.blk p #[.int .i64 r, .int .i64 s, .int .i64 b, .int .i64 o, .int .i64 c, .int .i64 y, .int .i64 z, .slice (some ⟨gl, 0, none⟩) sn cl, .slice (some ⟨gd, 0, none⟩) pg cd, .slice (some ⟨gs, 0, none⟩) ns cs, .int .i64 ((pu : Nat) : Int), .int .i64 ((ru : Nat) : Int)] 181, .row (.slice (some ⟨gl, 0, none⟩) sn cl) 3 1 sn (List.map (Value.int .i64) L), .row (.slice (some ⟨gd, 0, none⟩) pg cd) 4 1 pg (List.map Value.bool D), .row (.slice (some ⟨gs, 0, none⟩) ns cs) 3 1 ns (List.map (Value.int .i64) S)]) w0 w' [.blk p #[.int .i64 r, .int .i64 s, .int .i64 b, .int .i64 o, .int .i64 c, .int .i64 y, .int .i64 z, .slice (some ⟨gl, 0, none⟩) sn cl, .slice (some ⟨gd, 0, none⟩) pg cd, .slice (some ⟨gs, 0, none⟩) ns cs, .int .i64 ((pu : Nat) : Int), .int .i64 (((ru + 1) : Nat) : Int)] 181, .row (.slice (some ⟨gl, 0, none⟩) sn cl) 3 1 sn (List.map (Value.int .i64) L), .row (.slice (some ⟨gd, 0, none⟩) pg cd) 4 1 pg (List.map Value.bool D), .row (.slice (some ⟨gs, 0, none⟩) ns cs) 3 1 ns (List.map (Value.int .i64) S)] := by
  refine x_enter Try.func38 rfl #[.pointer (some ⟨p, 0, none⟩), undef, undef, undef, undef, undef, undef, undef, undef, undef, undef, undef, undef, undef, undef, undef, undef, undef, undef, undef, undef] (by kernel_rfl) ?_
  have H := H0
  obtain ⟨eL, eD, eS, hp, hr⟩ := id hM
  have hok := hL.ok
  obtain ⟨-, r1, r8, s0, s8, b1, b2, o1, o2, c1, c2, y0, y4, z0, z2, hpg, hsn, hns, sn1, pg2, ln0, ln2⟩ := id hL
  refine x_seq ?_
  refine x_region ?_
  refine x_val (.int .i64 0) (by kernel_rfl) rfl (by kernel_rfl) ?_
  refine x_val (.int .i64 0) (by kernel_rfl) rfl (by kernel_rfl) ?_
  refine x_nil ?_
  refine x_then ?_
  refine x_seq ?_
  refine x_region ?_
  refine x_val (.pointer (some ⟨p, 0, none⟩)) (by kernel_rfl) rfl (by kernel_rfl) ?_
  refine x_callB (.tuple #[.int .i64 (r + ((ru : Nat) : Int)), .bool true]) H (by kernel_rfl) rfl (by kernel_rfl) (FreeSpare_yes hL hM hz _ (H.roOf [0, 1, 2, 3] [.blk p #[.int .i64 r, .int .i64 s, .int .i64 b, .int .i64 o, .int .i64 c, .int .i64 y, .int .i64 z, .slice (some ⟨gl, 0, none⟩) sn cl, .slice (some ⟨gd, 0, none⟩) pg cd, .slice (some ⟨gs, 0, none⟩) ns cs, .int .i64 ((pu : Nat) : Int), .int .i64 ((ru : Nat) : Int)] 181, .row (.slice (some ⟨gl, 0, none⟩) sn cl) 3 1 sn (List.map (Value.int .i64) L), .row (.slice (some ⟨gd, 0, none⟩) pg cd) 4 1 pg (List.map Value.bool D), .row (.slice (some ⟨gs, 0, none⟩) ns cs) 3 1 ns (List.map (Value.int .i64) S)] (by kernel_rfl))) ?_
  clear H
  intro v1 H
  refine x_val (.tuple #[.int .i64 (r + ((ru : Nat) : Int)), .bool true]) (by kernel_rfl) rfl (by kernel_rfl) ?_
  refine x_val (.int .i64 (r + ((ru : Nat) : Int))) (by kernel_rfl) rfl (by kernel_rfl) ?_
  refine x_val (.bool true) (by kernel_rfl) rfl (by kernel_rfl) ?_
  refine x_val (.int .i64 (r + ((ru : Nat) : Int))) (by kernel_rfl) rfl (by kernel_rfl) ?_
  refine x_val (.bool true) (by kernel_rfl) rfl (by kernel_rfl) ?_
  refine x_nil ?_
  refine x_then ?_
  refine x_seq ?_
  refine x_seq ?_
  refine x_region ?_
  refine x_val (.bool true) (by kernel_rfl) rfl (by kernel_rfl) ?_
  refine x_val (.bool false) (by kernel_rfl) rfl (by kernel_rfl) ?_
  refine x_nil ?_
  refine x_then ?_
  refine x_f (by kernel_rfl) ?_
  refine x_skipc ?_
  refine x_then ?_
  refine x_seq ?_
  refine x_region ?_
  refine x_val (.pointer (some ⟨p, 0, none⟩)) (by kernel_rfl) rfl (by kernel_rfl) ?_
  refine x_val (.pointer (some ⟨p, 0, none⟩)) (by kernel_rfl) rfl (by kernel_rfl) ?_
  refine x_val (.pointer (some ⟨p, 11, none⟩)) (by kernel_rfl) rfl (by kernel_rfl) ?_
  refine x_load1 H 0 p 11 #[.int .i64 r, .int .i64 s, .int .i64 b, .int .i64 o, .int .i64 c, .int .i64 y, .int .i64 z, .slice (some ⟨gl, 0, none⟩) sn cl, .slice (some ⟨gd, 0, none⟩) pg cd, .slice (some ⟨gs, 0, none⟩) ns cs, .int .i64 ((pu : Nat) : Int), .int .i64 ((ru : Nat) : Int)] 181 (.int .i64 ((ru : Nat) : Int)) (by kernel_rfl) (by kernel_rfl) (by kernel_rfl) rfl (by kernel_rfl) ?_
  refine x_ar (((ru : Nat) : Int) + 1) ⟨by omega, by omega⟩ (by kernel_rfl) rfl (by kernel_rfl) ?_
  refine x_val (.pointer (some ⟨p, 0, none⟩)) (by kernel_rfl) rfl (by kernel_rfl) ?_
  refine x_val (.pointer (some ⟨p, 11, none⟩)) (by kernel_rfl) rfl (by kernel_rfl) ?_
  refine x_store (t := 3) (v := .int .i64 (((ru : Nat) : Int) + 1)) H 0 p 11 #[.int .i64 r, .int .i64 s, .int .i64 b, .int .i64 o, .int .i64 c, .int .i64 y, .int .i64 z, .slice (some ⟨gl, 0, none⟩) sn cl, .slice (some ⟨gd, 0, none⟩) pg cd, .slice (some ⟨gs, 0, none⟩) ns cs, .int .i64 ((pu : Nat) : Int), .int .i64 ((ru : Nat) : Int)] #[.int .i64 r, .int .i64 s, .int .i64 b, .int .i64 o, .int .i64 c, .int .i64 y, .int .i64 z, .slice (some ⟨gl, 0, none⟩) sn cl, .slice (some ⟨gd, 0, none⟩) pg cd, .slice (some ⟨gs, 0, none⟩) ns cs, .int .i64 ((pu : Nat) : Int), .int .i64 (((ru : Nat) : Int) + 1)] 181 [.int .i64 (((ru : Nat) : Int) + 1)] [.blk p #[.int .i64 r, .int .i64 s, .int .i64 b, .int .i64 o, .int .i64 c, .int .i64 y, .int .i64 z, .slice (some ⟨gl, 0, none⟩) sn cl, .slice (some ⟨gd, 0, none⟩) pg cd, .slice (some ⟨gs, 0, none⟩) ns cs, .int .i64 ((pu : Nat) : Int), .int .i64 (((ru : Nat) : Int) + 1)] 181, .row (.slice (some ⟨gl, 0, none⟩) sn cl) 3 1 sn (List.map (Value.int .i64) L), .row (.slice (some ⟨gd, 0, none⟩) pg cd) 4 1 pg (List.map Value.bool D), .row (.slice (some ⟨gs, 0, none⟩) ns cs) 3 1 ns (List.map (Value.int .i64) S)] (by kernel_rfl) rfl (by kernel_rfl) (by kernel_rfl) (by kernel_rfl) (by kernel_rfl) (by kernel_rfl) (by kernel_rfl) (by kernel_rfl) (by kernel_rfl) ?_
  clear H
  intro v2 H
  refine x_nil ?_
  refine x_frame' { tmps := #[.pointer (some ⟨p, 0, none⟩), undef, .int .i64 0, .int .i64 0, .int .i64 (r + ((ru : Nat) : Int)), .bool true, .tuple #[.int .i64 (r + ((ru : Nat) : Int)), .bool true], .pointer (some ⟨p, 0, none⟩), .tuple #[.int .i64 (r + ((ru : Nat) : Int)), .bool true], .int .i64 (r + ((ru : Nat) : Int)), .bool true, .bool true, .bool false, .pointer (some ⟨p, 0, none⟩), .pointer (some ⟨p, 0, none⟩), .pointer (some ⟨p, 11, none⟩), .int .i64 ((ru : Nat) : Int), .int .i64 (((ru : Nat) : Int) + 1), .pointer (some ⟨p, 0, none⟩), .pointer (some ⟨p, 11, none⟩), undef], defers := [] } (by kernel_rfl) ?_
  refine x_then ?_
  refine x_seq ?_
  refine x_region ?_
  refine x_val (.int .i64 (r + ((ru : Nat) : Int))) (by kernel_rfl) rfl (by kernel_rfl) ?_
  refine x_val (.int .i64 (r + ((ru : Nat) : Int))) (by kernel_rfl) rfl (by kernel_rfl) ?_
  refine x_val (.int .i64 0) (by kernel_rfl) rfl (by kernel_rfl) ?_
  refine x_nil ?_
  refine x_then ?_
  refine x_retc ?_
  refine x_ret (.tuple #[.int .i64 (r + ((ru : Nat) : Int)), .int .i64 0]) (by kernel_rfl) (by kernel_rfl) ?_
  exact ⟨rfl, H⟩

set_option maxRecDepth 100000 in
set_option maxHeartbeats 1000000 in
theorem Retire_ok {r s b o c y z : Int} {pg sn ns : Nat} (hL : Lay r s b o c y z pg sn ns) {p gl cl gd cd gs cs : Nat} {L : List Int} {D : List Bool} {S : List Int} {pu ru : Nat} (hM : MapOk z s sn pg ns L D S pu ru) (h t : Nat) (hh : h < pg) (ht1 : sn ≤ t) (ht2 : t < sn + pu) (htp : t < pg) (dh : (D.getD h false) = false) (dt : (D.getD t false) = false) (hne : h ≠ t) (w0 : World) (H0 : Hs (fps [.blk p #[.int .i64 r, .int .i64 s, .int .i64 b, .int .i64 o, .int .i64 c, .int .i64 y, .int .i64 z, .slice (some ⟨gl, 0, none⟩) sn cl, .slice (some ⟨gd, 0, none⟩) pg cd, .slice (some ⟨gs, 0, none⟩) ns cs, .int .i64 ((pu : Nat) : Int), .int .i64 ((ru : Nat) : Int)] 181, .row (.slice (some ⟨gl, 0, none⟩) sn cl) 3 1 sn (List.map (Value.int .i64) L), .row (.slice (some ⟨gd, 0, none⟩) pg cd) 4 1 pg (List.map Value.bool D), .row (.slice (some ⟨gs, 0, none⟩) ns cs) 3 1 ns (List.map (Value.int .i64) S)]) w0 w0 [.blk p #[.int .i64 r, .int .i64 s, .int .i64 b, .int .i64 o, .int .i64 c, .int .i64 y, .int .i64 z, .slice (some ⟨gl, 0, none⟩) sn cl, .slice (some ⟨gd, 0, none⟩) pg cd, .slice (some ⟨gs, 0, none⟩) ns cs, .int .i64 ((pu : Nat) : Int), .int .i64 ((ru : Nat) : Int)] 181, .row (.slice (some ⟨gl, 0, none⟩) sn cl) 3 1 sn (List.map (Value.int .i64) L), .row (.slice (some ⟨gd, 0, none⟩) pg cd) 4 1 pg (List.map Value.bool D), .row (.slice (some ⟨gs, 0, none⟩) ns cs) 3 1 ns (List.map (Value.int .i64) S)]) :
    Calls Try.prog 50 #[.pointer (some ⟨p, 0, none⟩), .int .i64 ((h : Nat) : Int), .int .i64 ((t : Nat) : Int)] w0 fun e w' => e = .returned (.int .i64 0) ∧ Hs (fps [.blk p #[.int .i64 r, .int .i64 s, .int .i64 b, .int .i64 o, .int .i64 c, .int .i64 y, .int .i64 z, .slice (some ⟨gl, 0, none⟩) sn cl, .slice (some ⟨gd, 0, none⟩) pg cd, .slice (some ⟨gs, 0, none⟩) ns cs, .int .i64 ((pu : Nat) : Int), .int .i64 ((ru : Nat) : Int)] 181, .row (.slice (some ⟨gl, 0, none⟩) sn cl) 3 1 sn (List.map (Value.int .i64) L), .row (.slice (some ⟨gd, 0, none⟩) pg cd) 4 1 pg (List.map Value.bool D), .row (.slice (some ⟨gs, 0, none⟩) ns cs) 3 1 ns (List.map (Value.int .i64) S)]) w0 w' [.blk p #[.int .i64 r, .int .i64 s, .int .i64 b, .int .i64 o, .int .i64 c, .int .i64 y, .int .i64 z, .slice (some ⟨gl, 0, none⟩) sn cl, .slice (some ⟨gd, 0, none⟩) pg cd, .slice (some ⟨gs, 0, none⟩) ns cs, .int .i64 ((pu : Nat) : Int), .int .i64 ((ru : Nat) : Int)] 181, .row (.slice (some ⟨gl, 0, none⟩) sn cl) 3 1 sn (List.map (Value.int .i64) (retL ((h : Nat) : Int) ((t : Nat) : Int) L)), .row (.slice (some ⟨gd, 0, none⟩) pg cd) 4 1 pg (List.map Value.bool (D.set h true)), .row (.slice (some ⟨gs, 0, none⟩) ns cs) 3 1 ns (List.map (Value.int .i64) S)] := by
  refine x_enter Try.func50 rfl #[.pointer (some ⟨p, 0, none⟩), .int .i64 ((h : Nat) : Int), .int .i64 ((t : Nat) : Int), undef, undef, undef, undef, undef, undef, undef, undef, undef, undef, undef, undef, undef, undef, undef, undef, undef, undef, undef, undef, undef, undef, undef, undef, undef, undef, undef, undef, undef, undef, undef, undef, undef, undef, undef, undef, undef, undef, undef, undef, undef, undef, undef, undef, undef, undef, undef, undef, undef, undef, undef, undef, undef, undef, undef, undef, undef, undef, undef, undef, undef, undef, undef, undef, undef, undef, undef, undef, undef, undef, undef, undef, undef, undef, undef, undef, undef, undef, undef] (by kernel_rfl) ?_
  have H := H0
  obtain ⟨eL, eD, eS, hp, hr⟩ := id hM
  have hok := hL.ok
  obtain ⟨-, r1, r8, s0, s8, b1, b2, o1, o2, c1, c2, y0, y4, z0, z2, hpg, hsn, hns, sn1, pg2, ln0, ln2⟩ := id hL
  have q1 : (decide (0 ≤ ((h : Nat) : Int)) && decide (((h : Nat) : Int) < ((pg : Nat) : Int))) = true := by simp; omega
  have q2 : (decide (0 ≤ (((t : Nat) : Int) - ((sn : Nat) : Int))) && decide ((((t : Nat) : Int) - ((sn : Nat) : Int)) < ((pu : Nat) : Int))) = true := by simp; omega
  have q3 : (decide (((h : Nat) : Int) = ((t : Nat) : Int))) = false := by simp; omega
  refine x_seq ?_
  refine x_region ?_
  refine x_val (.int .i64 0) (by kernel_rfl) rfl (by kernel_rfl) ?_
  refine x_nil ?_
  refine x_then ?_
  refine x_seq ?_
  refine x_block ?_
  refine x_seq ?_
  refine x_region_whole (fun w' => Hs (fps [.blk p #[.int .i64 r, .int .i64 s, .int .i64 b, .int .i64 o, .int .i64 c, .int .i64 y, .int .i64 z, .slice (some ⟨gl, 0, none⟩) sn cl, .slice (some ⟨gd, 0, none⟩) pg cd, .slice (some ⟨gs, 0, none⟩) ns cs, .int .i64 ((pu : Nat) : Int), .int .i64 ((ru : Nat) : Int)] 181, .row (.slice (some ⟨gl, 0, none⟩) sn cl) 3 1 sn (List.map (Value.int .i64) L), .row (.slice (some ⟨gd, 0, none⟩) pg cd) 4 1 pg (List.map Value.bool D), .row (.slice (some ⟨gs, 0, none⟩) ns cs) 3 1 ns (List.map (Value.int .i64) S)]) w0 w' [.blk p #[.int .i64 r, .int .i64 s, .int .i64 b, .int .i64 o, .int .i64 c, .int .i64 y, .int .i64 z, .slice (some ⟨gl, 0, none⟩) sn cl, .slice (some ⟨gd, 0, none⟩) pg cd, .slice (some ⟨gs, 0, none⟩) ns cs, .int .i64 ((pu : Nat) : Int), .int .i64 ((ru : Nat) : Int)] 181, .row (.slice (some ⟨gl, 0, none⟩) sn cl) 3 1 sn (List.map (Value.int .i64) L), .row (.slice (some ⟨gd, 0, none⟩) pg cd) 4 1 pg (List.map Value.bool D), .row (.slice (some ⟨gs, 0, none⟩) ns cs) 3 1 ns (List.map (Value.int .i64) S)]) (by kernel_rfl) (by kernel_rfl) (by kernel_rfl) H.drew ?_
  refine q_val (.int .i64 ((h : Nat) : Int)) (by kernel_rfl) (fun _ => by kernel_rfl) ?_
  refine q_val (.pointer (some ⟨p, 0, none⟩)) (by kernel_rfl) (fun _ => by kernel_rfl) ?_
  refine q_val (.pointer (some ⟨p, 0, none⟩)) (by kernel_rfl) (fun _ => by kernel_rfl) ?_
  refine q_val (.pointer (some ⟨p, 8, none⟩)) (by kernel_rfl) (fun _ => by kernel_rfl) ?_
  refine q_load1 0 p 8 #[.int .i64 r, .int .i64 s, .int .i64 b, .int .i64 o, .int .i64 c, .int .i64 y, .int .i64 z, .slice (some ⟨gl, 0, none⟩) sn cl, .slice (some ⟨gd, 0, none⟩) pg cd, .slice (some ⟨gs, 0, none⟩) ns cs, .int .i64 ((pu : Nat) : Int), .int .i64 ((ru : Nat) : Int)] 181 (.slice (some ⟨gd, 0, none⟩) pg cd) (by kernel_rfl) (by kernel_rfl) (by kernel_rfl) (fun _ => by kernel_rfl) ?_
  refine q_val (.int .i64 ((pg : Nat) : Int)) (by kernel_rfl) (fun _ => by kernel_rfl) ?_
  refine q_callB (.bool (decide (0 ≤ ((h : Nat) : Int)) && decide (((h : Nat) : Int) < ((pg : Nat) : Int)))) (by kernel_rfl) (fun _ => by kernel_rfl) (fun _ => (below_any _ _ _)) ?_
  refine q_val (.bool (!(decide (0 ≤ ((h : Nat) : Int)) && decide (((h : Nat) : Int) < ((pg : Nat) : Int))))) (by kernel_rfl) (fun _ => by kernel_rfl) ?_
  refine q_val (.bool (!(decide (0 ≤ ((h : Nat) : Int)) && decide (((h : Nat) : Int) < ((pg : Nat) : Int))))) (by kernel_rfl) (fun _ => by kernel_rfl) ?_
  rw [q1]
  refine q_val (.int .i64 ((t : Nat) : Int)) (by kernel_rfl) (fun _ => by kernel_rfl) ?_
  refine q_val (.pointer (some ⟨p, 0, none⟩)) (by kernel_rfl) (fun _ => by kernel_rfl) ?_
  refine q_val (.pointer (some ⟨p, 0, none⟩)) (by kernel_rfl) (fun _ => by kernel_rfl) ?_
  refine q_val (.pointer (some ⟨p, 0, none⟩)) (by kernel_rfl) (fun _ => by kernel_rfl) ?_
  refine q_loadn (t := 69) 0 p 0 #[.int .i64 r, .int .i64 s, .int .i64 b, .int .i64 o, .int .i64 c, .int .i64 y, .int .i64 z, .slice (some ⟨gl, 0, none⟩) sn cl, .slice (some ⟨gd, 0, none⟩) pg cd, .slice (some ⟨gs, 0, none⟩) ns cs, .int .i64 ((pu : Nat) : Int), .int .i64 ((ru : Nat) : Int)] 181 [.int .i64 r, .int .i64 s, .int .i64 b, .int .i64 o, .int .i64 c, .int .i64 y, .int .i64 z] (by kernel_rfl) (by kernel_rfl) (by kernel_rfl) (by kernel_rfl) (by kernel_rfl) ?_
  refine q_callB (.int .i64 ((sn : Nat) : Int)) (by kernel_rfl) (fun _ => by kernel_rfl) (fun _ => (seen_of hL _)) ?_
  refine q_ar (((t : Nat) : Int) - ((sn : Nat) : Int)) ⟨by omega, by omega⟩ (by kernel_rfl) (fun _ => by kernel_rfl) ?_
  refine q_val (.pointer (some ⟨p, 0, none⟩)) (by kernel_rfl) (fun _ => by kernel_rfl) ?_
  refine q_val (.pointer (some ⟨p, 0, none⟩)) (by kernel_rfl) (fun _ => by kernel_rfl) ?_
  refine q_val (.pointer (some ⟨p, 10, none⟩)) (by kernel_rfl) (fun _ => by kernel_rfl) ?_
  refine q_load1 0 p 10 #[.int .i64 r, .int .i64 s, .int .i64 b, .int .i64 o, .int .i64 c, .int .i64 y, .int .i64 z, .slice (some ⟨gl, 0, none⟩) sn cl, .slice (some ⟨gd, 0, none⟩) pg cd, .slice (some ⟨gs, 0, none⟩) ns cs, .int .i64 ((pu : Nat) : Int), .int .i64 ((ru : Nat) : Int)] 181 (.int .i64 ((pu : Nat) : Int)) (by kernel_rfl) (by kernel_rfl) (by kernel_rfl) (fun _ => by kernel_rfl) ?_
  refine q_callB (.bool (decide (0 ≤ (((t : Nat) : Int) - ((sn : Nat) : Int))) && decide ((((t : Nat) : Int) - ((sn : Nat) : Int)) < ((pu : Nat) : Int)))) (by kernel_rfl) (fun _ => by kernel_rfl) (fun _ => (below_any _ _ _)) ?_
  refine q_val (.bool (!(decide (0 ≤ (((t : Nat) : Int) - ((sn : Nat) : Int))) && decide ((((t : Nat) : Int) - ((sn : Nat) : Int)) < ((pu : Nat) : Int))))) (by kernel_rfl) (fun _ => by kernel_rfl) ?_
  refine q_val (.bool (!(decide (0 ≤ (((t : Nat) : Int) - ((sn : Nat) : Int))) && decide ((((t : Nat) : Int) - ((sn : Nat) : Int)) < ((pu : Nat) : Int))))) (by kernel_rfl) (fun _ => by kernel_rfl) ?_
  refine q_val (.bool (!(decide (0 ≤ (((t : Nat) : Int) - ((sn : Nat) : Int))) && decide ((((t : Nat) : Int) - ((sn : Nat) : Int)) < ((pu : Nat) : Int))))) (by kernel_rfl) (fun _ => by kernel_rfl) ?_
  refine q_nil ?_
  clear H
  intro v1 H
  refine x_frame' { tmps := #[.pointer (some ⟨p, 0, none⟩), .int .i64 ((h : Nat) : Int), .int .i64 ((t : Nat) : Int), undef, undef, undef, .int .i64 0, undef, undef, .bool (!(decide (0 ≤ (((t : Nat) : Int) - ((sn : Nat) : Int))) && decide ((((t : Nat) : Int) - ((sn : Nat) : Int)) < ((pu : Nat) : Int)))), .int .i64 ((h : Nat) : Int), .pointer (some ⟨p, 0, none⟩), .pointer (some ⟨p, 0, none⟩), .pointer (some ⟨p, 8, none⟩), .slice (some ⟨gd, 0, none⟩) pg cd, .int .i64 ((pg : Nat) : Int), .bool true, .bool false, .bool false, .int .i64 ((t : Nat) : Int), .pointer (some ⟨p, 0, none⟩), .pointer (some ⟨p, 0, none⟩), .pointer (some ⟨p, 0, none⟩), .agg #[.int .i64 r, .int .i64 s, .int .i64 b, .int .i64 o, .int .i64 c, .int .i64 y, .int .i64 z], .int .i64 ((sn : Nat) : Int), .int .i64 (((t : Nat) : Int) - ((sn : Nat) : Int)), .pointer (some ⟨p, 0, none⟩), .pointer (some ⟨p, 0, none⟩), .pointer (some ⟨p, 10, none⟩), .int .i64 ((pu : Nat) : Int), .bool (decide (0 ≤ (((t : Nat) : Int) - ((sn : Nat) : Int))) && decide ((((t : Nat) : Int) - ((sn : Nat) : Int)) < ((pu : Nat) : Int))), .bool (!(decide (0 ≤ (((t : Nat) : Int) - ((sn : Nat) : Int))) && decide ((((t : Nat) : Int) - ((sn : Nat) : Int)) < ((pu : Nat) : Int)))), .bool (!(decide (0 ≤ (((t : Nat) : Int) - ((sn : Nat) : Int))) && decide ((((t : Nat) : Int) - ((sn : Nat) : Int)) < ((pu : Nat) : Int)))), undef, undef, undef, undef, undef, undef, undef, undef, undef, undef, undef, undef, undef, undef, undef, undef, undef, undef, undef, undef, undef, undef, undef, undef, undef, undef, undef, undef, undef, undef, undef, undef, undef, undef, undef, undef, undef, undef, undef, undef, undef, undef, undef, undef, undef, undef, undef, undef, undef], defers := [] } (by kernel_rfl) ?_
  refine x_then ?_
  rw [q2]
  refine x_f (by kernel_rfl) ?_
  refine x_seq ?_
  refine x_region ?_
  refine x_val (.pointer (some ⟨p, 0, none⟩)) (by kernel_rfl) rfl (by kernel_rfl) ?_
  refine x_val (.pointer (some ⟨p, 0, none⟩)) (by kernel_rfl) rfl (by kernel_rfl) ?_
  refine x_val (.pointer (some ⟨p, 8, none⟩)) (by kernel_rfl) rfl (by kernel_rfl) ?_
  refine x_load1 H 0 p 8 #[.int .i64 r, .int .i64 s, .int .i64 b, .int .i64 o, .int .i64 c, .int .i64 y, .int .i64 z, .slice (some ⟨gl, 0, none⟩) sn cl, .slice (some ⟨gd, 0, none⟩) pg cd, .slice (some ⟨gs, 0, none⟩) ns cs, .int .i64 ((pu : Nat) : Int), .int .i64 ((ru : Nat) : Int)] 181 (.slice (some ⟨gd, 0, none⟩) pg cd) (by kernel_rfl) (by kernel_rfl) (by kernel_rfl) rfl (by kernel_rfl) ?_
  refine x_val (.int .i64 ((h : Nat) : Int)) (by kernel_rfl) rfl (by kernel_rfl) ?_
  refine x_ix (t := 179) gd 0 h pg cd 4 1 h (by omega) (by omega) (by kernel_rfl) (by kernel_rfl) (by kernel_rfl) rfl (by kernel_rfl) ?_
  refine x_loadc gd h (.bool (D.getD h false)) (H.rowCell 2 rfl h (mapAt false (by omega))) (by kernel_rfl) rfl (by kernel_rfl) ?_
  refine x_val (.bool (D.getD h false)) (by kernel_rfl) rfl (by kernel_rfl) ?_
  rw [dh]
  refine x_val (.pointer (some ⟨p, 0, none⟩)) (by kernel_rfl) rfl (by kernel_rfl) ?_
  refine x_val (.pointer (some ⟨p, 0, none⟩)) (by kernel_rfl) rfl (by kernel_rfl) ?_
  refine x_val (.pointer (some ⟨p, 8, none⟩)) (by kernel_rfl) rfl (by kernel_rfl) ?_
  refine x_load1 H 0 p 8 #[.int .i64 r, .int .i64 s, .int .i64 b, .int .i64 o, .int .i64 c, .int .i64 y, .int .i64 z, .slice (some ⟨gl, 0, none⟩) sn cl, .slice (some ⟨gd, 0, none⟩) pg cd, .slice (some ⟨gs, 0, none⟩) ns cs, .int .i64 ((pu : Nat) : Int), .int .i64 ((ru : Nat) : Int)] 181 (.slice (some ⟨gd, 0, none⟩) pg cd) (by kernel_rfl) (by kernel_rfl) (by kernel_rfl) rfl (by kernel_rfl) ?_
  refine x_val (.int .i64 ((t : Nat) : Int)) (by kernel_rfl) rfl (by kernel_rfl) ?_
  refine x_ix (t := 179) gd 0 t pg cd 4 1 t (by omega) (by omega) (by kernel_rfl) (by kernel_rfl) (by kernel_rfl) rfl (by kernel_rfl) ?_
  refine x_loadc gd t (.bool (D.getD t false)) (H.rowCell 2 rfl t (mapAt false (by omega))) (by kernel_rfl) rfl (by kernel_rfl) ?_
  refine x_val (.bool (D.getD t false)) (by kernel_rfl) rfl (by kernel_rfl) ?_
  refine x_val (.bool (D.getD t false)) (by kernel_rfl) rfl (by kernel_rfl) ?_
  rw [dt]
  refine x_val (.int .i64 ((h : Nat) : Int)) (by kernel_rfl) rfl (by kernel_rfl) ?_
  refine x_val (.int .i64 ((t : Nat) : Int)) (by kernel_rfl) rfl (by kernel_rfl) ?_
  refine x_val (.bool (decide (((h : Nat) : Int) = ((t : Nat) : Int)))) (by kernel_rfl) rfl (by kernel_rfl) ?_
  refine x_val (.bool (decide (((h : Nat) : Int) = ((t : Nat) : Int)))) (by kernel_rfl) rfl (by kernel_rfl) ?_
  refine x_val (.bool (decide (((h : Nat) : Int) = ((t : Nat) : Int)))) (by kernel_rfl) rfl (by kernel_rfl) ?_
  refine x_nil ?_
  refine x_frame' { tmps := #[.pointer (some ⟨p, 0, none⟩), .int .i64 ((h : Nat) : Int), .int .i64 ((t : Nat) : Int), undef, undef, undef, .int .i64 0, undef, undef, .bool false, .int .i64 ((h : Nat) : Int), .pointer (some ⟨p, 0, none⟩), .pointer (some ⟨p, 0, none⟩), .pointer (some ⟨p, 8, none⟩), .slice (some ⟨gd, 0, none⟩) pg cd, .int .i64 ((pg : Nat) : Int), .bool true, .bool false, .bool false, .int .i64 ((t : Nat) : Int), .pointer (some ⟨p, 0, none⟩), .pointer (some ⟨p, 0, none⟩), .pointer (some ⟨p, 0, none⟩), .agg #[.int .i64 r, .int .i64 s, .int .i64 b, .int .i64 o, .int .i64 c, .int .i64 y, .int .i64 z], .int .i64 ((sn : Nat) : Int), .int .i64 (((t : Nat) : Int) - ((sn : Nat) : Int)), .pointer (some ⟨p, 0, none⟩), .pointer (some ⟨p, 0, none⟩), .pointer (some ⟨p, 10, none⟩), .int .i64 ((pu : Nat) : Int), .bool true, .bool false, .bool false, .bool (decide (((h : Nat) : Int) = ((t : Nat) : Int))), .pointer (some ⟨p, 0, none⟩), .pointer (some ⟨p, 0, none⟩), .pointer (some ⟨p, 8, none⟩), .slice (some ⟨gd, 0, none⟩) pg cd, .int .i64 ((h : Nat) : Int), .pointer (some ⟨gd, h, none⟩), .bool false, .bool false, .pointer (some ⟨p, 0, none⟩), .pointer (some ⟨p, 0, none⟩), .pointer (some ⟨p, 8, none⟩), .slice (some ⟨gd, 0, none⟩) pg cd, .int .i64 ((t : Nat) : Int), .pointer (some ⟨gd, t, none⟩), .bool false, .bool false, .bool false, .int .i64 ((h : Nat) : Int), .int .i64 ((t : Nat) : Int), .bool (decide (((h : Nat) : Int) = ((t : Nat) : Int))), .bool (decide (((h : Nat) : Int) = ((t : Nat) : Int))), undef, undef, undef, undef, undef, undef, undef, undef, undef, undef, undef, undef, undef, undef, undef, undef, undef, undef, undef, undef, undef, undef, undef, undef, undef, undef, undef], defers := [] } (by kernel_rfl) ?_
  refine x_then ?_
  rw [q3]
  refine x_f (by kernel_rfl) ?_
  refine x_skipc ?_
  refine x_blk ?_
  refine x_then ?_
  refine x_seq ?_
  refine x_region ?_
  refine x_val (.pointer (some ⟨p, 0, none⟩)) (by kernel_rfl) rfl (by kernel_rfl) ?_
  refine x_val (.pointer (some ⟨p, 0, none⟩)) (by kernel_rfl) rfl (by kernel_rfl) ?_
  refine x_val (.pointer (some ⟨p, 8, none⟩)) (by kernel_rfl) rfl (by kernel_rfl) ?_
  refine x_load1 H 0 p 8 #[.int .i64 r, .int .i64 s, .int .i64 b, .int .i64 o, .int .i64 c, .int .i64 y, .int .i64 z, .slice (some ⟨gl, 0, none⟩) sn cl, .slice (some ⟨gd, 0, none⟩) pg cd, .slice (some ⟨gs, 0, none⟩) ns cs, .int .i64 ((pu : Nat) : Int), .int .i64 ((ru : Nat) : Int)] 181 (.slice (some ⟨gd, 0, none⟩) pg cd) (by kernel_rfl) (by kernel_rfl) (by kernel_rfl) rfl (by kernel_rfl) ?_
  refine x_val (.int .i64 ((h : Nat) : Int)) (by kernel_rfl) rfl (by kernel_rfl) ?_
  refine x_ix (t := 179) gd 0 h pg cd 4 1 h (by omega) (by omega) (by kernel_rfl) (by kernel_rfl) (by kernel_rfl) rfl (by kernel_rfl) ?_
  refine x_storeRow (t := 4) (v := .bool true) H 2 gd h pg cd 4 1 (List.map Value.bool D) [.bool true] (List.map Value.bool (D.set h true)) [.blk p #[.int .i64 r, .int .i64 s, .int .i64 b, .int .i64 o, .int .i64 c, .int .i64 y, .int .i64 z, .slice (some ⟨gl, 0, none⟩) sn cl, .slice (some ⟨gd, 0, none⟩) pg cd, .slice (some ⟨gs, 0, none⟩) ns cs, .int .i64 ((pu : Nat) : Int), .int .i64 ((ru : Nat) : Int)] 181, .row (.slice (some ⟨gl, 0, none⟩) sn cl) 3 1 sn (List.map (Value.int .i64) L), .row (.slice (some ⟨gd, 0, none⟩) pg cd) 4 1 pg (List.map Value.bool (D.set h true)), .row (.slice (some ⟨gs, 0, none⟩) ns cs) 3 1 ns (List.map (Value.int .i64) S)] rfl (by simp only [List.length_cons, List.length_nil]; omega) (by kernel_rfl) (setMap (by omega) true) rfl (by kernel_rfl) rfl (by kernel_rfl) (by kernel_rfl) (by kernel_rfl) ?_
  clear H
  intro v2 H
  refine x_nil ?_
  refine x_then ?_
  refine x_seq ?_
  refine x_seq ?_
  refine x_region ?_
  refine x_val (.pointer (some ⟨p, 0, none⟩)) (by kernel_rfl) rfl (by kernel_rfl) ?_
  refine x_val (.pointer (some ⟨p, 0, none⟩)) (by kernel_rfl) rfl (by kernel_rfl) ?_
  refine x_val (.pointer (some ⟨p, 7, none⟩)) (by kernel_rfl) rfl (by kernel_rfl) ?_
  refine x_load1 H 0 p 7 #[.int .i64 r, .int .i64 s, .int .i64 b, .int .i64 o, .int .i64 c, .int .i64 y, .int .i64 z, .slice (some ⟨gl, 0, none⟩) sn cl, .slice (some ⟨gd, 0, none⟩) pg cd, .slice (some ⟨gs, 0, none⟩) ns cs, .int .i64 ((pu : Nat) : Int), .int .i64 ((ru : Nat) : Int)] 181 (.slice (some ⟨gl, 0, none⟩) sn cl) (by kernel_rfl) (by kernel_rfl) (by kernel_rfl) rfl (by kernel_rfl) ?_
  refine x_val (.int .i64 ((sn : Nat) : Int)) (by kernel_rfl) rfl (by kernel_rfl) ?_
  refine x_val (.int .i64 0) (by kernel_rfl) rfl (by kernel_rfl) ?_
  refine x_nil ?_
  refine x_frame' { tmps := #[.pointer (some ⟨p, 0, none⟩), .int .i64 ((h : Nat) : Int), .int .i64 ((t : Nat) : Int), undef, undef, undef, .int .i64 0, undef, undef, .bool false, .int .i64 ((h : Nat) : Int), .pointer (some ⟨p, 0, none⟩), .pointer (some ⟨p, 0, none⟩), .pointer (some ⟨p, 8, none⟩), .slice (some ⟨gd, 0, none⟩) pg cd, .int .i64 ((pg : Nat) : Int), .bool true, .bool false, .bool false, .int .i64 ((t : Nat) : Int), .pointer (some ⟨p, 0, none⟩), .pointer (some ⟨p, 0, none⟩), .pointer (some ⟨p, 0, none⟩), .agg #[.int .i64 r, .int .i64 s, .int .i64 b, .int .i64 o, .int .i64 c, .int .i64 y, .int .i64 z], .int .i64 ((sn : Nat) : Int), .int .i64 (((t : Nat) : Int) - ((sn : Nat) : Int)), .pointer (some ⟨p, 0, none⟩), .pointer (some ⟨p, 0, none⟩), .pointer (some ⟨p, 10, none⟩), .int .i64 ((pu : Nat) : Int), .bool true, .bool false, .bool false, .bool false, .pointer (some ⟨p, 0, none⟩), .pointer (some ⟨p, 0, none⟩), .pointer (some ⟨p, 8, none⟩), .slice (some ⟨gd, 0, none⟩) pg cd, .int .i64 ((h : Nat) : Int), .pointer (some ⟨gd, h, none⟩), .bool false, .bool false, .pointer (some ⟨p, 0, none⟩), .pointer (some ⟨p, 0, none⟩), .pointer (some ⟨p, 8, none⟩), .slice (some ⟨gd, 0, none⟩) pg cd, .int .i64 ((t : Nat) : Int), .pointer (some ⟨gd, t, none⟩), .bool false, .bool false, .bool false, .int .i64 ((h : Nat) : Int), .int .i64 ((t : Nat) : Int), .bool false, .bool false, .pointer (some ⟨p, 0, none⟩), .pointer (some ⟨p, 0, none⟩), .pointer (some ⟨p, 8, none⟩), .slice (some ⟨gd, 0, none⟩) pg cd, .int .i64 ((h : Nat) : Int), .pointer (some ⟨gd, h, none⟩), .pointer (some ⟨p, 0, none⟩), .pointer (some ⟨p, 0, none⟩), .pointer (some ⟨p, 7, none⟩), .slice (some ⟨gl, 0, none⟩) sn cl, .int .i64 ((sn : Nat) : Int), .int .i64 0, undef, undef, undef, undef, undef, undef, undef, undef, undef, undef, undef, undef, undef, undef, undef], defers := [] } (by kernel_rfl) ?_
  refine x_then ?_
  refine x_block ?_
  replace H : Hs (fps [.blk p #[.int .i64 r, .int .i64 s, .int .i64 b, .int .i64 o, .int .i64 c, .int .i64 y, .int .i64 z, .slice (some ⟨gl, 0, none⟩) sn cl, .slice (some ⟨gd, 0, none⟩) pg cd, .slice (some ⟨gs, 0, none⟩) ns cs, .int .i64 ((pu : Nat) : Int), .int .i64 ((ru : Nat) : Int)] 181, .row (.slice (some ⟨gl, 0, none⟩) sn cl) 3 1 sn (List.map (Value.int .i64) L), .row (.slice (some ⟨gd, 0, none⟩) pg cd) 4 1 pg (List.map Value.bool D), .row (.slice (some ⟨gs, 0, none⟩) ns cs) 3 1 ns (List.map (Value.int .i64) S)]) w0 v2 [.blk p #[.int .i64 r, .int .i64 s, .int .i64 b, .int .i64 o, .int .i64 c, .int .i64 y, .int .i64 z, .slice (some ⟨gl, 0, none⟩) sn cl, .slice (some ⟨gd, 0, none⟩) pg cd, .slice (some ⟨gs, 0, none⟩) ns cs, .int .i64 ((pu : Nat) : Int), .int .i64 ((ru : Nat) : Int)] 181, .row (.slice (some ⟨gl, 0, none⟩) sn cl) 3 1 sn (List.map (Value.int .i64) (rets ((h : Nat) : Int) ((t : Nat) : Int) L 0)), .row (.slice (some ⟨gd, 0, none⟩) pg cd) 4 1 pg (List.map Value.bool (D.set h true)), .row (.slice (some ⟨gs, 0, none⟩) ns cs) 3 1 ns (List.map (Value.int .i64) S)] := by rw [rets_zero]; exact H
  refine x_loop (G := Nat) (fun (k : Nat) a w' => ∃ u7 : Value, ∃ u8 : Value, ∃ u67 : Value, ∃ u68 : Value, ∃ u69 : Value, ∃ u70 : Value, ∃ u71 : Value, ∃ u72 : Value, ∃ u73 : Value, ∃ u74 : Value, ∃ u75 : Value, ∃ u76 : Value, ∃ u77 : Value, ∃ u78 : Value, ∃ u79 : Value, ∃ u80 : Value, ∃ u81 : Value, a = { tmps := #[.pointer (some ⟨p, 0, none⟩), .int .i64 ((h : Nat) : Int), .int .i64 ((t : Nat) : Int), undef, undef, undef, .int .i64 0, u7, u8, .bool false, .int .i64 ((h : Nat) : Int), .pointer (some ⟨p, 0, none⟩), .pointer (some ⟨p, 0, none⟩), .pointer (some ⟨p, 8, none⟩), .slice (some ⟨gd, 0, none⟩) pg cd, .int .i64 ((pg : Nat) : Int), .bool true, .bool false, .bool false, .int .i64 ((t : Nat) : Int), .pointer (some ⟨p, 0, none⟩), .pointer (some ⟨p, 0, none⟩), .pointer (some ⟨p, 0, none⟩), .agg #[.int .i64 r, .int .i64 s, .int .i64 b, .int .i64 o, .int .i64 c, .int .i64 y, .int .i64 z], .int .i64 ((sn : Nat) : Int), .int .i64 (((t : Nat) : Int) - ((sn : Nat) : Int)), .pointer (some ⟨p, 0, none⟩), .pointer (some ⟨p, 0, none⟩), .pointer (some ⟨p, 10, none⟩), .int .i64 ((pu : Nat) : Int), .bool true, .bool false, .bool false, .bool false, .pointer (some ⟨p, 0, none⟩), .pointer (some ⟨p, 0, none⟩), .pointer (some ⟨p, 8, none⟩), .slice (some ⟨gd, 0, none⟩) pg cd, .int .i64 ((h : Nat) : Int), .pointer (some ⟨gd, h, none⟩), .bool false, .bool false, .pointer (some ⟨p, 0, none⟩), .pointer (some ⟨p, 0, none⟩), .pointer (some ⟨p, 8, none⟩), .slice (some ⟨gd, 0, none⟩) pg cd, .int .i64 ((t : Nat) : Int), .pointer (some ⟨gd, t, none⟩), .bool false, .bool false, .bool false, .int .i64 ((h : Nat) : Int), .int .i64 ((t : Nat) : Int), .bool false, .bool false, .pointer (some ⟨p, 0, none⟩), .pointer (some ⟨p, 0, none⟩), .pointer (some ⟨p, 8, none⟩), .slice (some ⟨gd, 0, none⟩) pg cd, .int .i64 ((h : Nat) : Int), .pointer (some ⟨gd, h, none⟩), .pointer (some ⟨p, 0, none⟩), .pointer (some ⟨p, 0, none⟩), .pointer (some ⟨p, 7, none⟩), .slice (some ⟨gl, 0, none⟩) sn cl, .int .i64 ((sn : Nat) : Int), .int .i64 ((k : Nat) : Int), u67, u68, u69, u70, u71, u72, u73, u74, u75, u76, u77, u78, u79, u80, u81], defers := [] } ∧ Hs (fps [.blk p #[.int .i64 r, .int .i64 s, .int .i64 b, .int .i64 o, .int .i64 c, .int .i64 y, .int .i64 z, .slice (some ⟨gl, 0, none⟩) sn cl, .slice (some ⟨gd, 0, none⟩) pg cd, .slice (some ⟨gs, 0, none⟩) ns cs, .int .i64 ((pu : Nat) : Int), .int .i64 ((ru : Nat) : Int)] 181, .row (.slice (some ⟨gl, 0, none⟩) sn cl) 3 1 sn (List.map (Value.int .i64) L), .row (.slice (some ⟨gd, 0, none⟩) pg cd) 4 1 pg (List.map Value.bool D), .row (.slice (some ⟨gs, 0, none⟩) ns cs) 3 1 ns (List.map (Value.int .i64) S)]) w0 w' [.blk p #[.int .i64 r, .int .i64 s, .int .i64 b, .int .i64 o, .int .i64 c, .int .i64 y, .int .i64 z, .slice (some ⟨gl, 0, none⟩) sn cl, .slice (some ⟨gd, 0, none⟩) pg cd, .slice (some ⟨gs, 0, none⟩) ns cs, .int .i64 ((pu : Nat) : Int), .int .i64 ((ru : Nat) : Int)] 181, .row (.slice (some ⟨gl, 0, none⟩) sn cl) 3 1 sn (List.map (Value.int .i64) (rets ((h : Nat) : Int) ((t : Nat) : Int) L k)), .row (.slice (some ⟨gd, 0, none⟩) pg cd) 4 1 pg (List.map Value.bool (D.set h true)), .row (.slice (some ⟨gs, 0, none⟩) ns cs) 3 1 ns (List.map (Value.int .i64) S)] ∧ (k ≤ sn)) (fun (k : Nat) => sn - k) 0 ⟨undef, undef, undef, undef, undef, undef, undef, undef, undef, undef, undef, undef, undef, undef, undef, undef, undef, (by kernel_rfl), H, (Nat.zero_le _)⟩ ?_
  clear H
  rintro k _ v3 ⟨u7, u8, u67, u68, u69, u70, u71, u72, u73, u74, u75, u76, u77, u78, u79, u80, u81, rfl, H, r1⟩
  have hk := rets_len ((h : Nat) : Int) ((t : Nat) : Int) L k
  refine x_seq ?_
  refine x_region ?_
  refine x_val (.bool (decide (((k : Nat) : Int) < ((sn : Nat) : Int)))) (by kernel_rfl) rfl (by kernel_rfl) ?_
  refine x_nil ?_
  refine x_then ?_
  refine x_seq ?_
  cases h1 : decide (((k : Nat) : Int) < ((sn : Nat) : Int))
  · skip
    have h1p := of_decide_eq_false h1
    have kE : k = sn := by omega
    rw [kE, rets_end _ _ _ _ (by omega)] at H
    refine x_f (by kernel_rfl) ?_
    refine x_exit ?_
    refine x_then_exit ?_
    refine x_then_exit ?_
    refine x_blk_exit ?_
    refine x_then ?_
    refine x_seq ?_
    refine x_region ?_
    refine x_val (.int .i64 0) (by kernel_rfl) rfl (by kernel_rfl) ?_
    refine x_nil ?_
    refine x_then ?_
    refine x_retc ?_
    refine x_ret (.int .i64 0) (by kernel_rfl) (by kernel_rfl) ?_
    exact ⟨rfl, H⟩
  · skip
    have h1p := of_decide_eq_true h1
    refine x_t (by kernel_rfl) ?_
    refine x_skipc ?_
    refine x_then ?_
    refine x_seq ?_
    refine x_block ?_
    refine x_seq ?_
    refine x_region ?_
    refine x_val (.int .i64 ((k : Nat) : Int)) (by kernel_rfl) rfl (by kernel_rfl) ?_
    refine x_ix (t := 106) gl 0 k sn cl 3 1 k (by omega) (by omega) (by kernel_rfl) (by kernel_rfl) (by kernel_rfl) rfl (by kernel_rfl) ?_
    refine x_loadc gl k (.int .i64 ((rets ((h : Nat) : Int) ((t : Nat) : Int) L k).getD k 0)) (H.rowCell 1 rfl k (mapAt 0 (by omega))) (by kernel_rfl) rfl (by kernel_rfl) ?_
    refine x_val (.int .i64 ((k : Nat) : Int)) (by kernel_rfl) rfl (by kernel_rfl) ?_
    refine x_val (.int .i64 ((rets ((h : Nat) : Int) ((t : Nat) : Int) L k).getD k 0)) (by kernel_rfl) rfl (by kernel_rfl) ?_
    refine x_nil ?_
    refine x_then ?_
    refine x_seq ?_
    refine x_region ?_
    refine x_val (.int .i64 ((rets ((h : Nat) : Int) ((t : Nat) : Int) L k).getD k 0)) (by kernel_rfl) rfl (by kernel_rfl) ?_
    refine x_val (.int .i64 ((h : Nat) : Int)) (by kernel_rfl) rfl (by kernel_rfl) ?_
    refine x_val (.bool (decide (((rets ((h : Nat) : Int) ((t : Nat) : Int) L k).getD k 0) = ((h : Nat) : Int)))) (by kernel_rfl) rfl (by kernel_rfl) ?_
    refine x_nil ?_
    refine x_then ?_
    cases h2 : decide (((rets ((h : Nat) : Int) ((t : Nat) : Int) L k).getD k 0) = ((h : Nat) : Int))
    · skip
      have h2p := of_decide_eq_false h2
      refine x_f (by kernel_rfl) ?_
      refine x_skipc ?_
      refine x_blk ?_
      refine x_then ?_
      refine x_region ?_
      refine x_ar (((k : Nat) : Int) + 1) ⟨by omega, by omega⟩ (by kernel_rfl) rfl (by kernel_rfl) ?_
      refine x_val (.int .i64 (((k : Nat) : Int) + 1)) (by kernel_rfl) rfl (by kernel_rfl) ?_
      refine x_nil ?_
      refine x_then ?_
      rw [← rets_no _ _ _ _ (by omega) (of_decide_eq_false h2)] at H
      exact ⟨(k + 1), (by omega), (.int .i64 ((k : Nat) : Int)), (.int .i64 ((rets ((h : Nat) : Int) ((t : Nat) : Int) L k).getD k 0)), (.bool true), (.int .i64 ((k : Nat) : Int)), (.pointer (some ⟨gl, k, none⟩)), (.int .i64 ((rets ((h : Nat) : Int) ((t : Nat) : Int) L k).getD k 0)), (.int .i64 ((rets ((h : Nat) : Int) ((t : Nat) : Int) L k).getD k 0)), (.int .i64 ((h : Nat) : Int)), (.bool false), u74, u75, u76, u77, u78, u79, u80, (.int .i64 (((k : Nat) : Int) + 1)), (by kernel_rfl), H, (by omega)⟩
    · skip
      have h2p := of_decide_eq_true h2
      refine x_t (by kernel_rfl) ?_
      refine x_region ?_
      refine x_val (.pointer (some ⟨p, 0, none⟩)) (by kernel_rfl) rfl (by kernel_rfl) ?_
      refine x_val (.pointer (some ⟨p, 0, none⟩)) (by kernel_rfl) rfl (by kernel_rfl) ?_
      refine x_val (.pointer (some ⟨p, 7, none⟩)) (by kernel_rfl) rfl (by kernel_rfl) ?_
      refine x_load1 H 0 p 7 #[.int .i64 r, .int .i64 s, .int .i64 b, .int .i64 o, .int .i64 c, .int .i64 y, .int .i64 z, .slice (some ⟨gl, 0, none⟩) sn cl, .slice (some ⟨gd, 0, none⟩) pg cd, .slice (some ⟨gs, 0, none⟩) ns cs, .int .i64 ((pu : Nat) : Int), .int .i64 ((ru : Nat) : Int)] 181 (.slice (some ⟨gl, 0, none⟩) sn cl) (by kernel_rfl) (by kernel_rfl) (by kernel_rfl) rfl (by kernel_rfl) ?_
      refine x_val (.int .i64 ((k : Nat) : Int)) (by kernel_rfl) rfl (by kernel_rfl) ?_
      refine x_val (.int .i64 ((t : Nat) : Int)) (by kernel_rfl) rfl (by kernel_rfl) ?_
      refine x_ix (t := 106) gl 0 k sn cl 3 1 k (by omega) (by omega) (by kernel_rfl) (by kernel_rfl) (by kernel_rfl) rfl (by kernel_rfl) ?_
      refine x_storeRow (t := 3) (v := .int .i64 ((t : Nat) : Int)) H 1 gl k sn cl 3 1 (List.map (Value.int .i64) (rets ((h : Nat) : Int) ((t : Nat) : Int) L k)) [.int .i64 ((t : Nat) : Int)] (List.map (Value.int .i64) ((rets ((h : Nat) : Int) ((t : Nat) : Int) L k).set k ((t : Nat) : Int))) [.blk p #[.int .i64 r, .int .i64 s, .int .i64 b, .int .i64 o, .int .i64 c, .int .i64 y, .int .i64 z, .slice (some ⟨gl, 0, none⟩) sn cl, .slice (some ⟨gd, 0, none⟩) pg cd, .slice (some ⟨gs, 0, none⟩) ns cs, .int .i64 ((pu : Nat) : Int), .int .i64 ((ru : Nat) : Int)] 181, .row (.slice (some ⟨gl, 0, none⟩) sn cl) 3 1 sn (List.map (Value.int .i64) ((rets ((h : Nat) : Int) ((t : Nat) : Int) L k).set k ((t : Nat) : Int))), .row (.slice (some ⟨gd, 0, none⟩) pg cd) 4 1 pg (List.map Value.bool (D.set h true)), .row (.slice (some ⟨gs, 0, none⟩) ns cs) 3 1 ns (List.map (Value.int .i64) S)] rfl (by simp only [List.length_cons, List.length_nil]; omega) (by kernel_rfl) (setMap (by omega) ((t : Nat) : Int)) rfl (by kernel_rfl) rfl (by kernel_rfl) (by kernel_rfl) (by kernel_rfl) ?_
      clear H
      intro v4 H
      refine x_nil ?_
      refine x_frame' { tmps := #[.pointer (some ⟨p, 0, none⟩), .int .i64 ((h : Nat) : Int), .int .i64 ((t : Nat) : Int), undef, undef, undef, .int .i64 0, .int .i64 ((k : Nat) : Int), .int .i64 ((rets ((h : Nat) : Int) ((t : Nat) : Int) L k).getD k 0), .bool false, .int .i64 ((h : Nat) : Int), .pointer (some ⟨p, 0, none⟩), .pointer (some ⟨p, 0, none⟩), .pointer (some ⟨p, 8, none⟩), .slice (some ⟨gd, 0, none⟩) pg cd, .int .i64 ((pg : Nat) : Int), .bool true, .bool false, .bool false, .int .i64 ((t : Nat) : Int), .pointer (some ⟨p, 0, none⟩), .pointer (some ⟨p, 0, none⟩), .pointer (some ⟨p, 0, none⟩), .agg #[.int .i64 r, .int .i64 s, .int .i64 b, .int .i64 o, .int .i64 c, .int .i64 y, .int .i64 z], .int .i64 ((sn : Nat) : Int), .int .i64 (((t : Nat) : Int) - ((sn : Nat) : Int)), .pointer (some ⟨p, 0, none⟩), .pointer (some ⟨p, 0, none⟩), .pointer (some ⟨p, 10, none⟩), .int .i64 ((pu : Nat) : Int), .bool true, .bool false, .bool false, .bool false, .pointer (some ⟨p, 0, none⟩), .pointer (some ⟨p, 0, none⟩), .pointer (some ⟨p, 8, none⟩), .slice (some ⟨gd, 0, none⟩) pg cd, .int .i64 ((h : Nat) : Int), .pointer (some ⟨gd, h, none⟩), .bool false, .bool false, .pointer (some ⟨p, 0, none⟩), .pointer (some ⟨p, 0, none⟩), .pointer (some ⟨p, 8, none⟩), .slice (some ⟨gd, 0, none⟩) pg cd, .int .i64 ((t : Nat) : Int), .pointer (some ⟨gd, t, none⟩), .bool false, .bool false, .bool false, .int .i64 ((h : Nat) : Int), .int .i64 ((t : Nat) : Int), .bool false, .bool false, .pointer (some ⟨p, 0, none⟩), .pointer (some ⟨p, 0, none⟩), .pointer (some ⟨p, 8, none⟩), .slice (some ⟨gd, 0, none⟩) pg cd, .int .i64 ((h : Nat) : Int), .pointer (some ⟨gd, h, none⟩), .pointer (some ⟨p, 0, none⟩), .pointer (some ⟨p, 0, none⟩), .pointer (some ⟨p, 7, none⟩), .slice (some ⟨gl, 0, none⟩) sn cl, .int .i64 ((sn : Nat) : Int), .int .i64 ((k : Nat) : Int), .bool true, .int .i64 ((k : Nat) : Int), .pointer (some ⟨gl, k, none⟩), .int .i64 ((rets ((h : Nat) : Int) ((t : Nat) : Int) L k).getD k 0), .int .i64 ((rets ((h : Nat) : Int) ((t : Nat) : Int) L k).getD k 0), .int .i64 ((h : Nat) : Int), .bool true, .pointer (some ⟨p, 0, none⟩), .pointer (some ⟨p, 0, none⟩), .pointer (some ⟨p, 7, none⟩), .slice (some ⟨gl, 0, none⟩) sn cl, .int .i64 ((k : Nat) : Int), .int .i64 ((t : Nat) : Int), .pointer (some ⟨gl, k, none⟩), u81], defers := [] } (by kernel_rfl) ?_
      refine x_blk ?_
      refine x_then ?_
      refine x_region ?_
      refine x_ar (((k : Nat) : Int) + 1) ⟨by omega, by omega⟩ (by kernel_rfl) rfl (by kernel_rfl) ?_
      refine x_val (.int .i64 (((k : Nat) : Int) + 1)) (by kernel_rfl) rfl (by kernel_rfl) ?_
      refine x_nil ?_
      refine x_then ?_
      rw [← rets_yes _ _ _ _ (by omega) (of_decide_eq_true h2)] at H
      exact ⟨(k + 1), (by omega), (.int .i64 ((k : Nat) : Int)), (.int .i64 ((rets ((h : Nat) : Int) ((t : Nat) : Int) L k).getD k 0)), (.bool true), (.int .i64 ((k : Nat) : Int)), (.pointer (some ⟨gl, k, none⟩)), (.int .i64 ((rets ((h : Nat) : Int) ((t : Nat) : Int) L k).getD k 0)), (.int .i64 ((rets ((h : Nat) : Int) ((t : Nat) : Int) L k).getD k 0)), (.int .i64 ((h : Nat) : Int)), (.bool true), (.pointer (some ⟨p, 0, none⟩)), (.pointer (some ⟨p, 0, none⟩)), (.pointer (some ⟨p, 7, none⟩)), (.slice (some ⟨gl, 0, none⟩) sn cl), (.int .i64 ((k : Nat) : Int)), (.int .i64 ((t : Nat) : Int)), (.pointer (some ⟨gl, k, none⟩)), (.int .i64 (((k : Nat) : Int) + 1)), (by kernel_rfl), H, (by omega)⟩

set_option maxRecDepth 100000 in
set_option maxHeartbeats 1000000 in
theorem New_yes {r s b o c y z : Int} {pg sn ns : Nat} (hL : Lay r s b o c y z pg sn ns) (w0 : World) :
    Calls Try.prog 34 #[.agg #[.int .i64 r, .int .i64 s, .int .i64 b, .int .i64 o, .int .i64 c, .int .i64 y, .int .i64 z]] w0 fun e w' => ∃ p gl cl gd cd gs cs, e = .returned (.tuple #[.pointer (some ⟨p, 0, none⟩), .int .i64 0]) ∧ Hs [] w0 w' [.blk p #[.int .i64 r, .int .i64 s, .int .i64 b, .int .i64 o, .int .i64 c, .int .i64 y, .int .i64 z, .slice (some ⟨gl, 0, none⟩) sn cl, .slice (some ⟨gd, 0, none⟩) pg cd, .slice (some ⟨gs, 0, none⟩) ns cs, .int .i64 ((0 : Nat) : Int), .int .i64 ((0 : Nat) : Int)] 181, .row (.slice (some ⟨gl, 0, none⟩) sn cl) 3 1 sn (List.map (Value.int .i64) (iota sn)), .row (.slice (some ⟨gd, 0, none⟩) pg cd) 4 1 pg (List.map Value.bool (List.replicate pg false)), .row (.slice (some ⟨gs, 0, none⟩) ns cs) 3 1 ns (List.map (Value.int .i64) (List.replicate ns (-1)))] := by
  refine x_enter Try.func34 rfl #[.agg #[.int .i64 r, .int .i64 s, .int .i64 b, .int .i64 o, .int .i64 c, .int .i64 y, .int .i64 z], undef, undef, undef, undef, undef, undef, undef, undef, undef, undef, undef, undef, undef, undef, undef, undef, undef, undef, undef, undef, undef, undef, undef, undef, undef, undef, undef, undef, undef, undef, undef, undef, undef, undef, undef, undef, undef, undef, undef, undef, undef, undef, undef, undef, undef, undef, undef] (by kernel_rfl) ?_
  have H := Hs.nil w0
  have hok := hL.ok
  obtain ⟨-, r1, r8, s0, s8, b1, b2, o1, o2, c1, c2, y0, y4, z0, z2, hpg, hsn, hns, sn1, pg2, ln0, ln2⟩ := id hL
  refine x_seq ?_
  refine x_region ?_
  refine x_box H #[.int .i64 r, .int .i64 s, .int .i64 b, .int .i64 o, .int .i64 c, .int .i64 y, .int .i64 z] 69 (by kernel_rfl) rfl (by kernel_rfl) ?_
  clear H
  intro v1 g1 H
  refine x_val (.pointer none) (by kernel_rfl) rfl (by kernel_rfl) ?_
  refine x_val (.int .i64 0) (by kernel_rfl) rfl (by kernel_rfl) ?_
  refine x_nil ?_
  refine x_then ?_
  refine x_seq ?_
  refine x_seq ?_
  refine x_region ?_
  refine x_loadn (t := 69) H 0 g1 0 #[.int .i64 r, .int .i64 s, .int .i64 b, .int .i64 o, .int .i64 c, .int .i64 y, .int .i64 z] 69 [.int .i64 r, .int .i64 s, .int .i64 b, .int .i64 o, .int .i64 c, .int .i64 y, .int .i64 z] (by kernel_rfl) (by kernel_rfl) (by kernel_rfl) rfl (by kernel_rfl) (by kernel_rfl) ?_
  refine x_callB (.bool (layoutOk r s b o c y z)) H (by kernel_rfl) rfl (by kernel_rfl) (lRight_any _ _ _ _ _ _ _ (by omega) (by omega) (by omega) (by omega) _) ?_
  clear H
  intro v2 H
  refine x_val (.bool (!(layoutOk r s b o c y z))) (by kernel_rfl) rfl (by kernel_rfl) ?_
  refine x_nil ?_
  refine x_then ?_
  rw [hok]
  refine x_f (by kernel_rfl) ?_
  refine x_skipc ?_
  refine x_then ?_
  refine x_seq ?_
  refine x_region_s 8 (fun w' => Hs [] w0 w' [.blk g1 #[.int .i64 r, .int .i64 s, .int .i64 b, .int .i64 o, .int .i64 c, .int .i64 y, .int .i64 z] 69]) (fun w' => Hs [] w0 w' [.blk g1 #[.int .i64 r, .int .i64 s, .int .i64 b, .int .i64 o, .int .i64 c, .int .i64 y, .int .i64 z] 69]) (by kernel_rfl) (by kernel_rfl) (by kernel_rfl) hsShut (fun _ h => h.pick [0] _ (by decide) (by kernel_rfl)) H.drew ?_
  refine s_quiet 0 rfl (by kernel_rfl) (y_loadn (t := 69) 0 g1 0 #[.int .i64 r, .int .i64 s, .int .i64 b, .int .i64 o, .int .i64 c, .int .i64 y, .int .i64 z] 69 [.int .i64 r, .int .i64 s, .int .i64 b, .int .i64 o, .int .i64 c, .int .i64 y, .int .i64 z] (by kernel_rfl) (by kernel_rfl) (by kernel_rfl) (by kernel_rfl) (by kernel_rfl)) ?_
  refine s_quiet 1 rfl (by kernel_rfl) (y_val (.pointer (some ⟨g1, 0, none⟩)) (by kernel_rfl) (fun _ => by kernel_rfl)) ?_
  refine s_quiet 2 rfl (by kernel_rfl) (y_loadn (t := 67) 0 g1 0 #[.int .i64 r, .int .i64 s, .int .i64 b, .int .i64 o, .int .i64 c, .int .i64 y, .int .i64 z] 69 [.int .i64 r, .int .i64 s, .int .i64 b, .int .i64 o, .int .i64 c] (by kernel_rfl) (by kernel_rfl) (by kernel_rfl) (by kernel_rfl) (by kernel_rfl)) ?_
  refine s_quiet 3 rfl (by kernel_rfl) (y_callB (.int .i64 ((pg : Nat) : Int)) (by kernel_rfl) (fun _ => by kernel_rfl) (fun _ => (pages_of hL _))) ?_
  refine s_one 4 rfl (by kernel_rfl) rfl ?_
  clear H
  intro v3 H
  refine x_make H 179 4 1 pg (.bool false) (by kernel_rfl) (by kernel_rfl) rfl (by unfold maxLen; omega) (by omega) (by kernel_rfl) rfl (by kernel_rfl) ?_
  clear H
  intro v4 g2 H
  rw [show (List.replicate pg (.bool false)) = (List.map Value.bool (List.replicate pg false)) from (by rw [List.map_replicate])] at H
  refine x_nil ?_
  refine x_then ?_
  refine ⟨fun w' => Hs [] w0 w' [.row (.slice (some ⟨g2, 0, none⟩) pg pg) 4 1 pg (List.map Value.bool (List.replicate pg false)), .blk g1 #[.int .i64 r, .int .i64 s, .int .i64 b, .int .i64 o, .int .i64 c, .int .i64 y, .int .i64 z] 69], fun w' => Hs [] w0 w' [.row (.slice (some ⟨g2, 0, none⟩) pg pg) 4 1 pg (List.map Value.bool (List.replicate pg false)), .blk g1 #[.int .i64 r, .int .i64 s, .int .i64 b, .int .i64 o, .int .i64 c, .int .i64 y, .int .i64 z] 69], H, hsShut, fun _ h => h.pick [0, 1] _ (by decide) (by kernel_rfl), fun _ h => h.pick [1] _ (by decide) (by kernel_rfl), ?_⟩
  refine s_quiet 5 rfl (by kernel_rfl) (y_val (.agg #[.int .i64 r, .int .i64 s, .int .i64 b, .int .i64 o, .int .i64 c, .int .i64 y, .int .i64 z, .slice none 0 0, .slice (some ⟨g2, 0, none⟩) pg pg, .slice none 0 0, .int .i64 0, .int .i64 0]) (by kernel_rfl) (fun _ => by kernel_rfl)) ?_
  refine s_one 6 rfl (by kernel_rfl) rfl ?_
  clear H
  intro v5 H
  refine x_box H #[.int .i64 r, .int .i64 s, .int .i64 b, .int .i64 o, .int .i64 c, .int .i64 y, .int .i64 z, .slice none 0 0, .slice (some ⟨g2, 0, none⟩) pg pg, .slice none 0 0, .int .i64 0, .int .i64 0] 181 (by kernel_rfl) rfl (by kernel_rfl) ?_
  clear H
  intro v6 g3 H
  refine x_nil ?_
  refine x_then ?_
  refine ⟨fun w' => Hs [] w0 w' [.blk g3 #[.int .i64 r, .int .i64 s, .int .i64 b, .int .i64 o, .int .i64 c, .int .i64 y, .int .i64 z, .slice none 0 0, .slice (some ⟨g2, 0, none⟩) pg pg, .slice none 0 0, .int .i64 0, .int .i64 0] 181, .row (.slice (some ⟨g2, 0, none⟩) pg pg) 4 1 pg (List.map Value.bool (List.replicate pg false)), .blk g1 #[.int .i64 r, .int .i64 s, .int .i64 b, .int .i64 o, .int .i64 c, .int .i64 y, .int .i64 z] 69], fun w' => Hs [] w0 w' [.blk g3 #[.int .i64 r, .int .i64 s, .int .i64 b, .int .i64 o, .int .i64 c, .int .i64 y, .int .i64 z, .slice none 0 0, .slice (some ⟨g2, 0, none⟩) pg pg, .slice none 0 0, .int .i64 0, .int .i64 0] 181, .row (.slice (some ⟨g2, 0, none⟩) pg pg) 4 1 pg (List.map Value.bool (List.replicate pg false)), .blk g1 #[.int .i64 r, .int .i64 s, .int .i64 b, .int .i64 o, .int .i64 c, .int .i64 y, .int .i64 z] 69], H, hsShut, fun _ h => h.pick [0, 1, 2] _ (by decide) (by kernel_rfl), fun _ h => h.pick [1, 2] _ (by decide) (by kernel_rfl), ?_⟩
  refine s_quiet 7 rfl (by kernel_rfl) (y_val (.pointer (some ⟨g3, 0, none⟩)) (by kernel_rfl) (fun _ => by kernel_rfl)) ?_
  refine s_done (by kernel_rfl) ?_
  clear H
  intro v7 H
  refine x_frame' { tmps := #[.agg #[.int .i64 r, .int .i64 s, .int .i64 b, .int .i64 o, .int .i64 c, .int .i64 y, .int .i64 z], .pointer (some ⟨g1, 0, none⟩), .pointer none, .int .i64 0, .pointer (some ⟨g3, 0, none⟩), undef, .agg #[.int .i64 r, .int .i64 s, .int .i64 b, .int .i64 o, .int .i64 c, .int .i64 y, .int .i64 z], .bool true, .bool false, .agg #[.int .i64 r, .int .i64 s, .int .i64 b, .int .i64 o, .int .i64 c, .int .i64 y, .int .i64 z], .pointer (some ⟨g1, 0, none⟩), .agg #[.int .i64 r, .int .i64 s, .int .i64 b, .int .i64 o, .int .i64 c], .int .i64 ((pg : Nat) : Int), .slice (some ⟨g2, 0, none⟩) pg pg, .agg #[.int .i64 r, .int .i64 s, .int .i64 b, .int .i64 o, .int .i64 c, .int .i64 y, .int .i64 z, .slice none 0 0, .slice (some ⟨g2, 0, none⟩) pg pg, .slice none 0 0, .int .i64 0, .int .i64 0], .pointer (some ⟨g3, 0, none⟩), undef, undef, undef, undef, undef, undef, undef, undef, undef, undef, undef, undef, undef, undef, undef, undef, undef, undef, undef, undef, undef, undef, undef, undef, undef, undef, undef, undef, undef, undef, undef, undef], defers := [] } (by kernel_rfl) ?_
  refine x_then ?_
  refine x_seq ?_
  refine x_seq ?_
  refine x_region ?_
  refine x_loadn (t := 69) H 2 g1 0 #[.int .i64 r, .int .i64 s, .int .i64 b, .int .i64 o, .int .i64 c, .int .i64 y, .int .i64 z] 69 [.int .i64 r, .int .i64 s, .int .i64 b, .int .i64 o, .int .i64 c, .int .i64 y, .int .i64 z] (by kernel_rfl) (by kernel_rfl) (by kernel_rfl) rfl (by kernel_rfl) (by kernel_rfl) ?_
  refine x_callB (.int .i64 ((sn : Nat) : Int)) H (by kernel_rfl) rfl (by kernel_rfl) (seen_of hL _) ?_
  clear H
  intro v8 H
  refine x_val (.int .i64 0) (by kernel_rfl) rfl (by kernel_rfl) ?_
  refine x_nil ?_
  refine x_then ?_
  refine x_block ?_
  replace H := H.nilRow 3 1
  refine x_loop (G := Nat × Value) (fun gh a w' => match gh with | (k, vl) => ∃ u5 : Value, ∃ u19 : Value, ∃ u20 : Value, ∃ u21 : Value, ∃ u22 : Value, ∃ u23 : Value, ∃ u24 : Value, ∃ u25 : Value, ∃ u26 : Value, ∃ u27 : Value, ∃ u28 : Value, ∃ u29 : Value, ∃ u30 : Value, ∃ u31 : Value, a = { tmps := #[.agg #[.int .i64 r, .int .i64 s, .int .i64 b, .int .i64 o, .int .i64 c, .int .i64 y, .int .i64 z], .pointer (some ⟨g1, 0, none⟩), .pointer none, .int .i64 0, .pointer (some ⟨g3, 0, none⟩), u5, .agg #[.int .i64 r, .int .i64 s, .int .i64 b, .int .i64 o, .int .i64 c, .int .i64 y, .int .i64 z], .bool true, .bool false, .agg #[.int .i64 r, .int .i64 s, .int .i64 b, .int .i64 o, .int .i64 c, .int .i64 y, .int .i64 z], .pointer (some ⟨g1, 0, none⟩), .agg #[.int .i64 r, .int .i64 s, .int .i64 b, .int .i64 o, .int .i64 c], .int .i64 ((pg : Nat) : Int), .slice (some ⟨g2, 0, none⟩) pg pg, .agg #[.int .i64 r, .int .i64 s, .int .i64 b, .int .i64 o, .int .i64 c, .int .i64 y, .int .i64 z, .slice none 0 0, .slice (some ⟨g2, 0, none⟩) pg pg, .slice none 0 0, .int .i64 0, .int .i64 0], .pointer (some ⟨g3, 0, none⟩), .agg #[.int .i64 r, .int .i64 s, .int .i64 b, .int .i64 o, .int .i64 c, .int .i64 y, .int .i64 z], .int .i64 ((sn : Nat) : Int), .int .i64 ((k : Nat) : Int), u19, u20, u21, u22, u23, u24, u25, u26, u27, u28, u29, u30, u31, undef, undef, undef, undef, undef, undef, undef, undef, undef, undef, undef, undef, undef, undef, undef, undef], defers := [] } ∧ Hs [] w0 w' [.row (vl) 3 1 k (List.map (Value.int .i64) (iota k)), .blk g3 #[.int .i64 r, .int .i64 s, .int .i64 b, .int .i64 o, .int .i64 c, .int .i64 y, .int .i64 z, vl, .slice (some ⟨g2, 0, none⟩) pg pg, .slice none 0 0, .int .i64 0, .int .i64 0] 181, .row (.slice (some ⟨g2, 0, none⟩) pg pg) 4 1 pg (List.map Value.bool (List.replicate pg false)), .blk g1 #[.int .i64 r, .int .i64 s, .int .i64 b, .int .i64 o, .int .i64 c, .int .i64 y, .int .i64 z] 69] ∧ (k ≤ sn)) (fun gh => match gh with | (k, vl) => sn - k) (0, .slice none 0 0) ⟨undef, undef, undef, undef, undef, undef, undef, undef, undef, undef, undef, undef, undef, undef, (by kernel_rfl), H, (Nat.zero_le _)⟩ ?_
  clear H
  rintro ⟨k, vl⟩ _ v9 ⟨u5, u19, u20, u21, u22, u23, u24, u25, u26, u27, u28, u29, u30, u31, rfl, H, r1⟩
  refine x_seq ?_
  refine x_region ?_
  refine x_val (.bool (decide (((k : Nat) : Int) < ((sn : Nat) : Int)))) (by kernel_rfl) rfl (by kernel_rfl) ?_
  refine x_nil ?_
  refine x_then ?_
  refine x_seq ?_
  cases h1 : decide (((k : Nat) : Int) < ((sn : Nat) : Int))
  · skip
    have h1p := of_decide_eq_false h1
    refine x_f (by kernel_rfl) ?_
    refine x_exit ?_
    refine x_then_exit ?_
    refine x_then_exit ?_
    refine x_blk_exit ?_
    refine x_then ?_
    refine x_seq ?_
    refine x_seq ?_
    refine x_region ?_
    refine x_val (.pointer (some ⟨g1, 0, none⟩)) (by kernel_rfl) rfl (by kernel_rfl) ?_
    refine x_val (.pointer (some ⟨g1, 0, none⟩)) (by kernel_rfl) rfl (by kernel_rfl) ?_
    refine x_load1 H 3 g1 0 #[.int .i64 r, .int .i64 s, .int .i64 b, .int .i64 o, .int .i64 c, .int .i64 y, .int .i64 z] 69 (.int .i64 r) (by kernel_rfl) (by kernel_rfl) (by kernel_rfl) rfl (by kernel_rfl) ?_
    refine x_val (.int .i64 0) (by kernel_rfl) rfl (by kernel_rfl) ?_
    refine x_nil ?_
    refine x_then ?_
    refine x_block ?_
    replace H := H.nilRow 3 1
    refine x_loop (G := Nat × Value) (fun gh a w' => match gh with | (j, vs) => ∃ u36 : Value, ∃ u37 : Value, ∃ u38 : Value, ∃ u39 : Value, ∃ u40 : Value, ∃ u41 : Value, ∃ u42 : Value, ∃ u43 : Value, ∃ u44 : Value, ∃ u45 : Value, ∃ u46 : Value, a = { tmps := #[.agg #[.int .i64 r, .int .i64 s, .int .i64 b, .int .i64 o, .int .i64 c, .int .i64 y, .int .i64 z], .pointer (some ⟨g1, 0, none⟩), .pointer none, .int .i64 0, .pointer (some ⟨g3, 0, none⟩), u5, .agg #[.int .i64 r, .int .i64 s, .int .i64 b, .int .i64 o, .int .i64 c, .int .i64 y, .int .i64 z], .bool true, .bool false, .agg #[.int .i64 r, .int .i64 s, .int .i64 b, .int .i64 o, .int .i64 c, .int .i64 y, .int .i64 z], .pointer (some ⟨g1, 0, none⟩), .agg #[.int .i64 r, .int .i64 s, .int .i64 b, .int .i64 o, .int .i64 c], .int .i64 ((pg : Nat) : Int), .slice (some ⟨g2, 0, none⟩) pg pg, .agg #[.int .i64 r, .int .i64 s, .int .i64 b, .int .i64 o, .int .i64 c, .int .i64 y, .int .i64 z, .slice none 0 0, .slice (some ⟨g2, 0, none⟩) pg pg, .slice none 0 0, .int .i64 0, .int .i64 0], .pointer (some ⟨g3, 0, none⟩), .agg #[.int .i64 r, .int .i64 s, .int .i64 b, .int .i64 o, .int .i64 c, .int .i64 y, .int .i64 z], .int .i64 ((sn : Nat) : Int), .int .i64 ((k : Nat) : Int), .bool false, u20, u21, u22, u23, u24, u25, u26, u27, u28, u29, u30, u31, .pointer (some ⟨g1, 0, none⟩), .pointer (some ⟨g1, 0, none⟩), .int .i64 r, .int .i64 ((j : Nat) : Int), u36, u37, u38, u39, u40, u41, u42, u43, u44, u45, u46, undef], defers := [] } ∧ Hs [] w0 w' [.row (vs) 3 1 j (List.map (Value.int .i64) (List.replicate j (-1))), .row (vl) 3 1 k (List.map (Value.int .i64) (iota k)), .blk g3 #[.int .i64 r, .int .i64 s, .int .i64 b, .int .i64 o, .int .i64 c, .int .i64 y, .int .i64 z, vl, .slice (some ⟨g2, 0, none⟩) pg pg, vs, .int .i64 0, .int .i64 0] 181, .row (.slice (some ⟨g2, 0, none⟩) pg pg) 4 1 pg (List.map Value.bool (List.replicate pg false)), .blk g1 #[.int .i64 r, .int .i64 s, .int .i64 b, .int .i64 o, .int .i64 c, .int .i64 y, .int .i64 z] 69] ∧ (j ≤ ns)) (fun gh => match gh with | (j, vs) => ns - j) (0, .slice none 0 0) ⟨undef, undef, undef, undef, undef, undef, undef, undef, undef, undef, undef, (by kernel_rfl), H, (Nat.zero_le _)⟩ ?_
    clear H
    rintro ⟨j, vs⟩ _ v10 ⟨u36, u37, u38, u39, u40, u41, u42, u43, u44, u45, u46, rfl, H, r1⟩
    refine x_seq ?_
    refine x_region ?_
    refine x_val (.bool (decide (((j : Nat) : Int) < r))) (by kernel_rfl) rfl (by kernel_rfl) ?_
    refine x_nil ?_
    refine x_then ?_
    refine x_seq ?_
    cases h2 : decide (((j : Nat) : Int) < r)
    · skip
      have h2p := of_decide_eq_false h2
      refine x_f (by kernel_rfl) ?_
      refine x_exit ?_
      refine x_then_exit ?_
      refine x_then_exit ?_
      refine x_blk_exit ?_
      refine x_then ?_
      refine x_seq ?_
      refine x_region ?_
      refine x_val (.pointer (some ⟨g3, 0, none⟩)) (by kernel_rfl) rfl (by kernel_rfl) ?_
      refine x_val (.pointer (some ⟨g3, 0, none⟩)) (by kernel_rfl) rfl (by kernel_rfl) ?_
      refine x_val (.int .i64 0) (by kernel_rfl) rfl (by kernel_rfl) ?_
      refine x_nil ?_
      refine x_then ?_
      refine x_retc ?_
      refine x_ret (.tuple #[.pointer (some ⟨g3, 0, none⟩), .int .i64 0]) (by kernel_rfl) (by kernel_rfl) ?_
      obtain rfl : k = sn := by omega
      obtain rfl : j = ns := by omega
      obtain ⟨gl, cl, rfl, -⟩ := rowSome (H.ok 1 _ rfl) (by omega)
      obtain ⟨gs, cs, rfl, -⟩ := rowSome (H.ok 0 _ rfl) (by omega)
      exact ⟨_, _, _, _, _, _, _, rfl, H.pick [2, 1, 3, 0] _ (by decide) rfl⟩
    · skip
      have h2p := of_decide_eq_true h2
      refine x_t (by kernel_rfl) ?_
      refine x_skipc ?_
      refine x_then ?_
      refine x_seq ?_
      refine x_block ?_
      refine x_region ?_
      refine x_val (.pointer (some ⟨g3, 0, none⟩)) (by kernel_rfl) rfl (by kernel_rfl) ?_
      refine x_val (.pointer (some ⟨g3, 0, none⟩)) (by kernel_rfl) rfl (by kernel_rfl) ?_
      refine x_val (.pointer (some ⟨g3, 0, none⟩)) (by kernel_rfl) rfl (by kernel_rfl) ?_
      refine x_val (.pointer (some ⟨g3, 9, none⟩)) (by kernel_rfl) rfl (by kernel_rfl) ?_
      refine x_load1 H 2 g3 9 #[.int .i64 r, .int .i64 s, .int .i64 b, .int .i64 o, .int .i64 c, .int .i64 y, .int .i64 z, vl, .slice (some ⟨g2, 0, none⟩) pg pg, vs, .int .i64 0, .int .i64 0] 181 (vs) (by kernel_rfl) (by kernel_rfl) (by kernel_rfl) rfl (by kernel_rfl) ?_
      refine x_box' H #[.int .i64 (-1)] 3 1 (by kernel_rfl) rfl (by kernel_rfl) ?_
      clear H
      intro v11 g4 H
      refine x_append H 1 (vs) 106 3 1 8 j (.int .i64 0) (List.map (Value.int .i64) (List.replicate j (-1))) ⟨g4, 0, none⟩ 1 1 [.int .i64 (-1)] rfl (by kernel_rfl) (by kernel_rfl) rfl (by decide) (by decide) rfl (fun j u hj => by rw [add_none]; exact cellOf (H.blk 0 rfl) (by simpa using hj)) (List.all_eq_true.1 (by kernel_rfl)) (by unfold maxLen; omega) (by omega) (by kernel_rfl) rfl (by kernel_rfl) ?_
      clear H
      intro v12 g5 c5 hc5 H
      rw [show (List.map (Value.int .i64) (List.replicate j (-1))) ++ [.int .i64 (-1)] = (List.map (Value.int .i64) (List.replicate (j + 1) (-1))) from (by rw [List.replicate_succ', List.map_append]; rfl)] at H
      replace H : Hs [] w0 v12 [.blk g4 #[.int .i64 (-1)] 3, .row (.slice (some ⟨g5, 0, none⟩) (j + 1) c5) 3 1 (j + 1) (List.map (Value.int .i64) (List.replicate (j + 1) (-1))), .row (vl) 3 1 k (List.map (Value.int .i64) (iota k)), .blk g3 #[.int .i64 r, .int .i64 s, .int .i64 b, .int .i64 o, .int .i64 c, .int .i64 y, .int .i64 z, vl, .slice (some ⟨g2, 0, none⟩) pg pg, vs, .int .i64 0, .int .i64 0] 181, .row (.slice (some ⟨g2, 0, none⟩) pg pg) 4 1 pg (List.map Value.bool (List.replicate pg false)), .blk g1 #[.int .i64 r, .int .i64 s, .int .i64 b, .int .i64 o, .int .i64 c, .int .i64 y, .int .i64 z] 69] := H
      replace H := H.pick [1, 2, 3, 4, 5] [.row (.slice (some ⟨g5, 0, none⟩) (j + 1) c5) 3 1 (j + 1) (List.map (Value.int .i64) (List.replicate (j + 1) (-1))), .row (vl) 3 1 k (List.map (Value.int .i64) (iota k)), .blk g3 #[.int .i64 r, .int .i64 s, .int .i64 b, .int .i64 o, .int .i64 c, .int .i64 y, .int .i64 z, vl, .slice (some ⟨g2, 0, none⟩) pg pg, vs, .int .i64 0, .int .i64 0] 181, .row (.slice (some ⟨g2, 0, none⟩) pg pg) 4 1 pg (List.map Value.bool (List.replicate pg false)), .blk g1 #[.int .i64 r, .int .i64 s, .int .i64 b, .int .i64 o, .int .i64 c, .int .i64 y, .int .i64 z] 69] (by decide) (by kernel_rfl)
      refine x_val (.pointer (some ⟨g3, 0, none⟩)) (by kernel_rfl) rfl (by kernel_rfl) ?_
      refine x_val (.pointer (some ⟨g3, 9, none⟩)) (by kernel_rfl) rfl (by kernel_rfl) ?_
      refine x_store (t := 106) (v := .slice (some ⟨g5, 0, none⟩) (j + 1) c5) H 2 g3 9 #[.int .i64 r, .int .i64 s, .int .i64 b, .int .i64 o, .int .i64 c, .int .i64 y, .int .i64 z, vl, .slice (some ⟨g2, 0, none⟩) pg pg, vs, .int .i64 0, .int .i64 0] #[.int .i64 r, .int .i64 s, .int .i64 b, .int .i64 o, .int .i64 c, .int .i64 y, .int .i64 z, vl, .slice (some ⟨g2, 0, none⟩) pg pg, .slice (some ⟨g5, 0, none⟩) (j + 1) c5, .int .i64 0, .int .i64 0] 181 [.slice (some ⟨g5, 0, none⟩) (j + 1) c5] [.row (.slice (some ⟨g5, 0, none⟩) (j + 1) c5) 3 1 (j + 1) (List.map (Value.int .i64) (List.replicate (j + 1) (-1))), .row (vl) 3 1 k (List.map (Value.int .i64) (iota k)), .blk g3 #[.int .i64 r, .int .i64 s, .int .i64 b, .int .i64 o, .int .i64 c, .int .i64 y, .int .i64 z, vl, .slice (some ⟨g2, 0, none⟩) pg pg, .slice (some ⟨g5, 0, none⟩) (j + 1) c5, .int .i64 0, .int .i64 0] 181, .row (.slice (some ⟨g2, 0, none⟩) pg pg) 4 1 pg (List.map Value.bool (List.replicate pg false)), .blk g1 #[.int .i64 r, .int .i64 s, .int .i64 b, .int .i64 o, .int .i64 c, .int .i64 y, .int .i64 z] 69] (by kernel_rfl) rfl (by kernel_rfl) (by kernel_rfl) (by kernel_rfl) (by kernel_rfl) (by kernel_rfl) (by kernel_rfl) (by kernel_rfl) (by kernel_rfl) ?_
      clear H
      intro v13 H
      refine x_nil ?_
      refine x_blk ?_
      refine x_then ?_
      refine x_region ?_
      refine x_ar (((j : Nat) : Int) + 1) ⟨by omega, by omega⟩ (by kernel_rfl) rfl (by kernel_rfl) ?_
      refine x_val (.int .i64 (((j : Nat) : Int) + 1)) (by kernel_rfl) rfl (by kernel_rfl) ?_
      refine x_nil ?_
      refine x_frame' { tmps := #[.agg #[.int .i64 r, .int .i64 s, .int .i64 b, .int .i64 o, .int .i64 c, .int .i64 y, .int .i64 z], .pointer (some ⟨g1, 0, none⟩), .pointer none, .int .i64 0, .pointer (some ⟨g3, 0, none⟩), u5, .agg #[.int .i64 r, .int .i64 s, .int .i64 b, .int .i64 o, .int .i64 c, .int .i64 y, .int .i64 z], .bool true, .bool false, .agg #[.int .i64 r, .int .i64 s, .int .i64 b, .int .i64 o, .int .i64 c, .int .i64 y, .int .i64 z], .pointer (some ⟨g1, 0, none⟩), .agg #[.int .i64 r, .int .i64 s, .int .i64 b, .int .i64 o, .int .i64 c], .int .i64 ((pg : Nat) : Int), .slice (some ⟨g2, 0, none⟩) pg pg, .agg #[.int .i64 r, .int .i64 s, .int .i64 b, .int .i64 o, .int .i64 c, .int .i64 y, .int .i64 z, .slice none 0 0, .slice (some ⟨g2, 0, none⟩) pg pg, .slice none 0 0, .int .i64 0, .int .i64 0], .pointer (some ⟨g3, 0, none⟩), .agg #[.int .i64 r, .int .i64 s, .int .i64 b, .int .i64 o, .int .i64 c, .int .i64 y, .int .i64 z], .int .i64 ((sn : Nat) : Int), .int .i64 ((k : Nat) : Int), .bool false, u20, u21, u22, u23, u24, u25, u26, u27, u28, u29, u30, u31, .pointer (some ⟨g1, 0, none⟩), .pointer (some ⟨g1, 0, none⟩), .int .i64 r, .int .i64 (((j : Nat) : Int) + 1), .bool true, .pointer (some ⟨g3, 0, none⟩), .pointer (some ⟨g3, 0, none⟩), .pointer (some ⟨g3, 0, none⟩), .pointer (some ⟨g3, 9, none⟩), vs, .slice (some ⟨g4, 0, none⟩) 1 1, .slice (some ⟨g5, 0, none⟩) (j + 1) c5, .pointer (some ⟨g3, 0, none⟩), .pointer (some ⟨g3, 9, none⟩), .int .i64 (((j : Nat) : Int) + 1), undef], defers := [] } (by kernel_rfl) ?_
      refine x_then ?_
      exact ⟨(j + 1, .slice (some ⟨g5, 0, none⟩) (j + 1) c5), (by dsimp only; omega), (.bool true), (.pointer (some ⟨g3, 0, none⟩)), (.pointer (some ⟨g3, 0, none⟩)), (.pointer (some ⟨g3, 0, none⟩)), (.pointer (some ⟨g3, 9, none⟩)), vs, (.slice (some ⟨g4, 0, none⟩) 1 1), (.slice (some ⟨g5, 0, none⟩) (j + 1) c5), (.pointer (some ⟨g3, 0, none⟩)), (.pointer (some ⟨g3, 9, none⟩)), (.int .i64 (((j : Nat) : Int) + 1)), (by kernel_rfl), H, (by omega)⟩
  · skip
    have h1p := of_decide_eq_true h1
    refine x_t (by kernel_rfl) ?_
    refine x_skipc ?_
    refine x_then ?_
    refine x_seq ?_
    refine x_block ?_
    refine x_seq ?_
    refine x_region ?_
    refine x_val (.int .i64 ((k : Nat) : Int)) (by kernel_rfl) rfl (by kernel_rfl) ?_
    refine x_val (.int .i64 ((k : Nat) : Int)) (by kernel_rfl) rfl (by kernel_rfl) ?_
    refine x_nil ?_
    refine x_then ?_
    refine x_region ?_
    refine x_val (.pointer (some ⟨g3, 0, none⟩)) (by kernel_rfl) rfl (by kernel_rfl) ?_
    refine x_val (.pointer (some ⟨g3, 0, none⟩)) (by kernel_rfl) rfl (by kernel_rfl) ?_
    refine x_val (.pointer (some ⟨g3, 0, none⟩)) (by kernel_rfl) rfl (by kernel_rfl) ?_
    refine x_val (.pointer (some ⟨g3, 7, none⟩)) (by kernel_rfl) rfl (by kernel_rfl) ?_
    refine x_load1 H 1 g3 7 #[.int .i64 r, .int .i64 s, .int .i64 b, .int .i64 o, .int .i64 c, .int .i64 y, .int .i64 z, vl, .slice (some ⟨g2, 0, none⟩) pg pg, .slice none 0 0, .int .i64 0, .int .i64 0] 181 (vl) (by kernel_rfl) (by kernel_rfl) (by kernel_rfl) rfl (by kernel_rfl) ?_
    refine x_val (.int .i64 ((k : Nat) : Int)) (by kernel_rfl) rfl (by kernel_rfl) ?_
    refine x_box' H #[.int .i64 ((k : Nat) : Int)] 3 1 (by kernel_rfl) rfl (by kernel_rfl) ?_
    clear H
    intro v14 g6 H
    refine x_append H 1 (vl) 106 3 1 8 k (.int .i64 0) (List.map (Value.int .i64) (iota k)) ⟨g6, 0, none⟩ 1 1 [.int .i64 ((k : Nat) : Int)] rfl (by kernel_rfl) (by kernel_rfl) rfl (by decide) (by decide) rfl (fun j u hj => by rw [add_none]; exact cellOf (H.blk 0 rfl) (by simpa using hj)) (List.all_eq_true.1 (by kernel_rfl)) (by unfold maxLen; omega) (by omega) (by kernel_rfl) rfl (by kernel_rfl) ?_
    clear H
    intro v15 g7 c7 hc7 H
    rw [show (List.map (Value.int .i64) (iota k)) ++ [.int .i64 ((k : Nat) : Int)] = (List.map (Value.int .i64) (iota (k + 1))) from (by rw [iota_succ, List.map_append]; rfl)] at H
    replace H : Hs [] w0 v15 [.blk g6 #[.int .i64 ((k : Nat) : Int)] 3, .row (.slice (some ⟨g7, 0, none⟩) (k + 1) c7) 3 1 (k + 1) (List.map (Value.int .i64) (iota (k + 1))), .blk g3 #[.int .i64 r, .int .i64 s, .int .i64 b, .int .i64 o, .int .i64 c, .int .i64 y, .int .i64 z, vl, .slice (some ⟨g2, 0, none⟩) pg pg, .slice none 0 0, .int .i64 0, .int .i64 0] 181, .row (.slice (some ⟨g2, 0, none⟩) pg pg) 4 1 pg (List.map Value.bool (List.replicate pg false)), .blk g1 #[.int .i64 r, .int .i64 s, .int .i64 b, .int .i64 o, .int .i64 c, .int .i64 y, .int .i64 z] 69] := H
    replace H := H.pick [1, 2, 3, 4] [.row (.slice (some ⟨g7, 0, none⟩) (k + 1) c7) 3 1 (k + 1) (List.map (Value.int .i64) (iota (k + 1))), .blk g3 #[.int .i64 r, .int .i64 s, .int .i64 b, .int .i64 o, .int .i64 c, .int .i64 y, .int .i64 z, vl, .slice (some ⟨g2, 0, none⟩) pg pg, .slice none 0 0, .int .i64 0, .int .i64 0] 181, .row (.slice (some ⟨g2, 0, none⟩) pg pg) 4 1 pg (List.map Value.bool (List.replicate pg false)), .blk g1 #[.int .i64 r, .int .i64 s, .int .i64 b, .int .i64 o, .int .i64 c, .int .i64 y, .int .i64 z] 69] (by decide) (by kernel_rfl)
    refine x_val (.pointer (some ⟨g3, 0, none⟩)) (by kernel_rfl) rfl (by kernel_rfl) ?_
    refine x_val (.pointer (some ⟨g3, 7, none⟩)) (by kernel_rfl) rfl (by kernel_rfl) ?_
    refine x_store (t := 106) (v := .slice (some ⟨g7, 0, none⟩) (k + 1) c7) H 1 g3 7 #[.int .i64 r, .int .i64 s, .int .i64 b, .int .i64 o, .int .i64 c, .int .i64 y, .int .i64 z, vl, .slice (some ⟨g2, 0, none⟩) pg pg, .slice none 0 0, .int .i64 0, .int .i64 0] #[.int .i64 r, .int .i64 s, .int .i64 b, .int .i64 o, .int .i64 c, .int .i64 y, .int .i64 z, .slice (some ⟨g7, 0, none⟩) (k + 1) c7, .slice (some ⟨g2, 0, none⟩) pg pg, .slice none 0 0, .int .i64 0, .int .i64 0] 181 [.slice (some ⟨g7, 0, none⟩) (k + 1) c7] [.row (.slice (some ⟨g7, 0, none⟩) (k + 1) c7) 3 1 (k + 1) (List.map (Value.int .i64) (iota (k + 1))), .blk g3 #[.int .i64 r, .int .i64 s, .int .i64 b, .int .i64 o, .int .i64 c, .int .i64 y, .int .i64 z, .slice (some ⟨g7, 0, none⟩) (k + 1) c7, .slice (some ⟨g2, 0, none⟩) pg pg, .slice none 0 0, .int .i64 0, .int .i64 0] 181, .row (.slice (some ⟨g2, 0, none⟩) pg pg) 4 1 pg (List.map Value.bool (List.replicate pg false)), .blk g1 #[.int .i64 r, .int .i64 s, .int .i64 b, .int .i64 o, .int .i64 c, .int .i64 y, .int .i64 z] 69] (by kernel_rfl) rfl (by kernel_rfl) (by kernel_rfl) (by kernel_rfl) (by kernel_rfl) (by kernel_rfl) (by kernel_rfl) (by kernel_rfl) (by kernel_rfl) ?_
    clear H
    intro v16 H
    refine x_nil ?_
    refine x_frame' { tmps := #[.agg #[.int .i64 r, .int .i64 s, .int .i64 b, .int .i64 o, .int .i64 c, .int .i64 y, .int .i64 z], .pointer (some ⟨g1, 0, none⟩), .pointer none, .int .i64 0, .pointer (some ⟨g3, 0, none⟩), .int .i64 ((k : Nat) : Int), .agg #[.int .i64 r, .int .i64 s, .int .i64 b, .int .i64 o, .int .i64 c, .int .i64 y, .int .i64 z], .bool true, .bool false, .agg #[.int .i64 r, .int .i64 s, .int .i64 b, .int .i64 o, .int .i64 c, .int .i64 y, .int .i64 z], .pointer (some ⟨g1, 0, none⟩), .agg #[.int .i64 r, .int .i64 s, .int .i64 b, .int .i64 o, .int .i64 c], .int .i64 ((pg : Nat) : Int), .slice (some ⟨g2, 0, none⟩) pg pg, .agg #[.int .i64 r, .int .i64 s, .int .i64 b, .int .i64 o, .int .i64 c, .int .i64 y, .int .i64 z, .slice none 0 0, .slice (some ⟨g2, 0, none⟩) pg pg, .slice none 0 0, .int .i64 0, .int .i64 0], .pointer (some ⟨g3, 0, none⟩), .agg #[.int .i64 r, .int .i64 s, .int .i64 b, .int .i64 o, .int .i64 c, .int .i64 y, .int .i64 z], .int .i64 ((sn : Nat) : Int), .int .i64 ((k : Nat) : Int), .bool true, .int .i64 ((k : Nat) : Int), .pointer (some ⟨g3, 0, none⟩), .pointer (some ⟨g3, 0, none⟩), .pointer (some ⟨g3, 0, none⟩), .pointer (some ⟨g3, 7, none⟩), vl, .int .i64 ((k : Nat) : Int), .slice (some ⟨g6, 0, none⟩) 1 1, .slice (some ⟨g7, 0, none⟩) (k + 1) c7, .pointer (some ⟨g3, 0, none⟩), .pointer (some ⟨g3, 7, none⟩), u31, undef, undef, undef, undef, undef, undef, undef, undef, undef, undef, undef, undef, undef, undef, undef, undef], defers := [] } (by kernel_rfl) ?_
    refine x_blk ?_
    refine x_then ?_
    refine x_region ?_
    refine x_ar (((k : Nat) : Int) + 1) ⟨by omega, by omega⟩ (by kernel_rfl) rfl (by kernel_rfl) ?_
    refine x_val (.int .i64 (((k : Nat) : Int) + 1)) (by kernel_rfl) rfl (by kernel_rfl) ?_
    refine x_nil ?_
    refine x_then ?_
    exact ⟨(k + 1, .slice (some ⟨g7, 0, none⟩) (k + 1) c7), (by dsimp only; omega), (.int .i64 ((k : Nat) : Int)), (.bool true), (.int .i64 ((k : Nat) : Int)), (.pointer (some ⟨g3, 0, none⟩)), (.pointer (some ⟨g3, 0, none⟩)), (.pointer (some ⟨g3, 0, none⟩)), (.pointer (some ⟨g3, 7, none⟩)), vl, (.int .i64 ((k : Nat) : Int)), (.slice (some ⟨g6, 0, none⟩) 1 1), (.slice (some ⟨g7, 0, none⟩) (k + 1) c7), (.pointer (some ⟨g3, 0, none⟩)), (.pointer (some ⟨g3, 7, none⟩)), (.int .i64 (((k : Nat) : Int) + 1)), (by kernel_rfl), H, (by omega)⟩

set_option maxRecDepth 100000 in
set_option maxHeartbeats 1000000 in
theorem New_no (r s b o c y z : Int) (hb : r ≤ 9223372036854775807 ∧ b ≤ 9223372036854775807 ∧ o ≤ 9223372036854775807 ∧ c ≤ 9223372036854775807) (hok : layoutOk r s b o c y z = false) (w0 : World) :
    Calls Try.prog 34 #[.agg #[.int .i64 r, .int .i64 s, .int .i64 b, .int .i64 o, .int .i64 c, .int .i64 y, .int .i64 z]] w0 fun e w' => e = .returned (.tuple #[.pointer none, .int .i64 22]) ∧ Below w0.heap.size w0 w' := by
  refine x_enter Try.func34 rfl #[.agg #[.int .i64 r, .int .i64 s, .int .i64 b, .int .i64 o, .int .i64 c, .int .i64 y, .int .i64 z], undef, undef, undef, undef, undef, undef, undef, undef, undef, undef, undef, undef, undef, undef, undef, undef, undef, undef, undef, undef, undef, undef, undef, undef, undef, undef, undef, undef, undef, undef, undef, undef, undef, undef, undef, undef, undef, undef, undef, undef, undef, undef, undef, undef, undef, undef, undef] (by kernel_rfl) ?_
  have H := Hs.nil w0
  obtain ⟨hb1, hb2, hb3, hb4⟩ := hb
  refine x_seq ?_
  refine x_region ?_
  refine x_box H #[.int .i64 r, .int .i64 s, .int .i64 b, .int .i64 o, .int .i64 c, .int .i64 y, .int .i64 z] 69 (by kernel_rfl) rfl (by kernel_rfl) ?_
  clear H
  intro v1 g1 H
  refine x_val (.pointer none) (by kernel_rfl) rfl (by kernel_rfl) ?_
  refine x_val (.int .i64 0) (by kernel_rfl) rfl (by kernel_rfl) ?_
  refine x_nil ?_
  refine x_then ?_
  refine x_seq ?_
  refine x_seq ?_
  refine x_region ?_
  refine x_loadn (t := 69) H 0 g1 0 #[.int .i64 r, .int .i64 s, .int .i64 b, .int .i64 o, .int .i64 c, .int .i64 y, .int .i64 z] 69 [.int .i64 r, .int .i64 s, .int .i64 b, .int .i64 o, .int .i64 c, .int .i64 y, .int .i64 z] (by kernel_rfl) (by kernel_rfl) (by kernel_rfl) rfl (by kernel_rfl) (by kernel_rfl) ?_
  refine x_callB (.bool (layoutOk r s b o c y z)) H (by kernel_rfl) rfl (by kernel_rfl) (lRight_any _ _ _ _ _ _ _ (by omega) (by omega) (by omega) (by omega) _) ?_
  clear H
  intro v2 H
  refine x_val (.bool (!(layoutOk r s b o c y z))) (by kernel_rfl) rfl (by kernel_rfl) ?_
  refine x_nil ?_
  refine x_then ?_
  rw [hok]
  refine x_t (by kernel_rfl) ?_
  refine x_seq ?_
  refine x_region ?_
  refine x_val (.pointer none) (by kernel_rfl) rfl (by kernel_rfl) ?_
  refine x_val (.int .i64 22) (by kernel_rfl) rfl (by kernel_rfl) ?_
  refine x_nil ?_
  refine x_then ?_
  refine x_retc ?_
  refine x_then_ret ?_
  refine x_ret (.tuple #[.pointer none, .int .i64 22]) (by kernel_rfl) (by kernel_rfl) ?_
  exact ⟨rfl, H.below⟩

end Go.Proofs.Ytgpalgbdacoagaa
