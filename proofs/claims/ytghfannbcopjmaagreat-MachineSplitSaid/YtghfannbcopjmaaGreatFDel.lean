import Derived.Test.YtghfannbcopjmaaGreatFSt
import Derived.Test.YtghfannbcopjmaaGreatFxV
namespace Go.Proofs.YtghfannbcopjmaaGreat
open Go Go.RowKit
set_option linter.unusedVariables false
set_option linter.unusedSimpArgs false
theorem Sp.ofDel {α : Type} {e : Enc α} {f : FuncId} {l : List α} {i j : Int} {c : List V} {ty : TypeId} (hl : i.toNat < l.length) (hlt : V.lts (fun g => Nat.beq g 0) c = true)
  (hc : ∀ (g cap : Nat) (w0 : World), Hs (fps [.row (.slice (some ⟨g, 0, none⟩) l.length cap) e.ty e.sz l.length (e.cs l)]) w0 w0 [.row (.slice (some ⟨g, 0, none⟩) l.length cap) e.ty e.sz l.length (e.cs l)] → Calls P f #[.slice (some ⟨g, 0, none⟩) l.length cap, .int .i64 i, .int .i64 j] w0 fun r w' => r = .returned (.slice (some ⟨g, 0, none⟩) (l.eraseIdx i.toNat).length cap) ∧ Hs (fps [.row (.slice (some ⟨g, 0, none⟩) l.length cap) e.ty e.sz l.length (e.cs l)]) w0 w' [.row (.slice (some ⟨g, 0, none⟩) (l.eraseIdx i.toNat).length cap) e.ty e.sz (l.eraseIdx i.toNat).length (e.cs (l.eraseIdx i.toNat))]) :
  Sp P f [.sl 0, vi i, vi j] [.row e l, .blk c ty] (.sl 2) [.gone, .blk c ty, .row e (l.eraseIdx i.toNat)] := by
 have hm : ∀ {n : Nat → Bool}, n 0 = true → V.lts n c = true := fun {n} h0 => V.lts_mono (fun i hi => by rw [Nat.eq_of_beq_eq_true hi]; exact h0) c hlt
 refine ⟨⟨?_, rfl⟩, Nat.le_succ _, ⟨rfl, rfl⟩, ⟨rfl, rfl⟩, fun i b hb hr => ?_, fun ρ M w hE => ?_⟩
 ·show (true && (V.lts (liv [.row e l, .blk c ty]) c && true)) = true
  rw [hm (n := liv [.row e l, .blk c ty]) rfl]; rfl
 ·match i, hb with
  | 0, hb => cases hb; cases hr
  | 1, hb => cases hb; cases hr
  | 2, hb => cases hb; cases hr
  | i + 3, hb => cases hb
 obtain ⟨hn, hcap, hnil, _⟩ := hE.row (g := 0) rfl rfl
 obtain ⟨ho, hn', hz⟩ := hE.sd 0 _ rfl
 obtain ⟨ho1, hw1⟩ := hE.sd 1 _ rfl
 cases ha : (ρ 0).a with
 | none => rw [hnil ha] at hl; exact absurd hl (Nat.not_lt_zero _)
 | some a =>
  have e1 : (ρ 0).slv = .slice (some ⟨a, 0, none⟩) l.length (ρ 0).cap := by unfold Loc.slv; rw [ha, ho, hn]
  have e1w : (ρ 0).slw = .slice (some ⟨a, 0, none⟩) l.length (ρ 0).cap := by unfold Loc.slw; rw [ha, ho, hn]
  have H0 : Hs M w w ([.row (.slice (some ⟨a, 0, none⟩) l.length (ρ 0).cap) e.ty e.sz l.length (e.cs l)] ++ [.blk (ρ 1).g (V.flat ρ c).toArray ty]) := by
   have h := hE.hs
   rw [show rsF ρ [B.row e l, .blk c ty] 0 = [.row (ρ 0).slw e.ty e.sz l.length (e.cs l), .blk (ρ 1).g (V.flat ρ c).toArray ty] from rfl, e1w] at h
   exact h
  have e2 : V.dens ρ [.sl 0, vi i, vi j] = [(ρ 0).slv, .int .i64 i, .int .i64 j] := by simp only [V.dens, V.den]
  rw [e2, e1]
  refine (Hs.use H0 (hc a _ w)).mono fun r w' ⟨hr, H1⟩ => ?_
  let ρ' : Env := fun q => if q = 2 then ⟨some a, 0, (l.eraseIdx i.toNat).length, (ρ 0).cap, (ρ 0).r, (ρ 0).l, none, 0⟩ else ρ q
  have ef : V.flat ρ' c = V.flat ρ c := V.flat_ext (n := fun g => Nat.beq g 0) (fun i hi => by rw [Nat.eq_of_beq_eq_true hi]; rfl) c hlt
  have H2 := (H1.pad 1).swp (i := 0) (j := 2) rfl rfl (by decide)
  refine ⟨ρ', by rw [hr]; rfl, ⟨?_, fun q b hb => ?_, fun q b hb => ?_, fun q hq hf => ?_, fun q hq => ?_, fun q b hq hf hb => ?_⟩⟩
  ·rw [show rsF ρ' [B.gone, .blk c ty, .row e (l.eraseIdx i.toNat)] 0 = [resN, .blk (ρ 1).g (V.flat ρ' c).toArray ty, .row (.slice (some ⟨a, 0, none⟩) (l.eraseIdx i.toNat).length (ρ 0).cap) e.ty e.sz (l.eraseIdx i.toNat).length (e.cs (l.eraseIdx i.toNat))] from rfl, ef]
   exact H2
  ·match q, hb with
   | 0, hb => cases hb; exact trivial
   | 1, hb => cases hb; exact ⟨ho1, hw1⟩
   | 2, hb => cases hb; exact ⟨rfl, rfl, fun h => by cases h⟩
   | q + 3, hb => cases hb
  ·match q, hb with
   | 0, hb => cases hb; rfl
   | 1, hb => cases hb; exact hm rfl
   | 2, hb => cases hb; rfl
   | q + 3, hb => cases hb
  ·match q, hq with
   | 0, _ => rfl
   | 1, _ => exact hE.ag 1 (by show 1 < 2; decide) rfl
   | q + 2, hq => exact absurd hq (by show ¬ q + 2 < 2; omega)
  ·match q, hq with
   | 0, _ => rfl
   | 1, _ => rfl
   | q + 2, hq => exact absurd hq (by show ¬ q + 2 < 2; omega)
  ·match q, hq with
   | 0, _ => cases hf
   | 1, _ => cases hb; rfl
   | q + 2, hq => exact absurd hq (by show ¬ q + 2 < 2; omega)
set_option maxRecDepth 100000 in
set_option maxHeartbeats 2000000 in
theorem Del_Pg {g cap : Nat} (xs : List Pg) (q : Nat) (hq : q < xs.length) (hn : xs.length ≤ 4096) (i j : Int) (hi : i = ((q : Nat) : Int)) (hj : j = ((q : Nat) : Int) + 1) (w0 : World) (H0 : Hs (fps [.row (.slice (some ⟨g, 0, none⟩) (List.length xs) cap) 307 3 (List.length xs) (List.flatMap ePg.c xs)]) w0 w0 [.row (.slice (some ⟨g, 0, none⟩) (List.length xs) cap) 307 3 (List.length xs) (List.flatMap ePg.c xs)]) :
  Calls Tryz.prog 308 #[.slice (some ⟨g, 0, none⟩) (List.length xs) cap, .int .i64 i, .int .i64 j] w0 fun e w' => e = .returned (.slice (some ⟨g, 0, none⟩) (List.length (xs.eraseIdx q)) cap) ∧ Hs (fps [.row (.slice (some ⟨g, 0, none⟩) (List.length xs) cap) 307 3 (List.length xs) (List.flatMap ePg.c xs)]) w0 w' [.row (.slice (some ⟨g, 0, none⟩) (List.length (xs.eraseIdx q)) cap) 307 3 (List.length (xs.eraseIdx q)) (List.flatMap ePg.c (xs.eraseIdx q))] := by
 obtain rfl : j = ((q + 1 : Nat) : Int) := by omega
 subst hi
 refine x_enter Tryz.func308 rfl #[.slice (some ⟨g, 0, none⟩) (List.length xs) cap, .int .i64 ((q : Nat) : Int), .int .i64 (((q + 1) : Nat) : Int), undef, undef, undef, undef, undef, undef, undef, undef, undef, undef, undef, undef, undef, undef, undef, undef, undef, undef, undef, undef, undef, undef, undef, undef, undef, undef, undef, undef, undef, undef] (by kernel_rfl) ?_
 have H := H0
 have hncap : xs.length ≤ cap := by rcases H0.rowForm 0 rfl with ⟨h, _⟩ | ⟨g', c', h, h2, _⟩ <;> simp at h <;> omega
 have hqq : decide (((q : Nat) : Int) = (((q + 1) : Nat) : Int)) = false := by simp; omega
 refine x_seq ?_
 refine x_region ?_
 refine x_val (.slice none 0 0) (by kernel_rfl) rfl (by kernel_rfl) ?_
 refine x_nil ?_
 refine x_then ?_
 refine x_seq ?_
 refine x_region ?_
 refine x_val (.slice (some ⟨g, 0, none⟩) (List.length xs) cap) (by kernel_rfl) rfl (by kernel_rfl) ?_
 refine x_val (.int .i64 ((q : Nat) : Int)) (by kernel_rfl) rfl (by kernel_rfl) ?_
 refine x_val (.int .i64 (((q + 1) : Nat) : Int)) (by kernel_rfl) rfl (by kernel_rfl) ?_
 refine x_val (.slice (some ⟨g, 0, none⟩) (List.length xs) cap) (by kernel_rfl) rfl (by kernel_rfl) ?_
 refine x_val (.int .i64 (((List.length xs) : Nat) : Int)) (by kernel_rfl) rfl (by kernel_rfl) ?_
 refine x_val ((sliced (some ⟨g, 0, none⟩) q (q + 1) (List.length xs) 3)) (by kernel_rfl) rfl (Eq.trans (by kernel_rfl) (slcLHM (P := Tryz.prog) (t := 302) (b := some ⟨g, 0, none⟩) (n := (List.length xs)) (c := cap) (l := q) (h := (q + 1)) (m := (List.length xs)) (sz := 3) (by kernel_rfl) (by kernel_rfl) (by omega) (by omega) (by omega))) ?_
 refine x_nil ?_
 refine x_then ?_
 refine x_seq ?_
 refine x_seq ?_
 refine x_region ?_
 refine x_val (.int .i64 ((q : Nat) : Int)) (by kernel_rfl) rfl (by kernel_rfl) ?_
 refine x_val (.int .i64 (((q + 1) : Nat) : Int)) (by kernel_rfl) rfl (by kernel_rfl) ?_
 refine x_val (.bool (decide (((q : Nat) : Int) = (((q + 1) : Nat) : Int)))) (by kernel_rfl) rfl (by kernel_rfl) ?_
 refine x_nil ?_
 refine x_then ?_
 rw [hqq]
 refine x_f (by kernel_rfl) ?_
 refine x_skipc ?_
 refine x_then ?_
 refine x_seq ?_
 refine x_region ?_
 refine x_val (.slice (some ⟨g, 0, none⟩) (List.length xs) cap) (by kernel_rfl) rfl (by kernel_rfl) ?_
 refine x_val (.int .i64 (((List.length xs) : Nat) : Int)) (by kernel_rfl) rfl (by kernel_rfl) ?_
 refine x_val (.int .i64 (((List.length xs) : Nat) : Int)) (by kernel_rfl) rfl (by kernel_rfl) ?_
 refine x_nil ?_
 refine x_then ?_
 refine x_seq ?_
 refine x_region_head 6 (fun w' => Hs (fps [.row (.slice (some ⟨g, 0, none⟩) (List.length xs) cap) 307 3 (List.length xs) (List.flatMap ePg.c xs)]) w0 w' [.row (.slice (some ⟨g, 0, none⟩) (List.length xs) cap) 307 3 (List.length xs) (List.flatMap ePg.c xs)]) (by kernel_rfl) (by kernel_rfl) (by kernel_rfl) H.drew ?_
 simp only [List.take_succ_cons, List.take_zero, List.drop_succ_cons, List.drop_zero]
 refine q_val (.slice (some ⟨g, 0, none⟩) (List.length xs) cap) (by kernel_rfl) (fun _ => by kernel_rfl) ?_
 refine q_val (.int .i64 ((q : Nat) : Int)) (by kernel_rfl) (fun _ => by kernel_rfl) ?_
 refine q_val (.slice (some ⟨g, 0, none⟩) q cap) (by kernel_rfl) (fun _ => (Eq.trans (by kernel_rfl) (slcH (P := Tryz.prog) (t := 302) (g := g) (n := (List.length xs)) (c := cap) (h := q) (sz := 3) (by kernel_rfl) (by kernel_rfl) (by omega)))) ?_
 refine q_val (.slice (some ⟨g, 0, none⟩) (List.length xs) cap) (by kernel_rfl) (fun _ => by kernel_rfl) ?_
 refine q_val (.int .i64 (((q + 1) : Nat) : Int)) (by kernel_rfl) (fun _ => by kernel_rfl) ?_
 refine q_val ((sliced (some ⟨g, 0, none⟩) (q + 1) (List.length xs) cap 3)) (by kernel_rfl) (fun _ => (Eq.trans (by kernel_rfl) (slcL (P := Tryz.prog) (t := 302) (b := some ⟨g, 0, none⟩) (n := (List.length xs)) (c := cap) (l := (q + 1)) (sz := 3) (by kernel_rfl) (by kernel_rfl) (by omega)))) ?_
 refine q_nil ?_
 clear H
 intro v1 H
 refine x_appendIn H 0 302 307 3 g (List.length xs) q (q + 1) cap (List.flatMap ePg.c xs) rfl (by kernel_rfl) (by kernel_rfl) (oneCellFlat ePg.one xs) (by omega) (by omega) (by kernel_rfl) rfl (by kernel_rfl) ?_
 clear H
 intro v2 H
 rw [show (List.take (q * 3) (List.flatMap ePg.c xs) ++ List.drop ((q + 1) * 3) (List.flatMap ePg.c xs)) = (List.flatMap ePg.c (xs.eraseIdx q)) from (flatErase ePg.len xs q)] at H
 replace H : Hs (fps [.row (.slice (some ⟨g, 0, none⟩) (List.length xs) cap) 307 3 (List.length xs) (List.flatMap ePg.c xs)]) w0 v2 [.row (.slice (some ⟨g, 0, none⟩) (q + ((List.length xs) - (q + 1))) cap) 307 3 (q + ((List.length xs) - (q + 1))) (List.flatMap ePg.c (xs.eraseIdx q))] := H
 refine x_val (.slice (some ⟨g, 0, none⟩) (q + ((List.length xs) - (q + 1))) cap) (by kernel_rfl) rfl (by kernel_rfl) ?_
 refine x_nil ?_
 refine x_then ?_
 refine x_seq ?_
 refine x_region ?_
 refine x_val (.slice (some ⟨g, 0, none⟩) (q + ((List.length xs) - (q + 1))) cap) (by kernel_rfl) rfl (by kernel_rfl) ?_
 refine x_val (.slice (some ⟨g, 0, none⟩) (q + ((List.length xs) - (q + 1))) cap) (by kernel_rfl) rfl (by kernel_rfl) ?_
 refine x_val (.int .i64 (((q + ((List.length xs) - (q + 1))) : Nat) : Int)) (by kernel_rfl) rfl (by kernel_rfl) ?_
 refine x_val (.int .i64 (((List.length xs) : Nat) : Int)) (by kernel_rfl) rfl (by kernel_rfl) ?_
 refine x_val (.slice (some ⟨g, (q + ((List.length xs) - (q + 1))) * 3, none⟩) ((List.length xs) - (q + ((List.length xs) - (q + 1)))) (cap - (q + ((List.length xs) - (q + 1))))) (by kernel_rfl) rfl (Eq.trans (by kernel_rfl) (slcLH (P := Tryz.prog) (t := 302) (g := g) (n := (q + ((List.length xs) - (q + 1)))) (c := cap) (l := (q + ((List.length xs) - (q + 1)))) (h := (List.length xs)) (sz := 3) (by kernel_rfl) (by kernel_rfl) (by omega) (by omega) (by omega))) ?_
 refine x_clear H 0 302 307 3 g (q + ((List.length xs) - (q + 1))) cap (cap - (q + ((List.length xs) - (q + 1)))) (.agg #[.int .i64 0, .int .i64 0, .int .i64 0]) (List.flatMap ePg.c (xs.eraseIdx q)) rfl (by kernel_rfl) (fun _ => run_zero (by kernel_rfl)) rfl (by decide) (by kernel_rfl) (by omega) (by kernel_rfl) rfl rfl (by rw [show List.length xs - (q + (List.length xs - (q + 1))) = 1 by omega]; kernel_rfl) ?_
 clear H
 intro v3 H
 refine x_nil ?_
 refine x_then ?_
 refine x_seq ?_
 refine x_region ?_
 refine x_val (.slice (some ⟨g, 0, none⟩) (q + ((List.length xs) - (q + 1))) cap) (by kernel_rfl) rfl (by kernel_rfl) ?_
 refine x_val (.slice (some ⟨g, 0, none⟩) (q + ((List.length xs) - (q + 1))) cap) (by kernel_rfl) rfl (by kernel_rfl) ?_
 refine x_nil ?_
 refine x_then ?_
 refine x_retc ?_
 refine x_ret (.slice (some ⟨g, 0, none⟩) (q + ((List.length xs) - (q + 1))) cap) (by kernel_rfl) (by kernel_rfl) ?_
 have hm : q + (List.length xs - (q + 1)) = (xs.eraseIdx q).length := by rw [List.length_eraseIdx, if_pos hq]; omega
 rw [hm] at H ⊢
 exact ⟨rfl, H⟩
theorem del_pg (l : List Pg) (i j : Int) (room : Int) (hl : l.length ≤ 4096) (h0 : 0 ≤ i ∧ i < ((l.length : Nat) : Int)) (hj : j = i + 1) : Sp P 308 [.sl 0, vi i, vi j] [.row ePg l, .blk [.sl 0, vi room, .fn (.func 197) [] []] 305] (.sl 2) [.gone, .blk [.sl 0, vi room, .fn (.func 197) [] []] 305, .row ePg (l.eraseIdx i.toNat)] :=
 Sp.ofDel (by omega) rfl fun g cap w0 H => Del_Pg l i.toNat (by omega) hl i j (by omega) (by omega) w0 H
set_option maxRecDepth 100000 in
set_option maxHeartbeats 2000000 in
theorem Del_Rec {g cap : Nat} (xs : List Rec) (q : Nat) (hq : q < xs.length) (hn : xs.length ≤ 4096) (i j : Int) (hi : i = ((q : Nat) : Int)) (hj : j = ((q : Nat) : Int) + 1) (w0 : World) (H0 : Hs (fps [.row (.slice (some ⟨g, 0, none⟩) (List.length xs) cap) 121 5 (List.length xs) (List.flatMap eRec.c xs)]) w0 w0 [.row (.slice (some ⟨g, 0, none⟩) (List.length xs) cap) 121 5 (List.length xs) (List.flatMap eRec.c xs)]) :
  Calls Tryz.prog 286 #[.slice (some ⟨g, 0, none⟩) (List.length xs) cap, .int .i64 i, .int .i64 j] w0 fun e w' => e = .returned (.slice (some ⟨g, 0, none⟩) (List.length (xs.eraseIdx q)) cap) ∧ Hs (fps [.row (.slice (some ⟨g, 0, none⟩) (List.length xs) cap) 121 5 (List.length xs) (List.flatMap eRec.c xs)]) w0 w' [.row (.slice (some ⟨g, 0, none⟩) (List.length (xs.eraseIdx q)) cap) 121 5 (List.length (xs.eraseIdx q)) (List.flatMap eRec.c (xs.eraseIdx q))] := by
 obtain rfl : j = ((q + 1 : Nat) : Int) := by omega
 subst hi
 refine x_enter Tryz.func286 rfl #[.slice (some ⟨g, 0, none⟩) (List.length xs) cap, .int .i64 ((q : Nat) : Int), .int .i64 (((q + 1) : Nat) : Int), undef, undef, undef, undef, undef, undef, undef, undef, undef, undef, undef, undef, undef, undef, undef, undef, undef, undef, undef, undef, undef, undef, undef, undef, undef, undef, undef, undef, undef, undef] (by kernel_rfl) ?_
 have H := H0
 have hncap : xs.length ≤ cap := by rcases H0.rowForm 0 rfl with ⟨h, _⟩ | ⟨g', c', h, h2, _⟩ <;> simp at h <;> omega
 have hqq : decide (((q : Nat) : Int) = (((q + 1) : Nat) : Int)) = false := by simp; omega
 refine x_seq ?_
 refine x_region ?_
 refine x_val (.slice none 0 0) (by kernel_rfl) rfl (by kernel_rfl) ?_
 refine x_nil ?_
 refine x_then ?_
 refine x_seq ?_
 refine x_region ?_
 refine x_val (.slice (some ⟨g, 0, none⟩) (List.length xs) cap) (by kernel_rfl) rfl (by kernel_rfl) ?_
 refine x_val (.int .i64 ((q : Nat) : Int)) (by kernel_rfl) rfl (by kernel_rfl) ?_
 refine x_val (.int .i64 (((q + 1) : Nat) : Int)) (by kernel_rfl) rfl (by kernel_rfl) ?_
 refine x_val (.slice (some ⟨g, 0, none⟩) (List.length xs) cap) (by kernel_rfl) rfl (by kernel_rfl) ?_
 refine x_val (.int .i64 (((List.length xs) : Nat) : Int)) (by kernel_rfl) rfl (by kernel_rfl) ?_
 refine x_val ((sliced (some ⟨g, 0, none⟩) q (q + 1) (List.length xs) 5)) (by kernel_rfl) rfl (Eq.trans (by kernel_rfl) (slcLHM (P := Tryz.prog) (t := 53) (b := some ⟨g, 0, none⟩) (n := (List.length xs)) (c := cap) (l := q) (h := (q + 1)) (m := (List.length xs)) (sz := 5) (by kernel_rfl) (by kernel_rfl) (by omega) (by omega) (by omega))) ?_
 refine x_nil ?_
 refine x_then ?_
 refine x_seq ?_
 refine x_seq ?_
 refine x_region ?_
 refine x_val (.int .i64 ((q : Nat) : Int)) (by kernel_rfl) rfl (by kernel_rfl) ?_
 refine x_val (.int .i64 (((q + 1) : Nat) : Int)) (by kernel_rfl) rfl (by kernel_rfl) ?_
 refine x_val (.bool (decide (((q : Nat) : Int) = (((q + 1) : Nat) : Int)))) (by kernel_rfl) rfl (by kernel_rfl) ?_
 refine x_nil ?_
 refine x_then ?_
 rw [hqq]
 refine x_f (by kernel_rfl) ?_
 refine x_skipc ?_
 refine x_then ?_
 refine x_seq ?_
 refine x_region ?_
 refine x_val (.slice (some ⟨g, 0, none⟩) (List.length xs) cap) (by kernel_rfl) rfl (by kernel_rfl) ?_
 refine x_val (.int .i64 (((List.length xs) : Nat) : Int)) (by kernel_rfl) rfl (by kernel_rfl) ?_
 refine x_val (.int .i64 (((List.length xs) : Nat) : Int)) (by kernel_rfl) rfl (by kernel_rfl) ?_
 refine x_nil ?_
 refine x_then ?_
 refine x_seq ?_
 refine x_region_head 6 (fun w' => Hs (fps [.row (.slice (some ⟨g, 0, none⟩) (List.length xs) cap) 121 5 (List.length xs) (List.flatMap eRec.c xs)]) w0 w' [.row (.slice (some ⟨g, 0, none⟩) (List.length xs) cap) 121 5 (List.length xs) (List.flatMap eRec.c xs)]) (by kernel_rfl) (by kernel_rfl) (by kernel_rfl) H.drew ?_
 simp only [List.take_succ_cons, List.take_zero, List.drop_succ_cons, List.drop_zero]
 refine q_val (.slice (some ⟨g, 0, none⟩) (List.length xs) cap) (by kernel_rfl) (fun _ => by kernel_rfl) ?_
 refine q_val (.int .i64 ((q : Nat) : Int)) (by kernel_rfl) (fun _ => by kernel_rfl) ?_
 refine q_val (.slice (some ⟨g, 0, none⟩) q cap) (by kernel_rfl) (fun _ => (Eq.trans (by kernel_rfl) (slcH (P := Tryz.prog) (t := 53) (g := g) (n := (List.length xs)) (c := cap) (h := q) (sz := 5) (by kernel_rfl) (by kernel_rfl) (by omega)))) ?_
 refine q_val (.slice (some ⟨g, 0, none⟩) (List.length xs) cap) (by kernel_rfl) (fun _ => by kernel_rfl) ?_
 refine q_val (.int .i64 (((q + 1) : Nat) : Int)) (by kernel_rfl) (fun _ => by kernel_rfl) ?_
 refine q_val ((sliced (some ⟨g, 0, none⟩) (q + 1) (List.length xs) cap 5)) (by kernel_rfl) (fun _ => (Eq.trans (by kernel_rfl) (slcL (P := Tryz.prog) (t := 53) (b := some ⟨g, 0, none⟩) (n := (List.length xs)) (c := cap) (l := (q + 1)) (sz := 5) (by kernel_rfl) (by kernel_rfl) (by omega)))) ?_
 refine q_nil ?_
 clear H
 intro v1 H
 refine x_appendIn H 0 53 121 5 g (List.length xs) q (q + 1) cap (List.flatMap eRec.c xs) rfl (by kernel_rfl) (by kernel_rfl) (oneCellFlat eRec.one xs) (by omega) (by omega) (by kernel_rfl) rfl (by kernel_rfl) ?_
 clear H
 intro v2 H
 rw [show (List.take (q * 5) (List.flatMap eRec.c xs) ++ List.drop ((q + 1) * 5) (List.flatMap eRec.c xs)) = (List.flatMap eRec.c (xs.eraseIdx q)) from (flatErase eRec.len xs q)] at H
 replace H : Hs (fps [.row (.slice (some ⟨g, 0, none⟩) (List.length xs) cap) 121 5 (List.length xs) (List.flatMap eRec.c xs)]) w0 v2 [.row (.slice (some ⟨g, 0, none⟩) (q + ((List.length xs) - (q + 1))) cap) 121 5 (q + ((List.length xs) - (q + 1))) (List.flatMap eRec.c (xs.eraseIdx q))] := H
 refine x_val (.slice (some ⟨g, 0, none⟩) (q + ((List.length xs) - (q + 1))) cap) (by kernel_rfl) rfl (by kernel_rfl) ?_
 refine x_nil ?_
 refine x_then ?_
 refine x_seq ?_
 refine x_region ?_
 refine x_val (.slice (some ⟨g, 0, none⟩) (q + ((List.length xs) - (q + 1))) cap) (by kernel_rfl) rfl (by kernel_rfl) ?_
 refine x_val (.slice (some ⟨g, 0, none⟩) (q + ((List.length xs) - (q + 1))) cap) (by kernel_rfl) rfl (by kernel_rfl) ?_
 refine x_val (.int .i64 (((q + ((List.length xs) - (q + 1))) : Nat) : Int)) (by kernel_rfl) rfl (by kernel_rfl) ?_
 refine x_val (.int .i64 (((List.length xs) : Nat) : Int)) (by kernel_rfl) rfl (by kernel_rfl) ?_
 refine x_val (.slice (some ⟨g, (q + ((List.length xs) - (q + 1))) * 5, none⟩) ((List.length xs) - (q + ((List.length xs) - (q + 1)))) (cap - (q + ((List.length xs) - (q + 1))))) (by kernel_rfl) rfl (Eq.trans (by kernel_rfl) (slcLH (P := Tryz.prog) (t := 53) (g := g) (n := (q + ((List.length xs) - (q + 1)))) (c := cap) (l := (q + ((List.length xs) - (q + 1)))) (h := (List.length xs)) (sz := 5) (by kernel_rfl) (by kernel_rfl) (by omega) (by omega) (by omega))) ?_
 refine x_clear H 0 53 121 5 g (q + ((List.length xs) - (q + 1))) cap (cap - (q + ((List.length xs) - (q + 1)))) (.agg #[.int .i64 0, .int .i64 0, .int .i64 0, .int .i64 0, .int .i64 0]) (List.flatMap eRec.c (xs.eraseIdx q)) rfl (by kernel_rfl) (fun _ => run_zero (by kernel_rfl)) rfl (by decide) (by kernel_rfl) (by omega) (by kernel_rfl) rfl rfl (by rw [show List.length xs - (q + (List.length xs - (q + 1))) = 1 by omega]; kernel_rfl) ?_
 clear H
 intro v3 H
 refine x_nil ?_
 refine x_then ?_
 refine x_seq ?_
 refine x_region ?_
 refine x_val (.slice (some ⟨g, 0, none⟩) (q + ((List.length xs) - (q + 1))) cap) (by kernel_rfl) rfl (by kernel_rfl) ?_
 refine x_val (.slice (some ⟨g, 0, none⟩) (q + ((List.length xs) - (q + 1))) cap) (by kernel_rfl) rfl (by kernel_rfl) ?_
 refine x_nil ?_
 refine x_then ?_
 refine x_retc ?_
 refine x_ret (.slice (some ⟨g, 0, none⟩) (q + ((List.length xs) - (q + 1))) cap) (by kernel_rfl) (by kernel_rfl) ?_
 have hm : q + (List.length xs - (q + 1)) = (xs.eraseIdx q).length := by rw [List.length_eraseIdx, if_pos hq]; omega
 rw [hm] at H ⊢
 exact ⟨rfl, H⟩
theorem del_rec (l : List Rec) (i j : Int) (room next : Int) (lost : Bool) (hl : l.length ≤ 4096) (h0 : 0 ≤ i ∧ i < ((l.length : Nat) : Int)) (hj : j = i + 1) : Sp P 286 [.sl 0, vi i, vi j] [.row eRec l, .blk [.sl 0, vi room, vi next, vt lost] 162] (.sl 2) [.gone, .blk [.sl 0, vi room, vi next, vt lost] 162, .row eRec (l.eraseIdx i.toNat)] :=
 Sp.ofDel (by omega) rfl fun g cap w0 H => Del_Rec l i.toNat (by omega) hl i j (by omega) (by omega) w0 H
end Go.Proofs.YtghfannbcopjmaaGreat
