/- Contracts of a repair: what it tells, finish, Step. -/
import Derived.Test.YtpmnnijjohlloaaGreatRprC
import Derived.Test.YtpmnnijjohlloaaGreatRprD
import Derived.Test.YtpmnnijjohlloaaGreatPxZ
namespace Go.Proofs.YtpmnnijjohlloaaGreat
open Go Go.RowKit
set_option linter.unusedVariables false
set_option linter.unusedSimpArgs false
def Rp.setQ (x : Rp) (Q : List Ent) : Rp := ⟨x.L, x.D, x.S, x.pu, x.ru, x.j, Q⟩
section
variable {r s b o c y z : Int} {sn pg ns : Nat}
theorem Rp.start_setQ (y : Rp) (Q : List Ent) (a : Ent) : (Rp.setQ y Q).start r s z sn a = (Rp.setQ (y.start r s z sn a) Q) := by
  unfold Rp.start Rp.setQ; split <;> split <;> rfl
theorem Rp.drain_setQ : ∀ (q : List Ent) (y : Rp) (Q : List Ent), Rp.drain r s z sn ns (Rp.setQ y Q) q = Rp.drain r s z sn ns y q
  | [], y, Q => by rw [Rp.drain, Rp.drain]; rfl
  | a :: q, y, Q => by
    rw [Rp.drain, Rp.drain]
    by_cases hj : y.j.1 = 0
    · by_cases hv : y.void sn ns a = true
      · rw [if_pos (show (Rp.setQ y Q).j.1 = 0 from hj), if_pos (show (Rp.setQ y Q).void sn ns a = true from hv), if_pos hj, if_pos hv]
        exact Rp.drain_setQ q y Q
      · rw [if_pos (show (Rp.setQ y Q).j.1 = 0 from hj), if_neg (show ¬ (Rp.setQ y Q).void sn ns a = true from hv), if_pos hj, if_neg hv, Rp.start_setQ, Rp.drain_setQ q]
        rfl
    · rw [if_neg (show ¬ (Rp.setQ y Q).j.1 = 0 from hj), if_neg hj]; rfl
theorem Rp.drain_busy (y : Rp) (h : ¬ y.j.1 = 0) (Q : List Ent) : Rp.drain r s z sn ns y Q = ((Rp.setQ y Q), []) := by
  cases Q with
  | nil => rw [Rp.drain]; rfl
  | cons a q => rw [Rp.drain, if_neg h]; rfl
theorem Rp.drain_void (y : Rp) (h : y.j.1 = 0) (a : Ent) (q : List Ent) (hv : y.void sn ns a = true) : Rp.drain r s z sn ns y (a :: q) = Rp.drain r s z sn ns (Rp.setQ y q) q := by
  rw [Rp.drain, if_pos h, if_pos hv]; exact (Rp.drain_setQ q y q).symm
theorem Rp.drain_start (y : Rp) (h : y.j.1 = 0) (a : Ent) (q : List Ent) (hv : y.void sn ns a = false) : Rp.drain r s z sn ns y (a :: q) = ((Rp.drain r s z sn ns (Rp.setQ (y.start r s z sn a) q) q).1, y.startV r s z sn a :: (Rp.drain r s z sn ns (Rp.setQ (y.start r s z sn a) q) q).2) := by
  rw [Rp.drain, if_pos h, if_neg (by rw [hv]; decide), Rp.drain_setQ q (y.start r s z sn a) q]
theorem Rp.done_Q (x : Rp) : (x.done r sn pg ns).Q = x.Q := by unfold Rp.done; split <;> rfl
theorem RpOk.setQ {y : Rp} (h : RpOk r s b o c z sn pg ns y) {Q : List Ent} (hq : ∀ a ∈ Q, a.1 = 1 ∨ a.1 = 2) (hl : Q.length ≤ 256) : RpOk r s b o c z sn pg ns (Rp.setQ y Q) := ⟨h.v, h.liv, h.tops, h.jb, hq, hl⟩
theorem RgOk.popn {ls : List Ent} {ra qn : Nat} {Q : List Ent} (hk : RgOk ls ra qn Q) (h : ¬ qn = 0) : RgOk (ls.set ra (0, 0)) ((ra + 1) % 256) (qn - 1) Q.tail ∧ Q = Q.getD 0 (0, 0) :: Q.tail := by
  obtain ⟨m, rfl⟩ : ∃ m, qn = m + 1 := ⟨qn - 1, by omega⟩
  refine ⟨hk.pop.1, ?_⟩
  have hl := hk.hQ
  cases Q with
  | nil => simp at hl
  | cons a q => rfl
end
set_option maxRecDepth 100000 in
set_option maxHeartbeats 4000000 in
theorem Job_of {p q rp : Nat} {x : Rp} (w0 : World) (hR : Ro w0 [.blk rp #[.pointer (some ⟨p, 0, none⟩), .int .i64 x.j.1, .int .i64 x.j.2.1, .int .i64 x.j.2.2.1, .int .i64 x.j.2.2.2, .pointer (some ⟨q, 0, none⟩)] 74]) :
    Calls Tryz.prog 29 #[.pointer (some ⟨rp, 0, none⟩)] w0 fun e w' => e = .returned (.agg #[.int .i64 x.j.1, .int .i64 x.j.2.1, .int .i64 x.j.2.2.1, .int .i64 x.j.2.2.2]) ∧ Below w0.heap.size w0 w' := by
  refine z_enter Tryz.func29 rfl ?_
  have H := Hs.nil w0
  have R0 := hR
  refine x_seq <| x_region <| z_box H #[.int .i64 0, .int .i64 0, .int .i64 0, .int .i64 0] 47 (fun v1 g1 H => ?_)
  refine x_nil <| x_then <| x_seq <| x_region <| x_b H [.m, .m, .m] <| x_loadcn (t := 47) rp 1 [.int .i64 x.j.1, .int .i64 x.j.2.1, .int .i64 x.j.2.2.1, .int .i64 x.j.2.2.2] ((H.ro R0).cells 0 rfl 1 (by kernel_rfl)) (by kernel_rfl) rfl (by kernel_rfl) (by kernel_rfl) <| z_store H 0 0 [.int .i64 x.j.1, .int .i64 x.j.2.1, .int .i64 x.j.2.2.1, .int .i64 x.j.2.2.2] (fun v2 H => ?_)
  refine x_nil <| x_then <| x_retc <| x_ret (.agg #[.int .i64 x.j.1, .int .i64 x.j.2.1, .int .i64 x.j.2.2.1, .int .i64 x.j.2.2.2]) (by kernel_rfl) (x_rescell H 0 g1 0 #[.int .i64 x.j.1, .int .i64 x.j.2.1, .int .i64 x.j.2.2.1, .int .i64 x.j.2.2.2] 47 [.int .i64 x.j.1, .int .i64 x.j.2.1, .int .i64 x.j.2.2.1, .int .i64 x.j.2.2.2] (fun x => x) (by kernel_rfl) (by kernel_rfl) (by kernel_rfl)) ?_
  exact ⟨rfl, H.below⟩
set_option maxRecDepth 100000 in
set_option maxHeartbeats 4000000 in
theorem Map_of {p q rp : Nat} {x : Rp} (w0 : World) (hR : Ro w0 [.blk rp #[.pointer (some ⟨p, 0, none⟩), .int .i64 x.j.1, .int .i64 x.j.2.1, .int .i64 x.j.2.2.1, .int .i64 x.j.2.2.2, .pointer (some ⟨q, 0, none⟩)] 74]) :
    Calls Tryz.prog 30 #[.pointer (some ⟨rp, 0, none⟩)] w0 fun e w' => e = .returned (.pointer (some ⟨p, 0, none⟩)) ∧ Below w0.heap.size w0 w' := by
  refine z_enter Tryz.func30 rfl ?_
  have H := Hs.nil w0
  have R0 := hR
  refine x_seq <| x_region <| x_b H [.m] <| x_nil <| x_then <| x_seq <| x_region ?_
  refine x_b H [.m, .m, .m] <| x_loadc rp 0 (.pointer (some ⟨p, 0, none⟩)) ((H.ro R0).cell 0 rfl 0 rfl) (by kernel_rfl) rfl (by kernel_rfl) <| x_b H [.m] <| x_nil <| x_then <| x_retc <| x_ret (.pointer (some ⟨p, 0, none⟩)) (by kernel_rfl) (by kernel_rfl) ?_
  exact ⟨rfl, H.below⟩
set_option maxRecDepth 100000 in
set_option maxHeartbeats 4000000 in
theorem Waiting_of {p q rp : Nat} {x : Rp} (w0 : World) (hR : Ro w0 [.blk rp #[.pointer (some ⟨p, 0, none⟩), .int .i64 x.j.1, .int .i64 x.j.2.1, .int .i64 x.j.2.2.1, .int .i64 x.j.2.2.2, .pointer (some ⟨q, 0, none⟩)] 74]) :
    Calls Tryz.prog 28 #[.pointer (some ⟨rp, 0, none⟩)] w0 fun e w' => ∃ qp, e = .returned (.func (.func 69) #[] #[.pointer (some ⟨qp, 0, none⟩)]) ∧ Hs [] w0 w' [.blk qp #[.pointer (some ⟨q, 0, none⟩)] 72] := by
  refine z_enter Tryz.func28 rfl ?_
  have H := Hs.nil w0
  have R0 := hR
  refine x_seq <| x_region <| x_b H [.m] <| x_nil <| x_then <| x_seq <| x_region ?_
  refine x_b H [.m, .m, .m] <| x_loadc rp 5 (.pointer (some ⟨q, 0, none⟩)) ((H.ro R0).cell 0 rfl 5 rfl) (by kernel_rfl) rfl (by kernel_rfl) <| z_call (RAll q _) ?_
  rintro _ v1 ⟨qp, rfl, hN'⟩
  refine ⟨_, rfl, ?_⟩
  replace H := H.more hN'
  clear hN'
  refine x_b H [.m] <| x_nil <| x_then <| x_retc <| x_ret (.func (.func 69) #[] #[.pointer (some ⟨qp, 0, none⟩)]) (by kernel_rfl) (by kernel_rfl) ?_
  exact ⟨_, rfl, H.pk [0]⟩
set_option maxRecDepth 100000 in
set_option maxHeartbeats 4000000 in
theorem RRoute_of {r s b o c y z : Int} {pg sn ns : Nat} (hL : Lay r s b o c y z pg sn ns) {p gl cl gd cd gs cs q rp : Nat} {x : Rp}  (hx : RpOk r s b o c z sn pg ns x) (n : Int) (hn : 0 ≤ n ∧ n < (sn : Int) * c) (w0 : World) (hR : Ro w0 [.blk rp #[.pointer (some ⟨p, 0, none⟩), .int .i64 x.j.1, .int .i64 x.j.2.1, .int .i64 x.j.2.2.1, .int .i64 x.j.2.2.2, .pointer (some ⟨q, 0, none⟩)] 74, .blk p #[.int .i64 r, .int .i64 s, .int .i64 b, .int .i64 o, .int .i64 c, .int .i64 y, .int .i64 z, .slice (some ⟨gl, 0, none⟩) sn cl, .slice (some ⟨gd, 0, none⟩) pg cd, .slice (some ⟨gs, 0, none⟩) ns cs, .int .i64 ((x.pu : Nat) : Int), .int .i64 ((x.ru : Nat) : Int)] 109, .row (.slice (some ⟨gl, 0, none⟩) sn cl) 3 1 sn (List.map (Value.int .i64) x.L), .row (.slice (some ⟨gd, 0, none⟩) pg cd) 4 1 pg (List.map Value.bool x.D), .row (.slice (some ⟨gs, 0, none⟩) ns cs) 3 1 ns (List.map (Value.int .i64) x.S)]) :
    Calls Tryz.prog 36 #[.pointer (some ⟨rp, 0, none⟩), .int .i64 n] w0 fun e w' => e = .returned (.tuple #[.int .i64 (rtI y r b o c x.S x.j (x.L.getD (n / c).toNat 0) (pgAt y r b o (x.L.getD (n / c).toNat 0) / 16384) (idxP y r b o x.S (x.L.getD (n / c).toNat 0) * 64 + n % c) (n % c)), .int .i64 (x.L.getD (n / c).toNat 0), .int .i64 (pgAt y r b o (x.L.getD (n / c).toNat 0) / 16384), .int .i64 0]) ∧ Below w0.heap.size w0 w' := by
  refine z_enter Tryz.func36 rfl ?_
  have H := Hs.nil w0
  have R0 := hR
  obtain ⟨⟨j1, j2⟩, ⟨j3, j4⟩, ⟨j5, j6⟩, ⟨j7, j8⟩⟩ := hx.job_bd hL
  have hjr := JobOk.right hL hx
  refine x_seq <| x_region <| x_b H [.m, .m, .m, .m] <| x_nil <| x_then <| x_seq <| z_region_whole H ?_
  refine q_b [.m, .m, .m] <| q_loadcn (t := 47) rp 1 [.int .i64 x.j.1, .int .i64 x.j.2.1, .int .i64 x.j.2.2.1, .int .i64 x.j.2.2.2] (fun _ H => (H.ro R0).cells 0 rfl 1 (by kernel_rfl)) (by kernel_rfl) (by kernel_rfl) (by kernel_rfl) <| q_b [.m, .m, .m] <| q_loadc rp 0 (.pointer (some ⟨p, 0, none⟩)) (fun _ H => (H.ro R0).cell 0 rfl 0 rfl) (by kernel_rfl) (fun _ => by kernel_rfl) <| q_b [.m] <| q_callR (.tuple #[.int .i64 (rtI y r b o c x.S x.j (x.L.getD (n / c).toNat 0) (pgAt y r b o (x.L.getD (n / c).toNat 0) / 16384) (idxP y r b o x.S (x.L.getD (n / c).toNat 0) * 64 + n % c) (n % c)), .int .i64 (x.L.getD (n / c).toNat 0), .int .i64 (pgAt y r b o (x.L.getD (n / c).toNat 0) / 16384), .int .i64 0]) (by kernel_rfl) (fun _ => by kernel_rfl) (fun _ H => (Route_in hL hx.v x.j hjr (by omega) n hn _ ((H.ro R0).pick [1, 2, 3, 4] [.blk p #[.int .i64 r, .int .i64 s, .int .i64 b, .int .i64 o, .int .i64 c, .int .i64 y, .int .i64 z, .slice (some ⟨gl, 0, none⟩) sn cl, .slice (some ⟨gd, 0, none⟩) pg cd, .slice (some ⟨gs, 0, none⟩) ns cs, .int .i64 ((x.pu : Nat) : Int), .int .i64 ((x.ru : Nat) : Int)] 109, .row (.slice (some ⟨gl, 0, none⟩) sn cl) 3 1 sn (List.map (Value.int .i64) x.L), .row (.slice (some ⟨gd, 0, none⟩) pg cd) 4 1 pg (List.map Value.bool x.D), .row (.slice (some ⟨gs, 0, none⟩) ns cs) 3 1 ns (List.map (Value.int .i64) x.S)] (by kernel_rfl)))) ?_
  refine q_b [.m, .m, .m, .m, .m, .m, .m, .m] <| q_nil ?_
  clear H
  intro v1 H
  refine x_then <| x_retc <| x_ret (.tuple #[.int .i64 (rtI y r b o c x.S x.j (x.L.getD (n / c).toNat 0) (pgAt y r b o (x.L.getD (n / c).toNat 0) / 16384) (idxP y r b o x.S (x.L.getD (n / c).toNat 0) * 64 + n % c) (n % c)), .int .i64 (x.L.getD (n / c).toNat 0), .int .i64 (pgAt y r b o (x.L.getD (n / c).toNat 0) / 16384), .int .i64 0]) (by kernel_rfl) (by kernel_rfl) ?_
  exact ⟨rfl, H.below⟩
set_option maxRecDepth 100000 in
set_option maxHeartbeats 4000000 in
theorem Next_idle {p q rp : Nat} {x : Rp} (hj : x.j.1 = 0) (w0 : World) (hR : Ro w0 [.blk rp #[.pointer (some ⟨p, 0, none⟩), .int .i64 x.j.1, .int .i64 x.j.2.1, .int .i64 x.j.2.2.1, .int .i64 x.j.2.2.2, .pointer (some ⟨q, 0, none⟩)] 74]) :
    Calls Tryz.prog 24 #[.pointer (some ⟨rp, 0, none⟩)] w0 fun e w' => e = .returned (.tuple #[.int .i64 0, .int .i64 0, .int .i64 51]) ∧ Below w0.heap.size w0 w' := by
  refine z_enter Tryz.func24 rfl ?_
  have H := Hs.nil w0
  have R0 := hR
  have k0 : decide (x.j.1 = 0) = true := decide_eq_true hj
  refine x_seq <| x_region <| x_b H [.m, .m, .m] <| x_nil <| x_then <| x_seq <| x_seq ?_
  refine x_region <| x_b H [.m] <| z_callB (v := .bool (!(decide (x.j.1 = 0)))) H (busy_of _ (H.ro R0)) fun v1 H => x_b H [.v (.bool (!(!(decide (x.j.1 = 0)))))] <| x_nil <| x_then ?_
  rw [k0]
  refine x_t (by kernel_rfl) <| x_seq <| x_region <| x_b H [.m, .m, .m] <| x_nil <| x_then <| x_retc ?_
  refine x_then_ret <| x_ret (.tuple #[.int .i64 0, .int .i64 0, .int .i64 51]) (by kernel_rfl) (by kernel_rfl) ?_
  exact ⟨rfl, H.below⟩
set_option maxRecDepth 100000 in
set_option maxHeartbeats 4000000 in
theorem Next_busy {r s b o c y z : Int} {pg sn ns : Nat} (hL : Lay r s b o c y z pg sn ns) {p gl cl gd cd gs cs q rp : Nat} {x : Rp}  (hx : RpOk r s b o c z sn pg ns x) (hj : ¬ x.j.1 = 0) (w0 : World) (hR : Ro w0 [.blk rp #[.pointer (some ⟨p, 0, none⟩), .int .i64 x.j.1, .int .i64 x.j.2.1, .int .i64 x.j.2.2.1, .int .i64 x.j.2.2.2, .pointer (some ⟨q, 0, none⟩)] 74, .blk p #[.int .i64 r, .int .i64 s, .int .i64 b, .int .i64 o, .int .i64 c, .int .i64 y, .int .i64 z, .slice (some ⟨gl, 0, none⟩) sn cl, .slice (some ⟨gd, 0, none⟩) pg cd, .slice (some ⟨gs, 0, none⟩) ns cs, .int .i64 ((x.pu : Nat) : Int), .int .i64 ((x.ru : Nat) : Int)] 109, .row (.slice (some ⟨gl, 0, none⟩) sn cl) 3 1 sn (List.map (Value.int .i64) x.L), .row (.slice (some ⟨gd, 0, none⟩) pg cd) 4 1 pg (List.map Value.bool x.D), .row (.slice (some ⟨gs, 0, none⟩) ns cs) 3 1 ns (List.map (Value.int .i64) x.S)]) :
    Calls Tryz.prog 24 #[.pointer (some ⟨rp, 0, none⟩)] w0 fun e w' => e = .returned (.tuple #[.int .i64 (atI y r b o c x.S x.j.1 x.j.2.1 x.j.2.2.2), .int .i64 (atI y r b o c x.S x.j.1 x.j.2.2.1 x.j.2.2.2), .int .i64 0]) ∧ Below w0.heap.size w0 w' := by
  refine z_enter Tryz.func24 rfl ?_
  have H := Hs.nil w0
  have R0 := hR
  have k0 : decide (x.j.1 = 0) = false := decide_eq_false hj
  have hnk := JobOk.next_ok hx hj
  obtain ⟨⟨j1, j2⟩, ⟨j3, j4⟩, ⟨j5, j6⟩, ⟨j7, j8⟩⟩ := hx.job_bd hL
  have hjr := JobOk.right hL hx
  refine x_seq <| x_region <| x_b H [.m, .m, .m] <| x_nil <| x_then <| x_seq <| x_seq ?_
  refine x_region <| x_b H [.m] <| z_callB (v := .bool (!(decide (x.j.1 = 0)))) H (busy_of _ ((H.ro R0).pick [0] [.blk rp #[.pointer (some ⟨p, 0, none⟩), .int .i64 x.j.1, .int .i64 x.j.2.1, .int .i64 x.j.2.2.1, .int .i64 x.j.2.2.2, .pointer (some ⟨q, 0, none⟩)] 74] (by kernel_rfl))) fun v1 H => x_b H [.v (.bool (!(!(decide (x.j.1 = 0)))))] <| x_nil <| x_then ?_
  rw [k0]
  refine x_f (by kernel_rfl) <| x_skipc <| x_then <| x_seq <| x_seq <| z_region_whole H <| q_b [.m, .m, .m] ?_
  refine q_loadcn (t := 47) rp 1 [.int .i64 x.j.1, .int .i64 x.j.2.1, .int .i64 x.j.2.2.1, .int .i64 x.j.2.2.2] (fun _ H => (H.ro R0).cells 0 rfl 1 (by kernel_rfl)) (by kernel_rfl) (by kernel_rfl) (by kernel_rfl) <| q_b [.m, .m, .m] <| q_loadc rp 0 (.pointer (some ⟨p, 0, none⟩)) (fun _ H => (H.ro R0).cell 0 rfl 0 rfl) (by kernel_rfl) (fun _ => by kernel_rfl) <| q_b [.m, .m, .m, .m] <| q_loadc rp 4 (.int .i64 x.j.2.2.2) (fun _ H => (H.ro R0).cell 0 rfl 4 rfl) (by kernel_rfl) (fun _ => by kernel_rfl) <| q_callR (.tuple #[.int .i64 (atI y r b o c x.S x.j.1 x.j.2.1 x.j.2.2.2), .int .i64 0]) (by kernel_rfl) (fun _ => by kernel_rfl) (fun _ H => (Source_in hL hx.v x.j hjr (by omega) hnk.2 _ hnk.1 _ ((H.ro R0).pick [1, 2, 3, 4] [.blk p #[.int .i64 r, .int .i64 s, .int .i64 b, .int .i64 o, .int .i64 c, .int .i64 y, .int .i64 z, .slice (some ⟨gl, 0, none⟩) sn cl, .slice (some ⟨gd, 0, none⟩) pg cd, .slice (some ⟨gs, 0, none⟩) ns cs, .int .i64 ((x.pu : Nat) : Int), .int .i64 ((x.ru : Nat) : Int)] 109, .row (.slice (some ⟨gl, 0, none⟩) sn cl) 3 1 sn (List.map (Value.int .i64) x.L), .row (.slice (some ⟨gd, 0, none⟩) pg cd) 4 1 pg (List.map Value.bool x.D), .row (.slice (some ⟨gs, 0, none⟩) ns cs) 3 1 ns (List.map (Value.int .i64) x.S)] (by kernel_rfl)))) ?_
  refine q_b [.m, .m, .m, .m, .m] <| q_nil ?_
  clear H
  intro v2 H
  refine x_then <| x_seq <| x_region <| x_b H [.m, .m] <| x_nil <| x_then <| x_t (by kernel_rfl) ?_
  refine z_region_whole H <| q_b [.m, .m, .m] <| q_loadcn (t := 47) rp 1 [.int .i64 x.j.1, .int .i64 x.j.2.1, .int .i64 x.j.2.2.1, .int .i64 x.j.2.2.2] (fun _ H => (H.ro R0).cells 0 rfl 1 (by kernel_rfl)) (by kernel_rfl) (by kernel_rfl) (by kernel_rfl) <| q_b [.m, .m, .m] <| q_loadc rp 0 (.pointer (some ⟨p, 0, none⟩)) (fun _ H => (H.ro R0).cell 0 rfl 0 rfl) (by kernel_rfl) (fun _ => by kernel_rfl) <| q_b [.m, .m, .m, .m] <| q_loadc rp 4 (.int .i64 x.j.2.2.2) (fun _ H => (H.ro R0).cell 0 rfl 4 rfl) (by kernel_rfl) (fun _ => by kernel_rfl) ?_
  refine q_callR (.tuple #[.int .i64 (atI y r b o c x.S x.j.1 x.j.2.2.1 x.j.2.2.2), .int .i64 0]) (by kernel_rfl) (fun _ => by kernel_rfl) (fun _ H => (Goal_in hL hx.v x.j hjr (by omega) hnk.2 _ hnk.1 _ ((H.ro R0).pick [1, 2, 3, 4] [.blk p #[.int .i64 r, .int .i64 s, .int .i64 b, .int .i64 o, .int .i64 c, .int .i64 y, .int .i64 z, .slice (some ⟨gl, 0, none⟩) sn cl, .slice (some ⟨gd, 0, none⟩) pg cd, .slice (some ⟨gs, 0, none⟩) ns cs, .int .i64 ((x.pu : Nat) : Int), .int .i64 ((x.ru : Nat) : Int)] 109, .row (.slice (some ⟨gl, 0, none⟩) sn cl) 3 1 sn (List.map (Value.int .i64) x.L), .row (.slice (some ⟨gd, 0, none⟩) pg cd) 4 1 pg (List.map Value.bool x.D), .row (.slice (some ⟨gs, 0, none⟩) ns cs) 3 1 ns (List.map (Value.int .i64) x.S)] (by kernel_rfl)))) <| q_b [.m, .m, .m, .m, .m] <| q_nil ?_
  clear H
  intro v3 H
  refine z_fr 47 [(2, .int .i64 (atI y r b o c x.S x.j.1 x.j.2.1 x.j.2.2.2)), (3, .int .i64 (atI y r b o c x.S x.j.1 x.j.2.2.1 x.j.2.2.2)), (4, .int .i64 0)] [] fun uf1 => x_then <| x_seq <| x_region <| x_b H [.m, .m, .m, .m, .m, .m] <| x_nil <| x_then ?_
  refine x_retc <| x_ret (.tuple #[.int .i64 (atI y r b o c x.S x.j.1 x.j.2.1 x.j.2.2.2), .int .i64 (atI y r b o c x.S x.j.1 x.j.2.2.1 x.j.2.2.2), .int .i64 0]) (by kernel_rfl) (by kernel_rfl) ?_
  exact ⟨rfl, H.below⟩
theorem RPop_0 {q gq cq : Nat} {ls : List Ent} {ra qn : Nat} {Q : List Ent} (hk : RgOk ls ra qn Q) (h : qn = 0) (w0 : World) (H0 : Hs (fps [.blk q #[.slice (some ⟨gq, 0, none⟩) 256 cq, .int .i64 ((ra : Nat) : Int), .int .i64 ((qn : Nat) : Int)] 123, .row (.slice (some ⟨gq, 0, none⟩) 256 cq) 52 2 256 (List.flatMap entL ls)]) w0 w0 [.blk q #[.slice (some ⟨gq, 0, none⟩) 256 cq, .int .i64 ((ra : Nat) : Int), .int .i64 ((qn : Nat) : Int)] 123, .row (.slice (some ⟨gq, 0, none⟩) 256 cq) 52 2 256 (List.flatMap entL ls)]) :
    Calls Tryz.prog 85 #[.pointer (some ⟨q, 0, none⟩)] w0 fun e w' => e = .returned (.tuple #[.agg #[.int .i64 0, .int .i64 0], .int .i64 13]) ∧ Hs (fps [.blk q #[.slice (some ⟨gq, 0, none⟩) 256 cq, .int .i64 ((ra : Nat) : Int), .int .i64 ((qn : Nat) : Int)] 123, .row (.slice (some ⟨gq, 0, none⟩) 256 cq) 52 2 256 (List.flatMap entL ls)]) w0 w' [.blk q #[.slice (some ⟨gq, 0, none⟩) 256 cq, .int .i64 ((ra : Nat) : Int), .int .i64 ((qn : Nat) : Int)] 123, .row (.slice (some ⟨gq, 0, none⟩) 256 cq) 52 2 256 (List.flatMap entL ls)] := by
  subst h; exact RPop_no hk w0 H0
theorem RPop_n {q gq cq : Nat} {ls : List Ent} {ra qn : Nat} {Q : List Ent} (hk : RgOk ls ra qn Q) (h : ¬ qn = 0) (w0 : World) (H0 : Hs (fps [.blk q #[.slice (some ⟨gq, 0, none⟩) 256 cq, .int .i64 ((ra : Nat) : Int), .int .i64 ((qn : Nat) : Int)] 123, .row (.slice (some ⟨gq, 0, none⟩) 256 cq) 52 2 256 (List.flatMap entL ls)]) w0 w0 [.blk q #[.slice (some ⟨gq, 0, none⟩) 256 cq, .int .i64 ((ra : Nat) : Int), .int .i64 ((qn : Nat) : Int)] 123, .row (.slice (some ⟨gq, 0, none⟩) 256 cq) 52 2 256 (List.flatMap entL ls)]) :
    Calls Tryz.prog 85 #[.pointer (some ⟨q, 0, none⟩)] w0 fun e w' => e = .returned (.tuple #[.agg #[.int .i64 ((Q.getD 0 (0, 0)).1), .int .i64 ((Q.getD 0 (0, 0)).2)], .int .i64 0]) ∧ Hs (fps [.blk q #[.slice (some ⟨gq, 0, none⟩) 256 cq, .int .i64 ((ra : Nat) : Int), .int .i64 ((qn : Nat) : Int)] 123, .row (.slice (some ⟨gq, 0, none⟩) 256 cq) 52 2 256 (List.flatMap entL ls)]) w0 w' [.blk q #[.slice (some ⟨gq, 0, none⟩) 256 cq, .int .i64 ((((ra + 1) % 256) : Nat) : Int), .int .i64 (((qn - 1) : Nat) : Int)] 123, .row (.slice (some ⟨gq, 0, none⟩) 256 cq) 52 2 256 (List.flatMap entL (ls.set ra (0, 0)))] := by
  obtain ⟨m, rfl⟩ : ∃ m, qn = m + 1 := ⟨qn - 1, by omega⟩
  rw [← hk.pop.2]; exact RPop_yes hk w0 H0
set_option maxRecDepth 100000 in
set_option maxHeartbeats 4000000 in
theorem finish_of {M : List Nat} {r s b o c y z : Int} {pg sn ns : Nat} (hL : Lay r s b o c y z pg sn ns) {p gl cl gd cd gs cs q gq cq rp : Nat} {x : Rp} {ls : List Ent} {ra qn : Nat} (hx : RpOk r s b o c z sn pg ns x) (hk : RgOk ls ra qn x.Q) (nx : Int) (hj : ¬ x.j.1 = 0) (w0 : World) (H0 : Hs M w0 w0 [.blk rp #[.pointer (some ⟨p, 0, none⟩), .int .i64 x.j.1, .int .i64 x.j.2.1, .int .i64 x.j.2.2.1, .int .i64 nx, .pointer (some ⟨q, 0, none⟩)] 74, .blk p #[.int .i64 r, .int .i64 s, .int .i64 b, .int .i64 o, .int .i64 c, .int .i64 y, .int .i64 z, .slice (some ⟨gl, 0, none⟩) sn cl, .slice (some ⟨gd, 0, none⟩) pg cd, .slice (some ⟨gs, 0, none⟩) ns cs, .int .i64 ((x.pu : Nat) : Int), .int .i64 ((x.ru : Nat) : Int)] 109, .row (.slice (some ⟨gl, 0, none⟩) sn cl) 3 1 sn (List.map (Value.int .i64) x.L), .row (.slice (some ⟨gd, 0, none⟩) pg cd) 4 1 pg (List.map Value.bool x.D), .row (.slice (some ⟨gs, 0, none⟩) ns cs) 3 1 ns (List.map (Value.int .i64) x.S), .blk q #[.slice (some ⟨gq, 0, none⟩) 256 cq, .int .i64 ((ra : Nat) : Int), .int .i64 ((qn : Nat) : Int)] 123, .row (.slice (some ⟨gq, 0, none⟩) 256 cq) 52 2 256 (List.flatMap entL ls)]) :
    Calls Tryz.prog 46 #[.pointer (some ⟨rp, 0, none⟩)] w0 fun e w' => ∃ u : Value × (List Ent × Nat × Nat), e = .returned u.1 ∧ Hs M w0 w' [.row (u.1) 66 3 (List.length ((Rp.fin r s z sn pg ns x).2)) (List.flatMap int3L ((Rp.fin r s z sn pg ns x).2)), .blk rp #[.pointer (some ⟨p, 0, none⟩), .int .i64 ((((Rp.fin r s z sn pg ns x).1).j).1), .int .i64 ((((Rp.fin r s z sn pg ns x).1).j).2.1), .int .i64 ((((Rp.fin r s z sn pg ns x).1).j).2.2.1), .int .i64 ((((Rp.fin r s z sn pg ns x).1).j).2.2.2), .pointer (some ⟨q, 0, none⟩)] 74, .blk p #[.int .i64 r, .int .i64 s, .int .i64 b, .int .i64 o, .int .i64 c, .int .i64 y, .int .i64 z, .slice (some ⟨gl, 0, none⟩) sn cl, .slice (some ⟨gd, 0, none⟩) pg cd, .slice (some ⟨gs, 0, none⟩) ns cs, .int .i64 ((((Rp.fin r s z sn pg ns x).1).pu : Nat) : Int), .int .i64 ((((Rp.fin r s z sn pg ns x).1).ru : Nat) : Int)] 109, .row (.slice (some ⟨gl, 0, none⟩) sn cl) 3 1 sn (List.map (Value.int .i64) (((Rp.fin r s z sn pg ns x).1).L)), .row (.slice (some ⟨gd, 0, none⟩) pg cd) 4 1 pg (List.map Value.bool (((Rp.fin r s z sn pg ns x).1).D)), .row (.slice (some ⟨gs, 0, none⟩) ns cs) 3 1 ns (List.map (Value.int .i64) (((Rp.fin r s z sn pg ns x).1).S)), .blk q #[.slice (some ⟨gq, 0, none⟩) 256 cq, .int .i64 ((u.2.2.1 : Nat) : Int), .int .i64 ((u.2.2.2 : Nat) : Int)] 123, .row (.slice (some ⟨gq, 0, none⟩) 256 cq) 52 2 256 (List.flatMap entL u.2.1)] ∧ RgOk u.2.1 u.2.2.1 u.2.2.2 (Rp.fin r s z sn pg ns x).1.Q := by
  refine z_enter Tryz.func46 rfl ?_
  have H := H0
  have hm := hx.v.m
  have hpu := hm.hp
  have hru := hm.hr
  have hsn := hL.hsn
  have hz0 := hL.z0
  have hz2 := hL.z2
  have hpg2 := hL.pg2
  have hr8 := hL.r8
  have hs8 := hL.s8
  have hr1 := hL.r1
  have hs0 := hL.s0
  have hns := hL.hns
  obtain ⟨⟨j1, j2⟩, ⟨j3, j4⟩, ⟨j5, j6⟩, ⟨j7, j8⟩⟩ := hx.job_bd hL
  have hjr := JobOk.right hL hx
  refine x_seq <| x_region <| x_b H [.m] <| x_nil <| x_then <| x_seq <| x_region ?_
  refine x_b H [.m, .m, .m, .n 0 1 4 47] <| z_box H #[.int .i64 0, .int .i64 0, .int .i64 0, .int .i64 0] 47 (fun v1 g1 H => ?_)
  refine z_store H 0 0 [.int .i64 x.j.1, .int .i64 x.j.2.1, .int .i64 x.j.2.2.1, .int .i64 nx] (fun v2 H => ?_)
  refine x_nil <| x_then <| x_seq <| x_region <| x_b H [.m, .m, .m, .m] <| z_store H 1 1 [.int .i64 0, .int .i64 0, .int .i64 0, .int .i64 0] (fun v3 H => ?_)
  refine x_nil <| x_then <| x_seq <| x_seq <| x_region <| x_b H [.m, .l 0 0, .v (.bool (decide (x.j.1 = 1)))] <| x_nil ?_
  refine x_then ?_
  cases h1 : decide (x.j.1 = 1)
  · skip
    have h1p := of_decide_eq_false h1
    refine x_f (by kernel_rfl) <| z_region_head H 8 <| q_b [.m, .m, .m, .l 1 0, .m, .l 0 1, .m, .l 0 2] <| q_nil ?_
    clear H
    intro v4 H
    refine z_callH (v := .int .i64 (rpE r ns x.ru x.S x.j.2.1 x.j.2.2.1)) (H.useI [2, 3, 4, 5] (fun h => Replace_any hL hx.v x.j.2.1 x.j.2.2.1 (by omega) _ h)) fun v5 H => x_nil <| x_then <| x_seq <| x_region <| x_b H [.m, .l 4 1, .m, .l 4 2, .m] <| x_box' H #[.int .i64 6, .int .i64 x.j.2.1, .int .i64 x.j.2.2.1] 66 1 (by kernel_rfl) rfl (by kernel_rfl) ?_
    clear H
    intro v6 g2 H
    refine x_b H [.m] <| x_nil <| x_then <| x_seq <| x_block ?_
    replace H := H.rowLit 0 rfl 1 3 rfl (by decide)
    have ed : (Rp.done r sn pg ns x) = { x with S := (rpS r ns x.ru x.S x.j.2.1 x.j.2.2.1), j := (0, 0, 0, 0) } := by unfold Rp.done; rw [if_neg h1p]
    replace H := hsCast (H.pk [0, 6, 1, 2, 3, 4, 7, 8, 5]) (L2 := [.row (.slice (some ⟨g2, 0, none⟩) 1 1) 66 3 (List.length ([(6, x.j.2.1, x.j.2.2.1)])) (List.flatMap int3L ([(6, x.j.2.1, x.j.2.2.1)])), .blk rp #[.pointer (some ⟨p, 0, none⟩), .int .i64 0, .int .i64 0, .int .i64 0, .int .i64 0, .pointer (some ⟨q, 0, none⟩)] 74, .blk p #[.int .i64 r, .int .i64 s, .int .i64 b, .int .i64 o, .int .i64 c, .int .i64 y, .int .i64 z, .slice (some ⟨gl, 0, none⟩) sn cl, .slice (some ⟨gd, 0, none⟩) pg cd, .slice (some ⟨gs, 0, none⟩) ns cs, .int .i64 ((x.pu : Nat) : Int), .int .i64 ((x.ru : Nat) : Int)] 109, .row (.slice (some ⟨gl, 0, none⟩) sn cl) 3 1 sn (List.map (Value.int .i64) x.L), .row (.slice (some ⟨gd, 0, none⟩) pg cd) 4 1 pg (List.map Value.bool x.D), .row (.slice (some ⟨gs, 0, none⟩) ns cs) 3 1 ns (List.map (Value.int .i64) (rpS r ns x.ru x.S x.j.2.1 x.j.2.2.1)), .blk q #[.slice (some ⟨gq, 0, none⟩) 256 cq, .int .i64 (ra : Int), .int .i64 (qn : Int)] 123, .row (.slice (some ⟨gq, 0, none⟩) 256 cq) 52 2 256 (List.flatMap entL ls), .blk g1 #[.int .i64 x.j.1, .int .i64 x.j.2.1, .int .i64 x.j.2.2.1, .int .i64 nx] 47]) (by kernel_rfl)
    replace H := hsCast H (L2 := [.row (.slice (some ⟨g2, 0, none⟩) 1 1) 66 3 (List.length ([(6, x.j.2.1, x.j.2.2.1)])) (List.flatMap int3L ([(6, x.j.2.1, x.j.2.2.1)])), .blk rp #[.pointer (some ⟨p, 0, none⟩), .int .i64 (((Rp.done r sn pg ns x).j).1), .int .i64 (((Rp.done r sn pg ns x).j).2.1), .int .i64 (((Rp.done r sn pg ns x).j).2.2.1), .int .i64 (((Rp.done r sn pg ns x).j).2.2.2), .pointer (some ⟨q, 0, none⟩)] 74, .blk p #[.int .i64 r, .int .i64 s, .int .i64 b, .int .i64 o, .int .i64 c, .int .i64 y, .int .i64 z, .slice (some ⟨gl, 0, none⟩) sn cl, .slice (some ⟨gd, 0, none⟩) pg cd, .slice (some ⟨gs, 0, none⟩) ns cs, .int .i64 (((Rp.done r sn pg ns x).pu : Nat) : Int), .int .i64 (((Rp.done r sn pg ns x).ru : Nat) : Int)] 109, .row (.slice (some ⟨gl, 0, none⟩) sn cl) 3 1 sn (List.map (Value.int .i64) ((Rp.done r sn pg ns x).L)), .row (.slice (some ⟨gd, 0, none⟩) pg cd) 4 1 pg (List.map Value.bool ((Rp.done r sn pg ns x).D)), .row (.slice (some ⟨gs, 0, none⟩) ns cs) 3 1 ns (List.map (Value.int .i64) ((Rp.done r sn pg ns x).S)), .blk q #[.slice (some ⟨gq, 0, none⟩) 256 cq, .int .i64 (ra : Int), .int .i64 (qn : Int)] 123, .row (.slice (some ⟨gq, 0, none⟩) 256 cq) 52 2 256 (List.flatMap entL ls), .blk g1 #[.int .i64 x.j.1, .int .i64 x.j.2.1, .int .i64 x.j.2.2.1, .int .i64 nx] 47]) (by first | (rw [ed]; done) | (rw [ed]; rfl))
    refine x_loop (G := Rp × List Ent × Nat × Nat × Value × List Int3) (fun gh a w' => match gh with | (rq, ls, ra, qn, ov, acc) => ∃ uf1 : Nat → Value, a = frm 65 uf1 [(0, .pointer (some ⟨rp, 0, none⟩)), (4, ov)] [] ∧ Hs M w0 w' [.row (ov) 66 3 (List.length acc) (List.flatMap int3L acc), .blk rp #[.pointer (some ⟨p, 0, none⟩), .int .i64 rq.j.1, .int .i64 rq.j.2.1, .int .i64 rq.j.2.2.1, .int .i64 rq.j.2.2.2, .pointer (some ⟨q, 0, none⟩)] 74, .blk p #[.int .i64 r, .int .i64 s, .int .i64 b, .int .i64 o, .int .i64 c, .int .i64 y, .int .i64 z, .slice (some ⟨gl, 0, none⟩) sn cl, .slice (some ⟨gd, 0, none⟩) pg cd, .slice (some ⟨gs, 0, none⟩) ns cs, .int .i64 ((rq.pu : Nat) : Int), .int .i64 ((rq.ru : Nat) : Int)] 109, .row (.slice (some ⟨gl, 0, none⟩) sn cl) 3 1 sn (List.map (Value.int .i64) rq.L), .row (.slice (some ⟨gd, 0, none⟩) pg cd) 4 1 pg (List.map Value.bool rq.D), .row (.slice (some ⟨gs, 0, none⟩) ns cs) 3 1 ns (List.map (Value.int .i64) rq.S), .blk q #[.slice (some ⟨gq, 0, none⟩) 256 cq, .int .i64 (ra : Int), .int .i64 (qn : Int)] 123, .row (.slice (some ⟨gq, 0, none⟩) 256 cq) 52 2 256 (List.flatMap entL ls), .blk g1 #[.int .i64 x.j.1, .int .i64 x.j.2.1, .int .i64 x.j.2.2.1, .int .i64 nx] 47] ∧ (RpOk r s b o c z sn pg ns rq) ∧ (RgOk ls ra qn rq.Q) ∧ (acc ++ (Rp.drain r s z sn ns rq rq.Q).2 = (Rp.fin r s z sn pg ns x).2) ∧ ((Rp.drain r s z sn ns rq rq.Q).1 = (Rp.fin r s z sn pg ns x).1) ∧ (acc.length + qn ≤ 257)) (fun gh => match gh with | (rq, ls, ra, qn, ov, acc) => qn) ((Rp.done r sn pg ns x), ls, ra, qn, .slice (some ⟨g2, 0, none⟩) 1 1, [(6, x.j.2.1, x.j.2.2.1)]) ⟨_, frm_of, H, (hx.done hL), (by rw [Rp.done_Q]; exact hk), (by rw [Rp.done_Q]; rfl), (by rw [Rp.done_Q]; rfl), (by have := hk.hn; simp; omega)⟩ ?_
    clear H
    rintro ⟨rq, ls, ra, qn, ov, acc⟩ _ v7 ⟨uf1, rfl, H, r1, r2, r3, r4, r5⟩
    have hy := r1
    have hk := r2
    refine x_seq <| x_seq <| x_region <| x_b H [.m] <| z_callB (v := .bool (!(decide (rq.j.1 = 0)))) H (busy_of (x := rq) _ (H.ro1 [1])) fun v8 H => x_b H [.v (.bool (!(!(decide (rq.j.1 = 0)))))] <| x_nil ?_
    refine x_then ?_
    cases h2 : decide (rq.j.1 = 0)
    · skip
      have h2p := of_decide_eq_false h2
      refine x_f (by kernel_rfl) <| x_exit <| x_then_exit <| x_then_exit <| x_blk_exit <| x_then <| x_seq ?_
      refine x_region <| x_b H [.m, .m] <| x_nil <| x_then <| x_retc <| x_ret (ov) (by kernel_rfl) (by kernel_rfl) ?_
      rw [Rp.drain_busy rq h2p] at r3 r4
      have e4 : (Rp.fin r s z sn pg ns x).1 = rq := r4.symm
      have e3 : (Rp.fin r s z sn pg ns x).2 = acc := by rw [← r3]; simp
      have hkf : RgOk ls ra qn (Rp.fin r s z sn pg ns x).1.Q := (by rw [e4]; exact hk)
      rw [e4] at hkf
      rw [e3, e4]
      replace H := hsCast (H.pk [0, 1, 2, 3, 4, 5, 6, 7]) (L2 := [.row (ov) 66 3 (List.length acc) (List.flatMap int3L acc), .blk rp #[.pointer (some ⟨p, 0, none⟩), .int .i64 rq.j.1, .int .i64 rq.j.2.1, .int .i64 rq.j.2.2.1, .int .i64 rq.j.2.2.2, .pointer (some ⟨q, 0, none⟩)] 74, .blk p #[.int .i64 r, .int .i64 s, .int .i64 b, .int .i64 o, .int .i64 c, .int .i64 y, .int .i64 z, .slice (some ⟨gl, 0, none⟩) sn cl, .slice (some ⟨gd, 0, none⟩) pg cd, .slice (some ⟨gs, 0, none⟩) ns cs, .int .i64 ((rq.pu : Nat) : Int), .int .i64 ((rq.ru : Nat) : Int)] 109, .row (.slice (some ⟨gl, 0, none⟩) sn cl) 3 1 sn (List.map (Value.int .i64) rq.L), .row (.slice (some ⟨gd, 0, none⟩) pg cd) 4 1 pg (List.map Value.bool rq.D), .row (.slice (some ⟨gs, 0, none⟩) ns cs) 3 1 ns (List.map (Value.int .i64) rq.S), .blk q #[.slice (some ⟨gq, 0, none⟩) 256 cq, .int .i64 (ra : Int), .int .i64 (qn : Int)] 123, .row (.slice (some ⟨gq, 0, none⟩) 256 cq) 52 2 256 (List.flatMap entL ls)]) (by kernel_rfl)
      exact ⟨(ov, ls, ra, qn), rfl, H, hkf⟩
    have h2p := of_decide_eq_true h2
    refine x_t (by kernel_rfl) <| x_skipc <| x_then <| x_block <| x_seq <| x_region <| x_b H [.m, .m, .m, .l 1 5] ?_
    cases h3 : decide (qn = 0)
    · skip
      have h3p := of_decide_eq_false h3
      refine z_callH (H.useI [6, 7] (fun h => RPop_n hk h3p _ h)) fun v9 H => ?_
      obtain ⟨hk2, hQ⟩ := hk.popn h3p
      refine x_b H [.m, .m, .m] <| z_box H #[.int .i64 0, .int .i64 0] 52 (fun v10 g3 H => ?_)
      refine z_store H 0 0 [.int .i64 ((rq.Q.getD 0 (0, 0)).1), .int .i64 ((rq.Q.getD 0 (0, 0)).2)] (fun v11 H => ?_)
      refine x_b H [.m] <| x_nil <| x_then <| x_seq <| x_seq <| x_region <| x_b H [.m, .m] ?_
      refine x_nil <| x_then <| x_f (by kernel_rfl) <| x_skipc <| x_then <| x_seq <| x_region ?_
      refine x_b H [.m, .n 0 0 2 52] <| z_callB (v := .bool (Rp.void sn ns rq (rq.Q.getD 0 (0, 0)))) H (void_any hL hy (rq.Q.getD 0 (0, 0)) _ (H.ro1 [4, 5, 6, 7, 8])) fun v12 H => x_b H [.v (.bool (!(Rp.void sn ns rq (rq.Q.getD 0 (0, 0)))))] <| x_nil <| x_then ?_
      cases h4 : Rp.void sn ns rq (rq.Q.getD 0 (0, 0))
      · skip
        refine x_t (by kernel_rfl) <| x_region <| x_b H [.m, .m, .n 0 0 2 52] <| z_call (H.useEI [4, 5, 6, 7, 8] (fun h => start_of hL hy (a := (rq.Q.getD 0 (0, 0))) h4 _ h)) ?_
        rintro _ v13 ⟨gev, rfl, H'⟩
        refine ⟨_, rfl, ?_⟩
        clear H
        have H := H'
        clear H'
        refine x_appendSrc H 9 (ov) 61 66 3 24 (List.length acc) (.agg #[.int .i64 0, .int .i64 0, .int .i64 0]) (List.flatMap int3L acc) (.slice (some ⟨gev, 0, none⟩) 1 1) 1 (List.flatMap int3L ([(Rp.startV r s z sn rq (rq.Q.getD 0 (0, 0)))])) rfl (src_row (H.ok 0 _ rfl : Go.World.ownsRow _ 0 66 3 _ _ _)) (by kernel_rfl) (by kernel_rfl) (by kernel_rfl) (by decide) (oneCellFlat int3One _) (by unfold maxLen; omega) (by omega) (by kernel_rfl) rfl (by kernel_rfl) ?_
        clear H
        intro v14 vr63 H
        rw [show (List.flatMap int3L acc) ++ (List.flatMap int3L ([(Rp.startV r s z sn rq (rq.Q.getD 0 (0, 0)))])) = (List.flatMap int3L (acc ++ [(Rp.startV r s z sn rq (rq.Q.getD 0 (0, 0)))])) from (by rw [List.flatMap_append])] at H
        rw [show ((List.length acc) + 1 : Nat) = (List.length (acc ++ [(Rp.startV r s z sn rq (rq.Q.getD 0 (0, 0)))])) from (by simp)] at H
        refine x_b H [.m] <| x_nil <| x_blk <| x_then ?_
        rw [hQ] at r3 r4
        rw [Rp.drain_start rq h2p _ _ h4] at r3 r4
        have hyt : ∀ a ∈ rq.Q.tail, a.1 = 1 ∨ a.1 = 2 := fun a ha => hy.qk a (List.mem_of_mem_tail ha)
        have hyl := hy.ql
        have hkl := hk.hQ
        have hkt := hk2.hQ
        replace H := hsCast (H.pk [9, 1, 2, 3, 4, 5, 7, 8, 10]) (L2 := [.row (vr63) 66 3 (List.length (acc ++ [(Rp.startV r s z sn rq (rq.Q.getD 0 (0, 0)))])) (List.flatMap int3L (acc ++ [(Rp.startV r s z sn rq (rq.Q.getD 0 (0, 0)))])), .blk rp #[.pointer (some ⟨p, 0, none⟩), .int .i64 (((Rp.setQ (Rp.start r s z sn rq (rq.Q.getD 0 (0, 0))) rq.Q.tail).j).1), .int .i64 (((Rp.setQ (Rp.start r s z sn rq (rq.Q.getD 0 (0, 0))) rq.Q.tail).j).2.1), .int .i64 (((Rp.setQ (Rp.start r s z sn rq (rq.Q.getD 0 (0, 0))) rq.Q.tail).j).2.2.1), .int .i64 (((Rp.setQ (Rp.start r s z sn rq (rq.Q.getD 0 (0, 0))) rq.Q.tail).j).2.2.2), .pointer (some ⟨q, 0, none⟩)] 74, .blk p #[.int .i64 r, .int .i64 s, .int .i64 b, .int .i64 o, .int .i64 c, .int .i64 y, .int .i64 z, .slice (some ⟨gl, 0, none⟩) sn cl, .slice (some ⟨gd, 0, none⟩) pg cd, .slice (some ⟨gs, 0, none⟩) ns cs, .int .i64 (((Rp.setQ (Rp.start r s z sn rq (rq.Q.getD 0 (0, 0))) rq.Q.tail).pu : Nat) : Int), .int .i64 (((Rp.setQ (Rp.start r s z sn rq (rq.Q.getD 0 (0, 0))) rq.Q.tail).ru : Nat) : Int)] 109, .row (.slice (some ⟨gl, 0, none⟩) sn cl) 3 1 sn (List.map (Value.int .i64) ((Rp.setQ (Rp.start r s z sn rq (rq.Q.getD 0 (0, 0))) rq.Q.tail).L)), .row (.slice (some ⟨gd, 0, none⟩) pg cd) 4 1 pg (List.map Value.bool ((Rp.setQ (Rp.start r s z sn rq (rq.Q.getD 0 (0, 0))) rq.Q.tail).D)), .row (.slice (some ⟨gs, 0, none⟩) ns cs) 3 1 ns (List.map (Value.int .i64) ((Rp.setQ (Rp.start r s z sn rq (rq.Q.getD 0 (0, 0))) rq.Q.tail).S)), .blk q #[.slice (some ⟨gq, 0, none⟩) 256 cq, .int .i64 ((((ra + 1) % 256) : Nat) : Int), .int .i64 (((qn - 1) : Nat) : Int)] 123, .row (.slice (some ⟨gq, 0, none⟩) 256 cq) 52 2 256 (List.flatMap entL (ls.set ra (0, 0))), .blk g1 #[.int .i64 x.j.1, .int .i64 x.j.2.1, .int .i64 x.j.2.2.1, .int .i64 nx] 47]) (by kernel_rfl)
        exact ⟨((Rp.setQ (Rp.start r s z sn rq (rq.Q.getD 0 (0, 0))) rq.Q.tail), (ls.set ra (0, 0)), ((ra + 1) % 256), (qn - 1), vr63, (acc ++ [(Rp.startV r s z sn rq (rq.Q.getD 0 (0, 0)))])), (by dsimp only; omega), _, frm_of, H, ((hy.start hL h2p h4).setQ hyt (by omega)), hk2, ((List.append_assoc _ _ _).trans r3), r4, (by simp only [List.length_append, List.length_cons, List.length_nil]; omega)⟩
      refine x_f (by kernel_rfl) <| x_skipc <| x_blk <| x_then ?_
      rw [hQ] at r3 r4
      rw [Rp.drain_void rq h2p _ _ h4] at r3 r4
      have hyt : ∀ a ∈ rq.Q.tail, a.1 = 1 ∨ a.1 = 2 := fun a ha => hy.qk a (List.mem_of_mem_tail ha)
      have hyl := hy.ql
      have hkl := hk.hQ
      have hkt := hk2.hQ
      replace H := hsCast (H.pk [3, 4, 5, 6, 7, 8, 1, 2, 9]) (L2 := [.row (ov) 66 3 (List.length acc) (List.flatMap int3L acc), .blk rp #[.pointer (some ⟨p, 0, none⟩), .int .i64 (((Rp.setQ rq rq.Q.tail).j).1), .int .i64 (((Rp.setQ rq rq.Q.tail).j).2.1), .int .i64 (((Rp.setQ rq rq.Q.tail).j).2.2.1), .int .i64 (((Rp.setQ rq rq.Q.tail).j).2.2.2), .pointer (some ⟨q, 0, none⟩)] 74, .blk p #[.int .i64 r, .int .i64 s, .int .i64 b, .int .i64 o, .int .i64 c, .int .i64 y, .int .i64 z, .slice (some ⟨gl, 0, none⟩) sn cl, .slice (some ⟨gd, 0, none⟩) pg cd, .slice (some ⟨gs, 0, none⟩) ns cs, .int .i64 (((Rp.setQ rq rq.Q.tail).pu : Nat) : Int), .int .i64 (((Rp.setQ rq rq.Q.tail).ru : Nat) : Int)] 109, .row (.slice (some ⟨gl, 0, none⟩) sn cl) 3 1 sn (List.map (Value.int .i64) ((Rp.setQ rq rq.Q.tail).L)), .row (.slice (some ⟨gd, 0, none⟩) pg cd) 4 1 pg (List.map Value.bool ((Rp.setQ rq rq.Q.tail).D)), .row (.slice (some ⟨gs, 0, none⟩) ns cs) 3 1 ns (List.map (Value.int .i64) ((Rp.setQ rq rq.Q.tail).S)), .blk q #[.slice (some ⟨gq, 0, none⟩) 256 cq, .int .i64 ((((ra + 1) % 256) : Nat) : Int), .int .i64 (((qn - 1) : Nat) : Int)] 123, .row (.slice (some ⟨gq, 0, none⟩) 256 cq) 52 2 256 (List.flatMap entL (ls.set ra (0, 0))), .blk g1 #[.int .i64 x.j.1, .int .i64 x.j.2.1, .int .i64 x.j.2.2.1, .int .i64 nx] 47]) (by kernel_rfl)
      exact ⟨((Rp.setQ rq rq.Q.tail), (ls.set ra (0, 0)), ((ra + 1) % 256), (qn - 1), ov, acc), (by dsimp only; omega), _, frm_of, H, (hy.setQ hyt (by omega)), hk2, r3, r4, (by omega)⟩
    have h3p := of_decide_eq_true h3
    refine z_callH (H.useI [6, 7] (fun h => RPop_0 hk h3p _ h)) fun v15 H => x_b H [.m, .m, .m] <| z_box H #[.int .i64 0, .int .i64 0] 52 (fun v16 g4 H => ?_)
    refine z_store H 0 0 [.int .i64 0, .int .i64 0] (fun v17 H => ?_)
    refine x_b H [.m] <| x_nil <| x_then <| x_seq <| x_seq <| x_region <| x_b H [.m, .m] ?_
    refine x_nil <| x_then <| x_t (by kernel_rfl) <| x_exit <| x_then_exit <| x_blk_out (by decide) <| x_then_exit ?_
    refine x_blk_exit <| x_then <| x_seq <| x_region <| x_b H [.m, .m] <| x_nil <| x_then ?_
    refine x_retc <| x_ret (ov) (by kernel_rfl) (by kernel_rfl) ?_
    have hQ0 : rq.Q = [] := List.eq_nil_of_length_eq_zero (by have := hk.hQ; omega)
    rw [hQ0, Rp.drain] at r3 r4
    have e4 : (Rp.fin r s z sn pg ns x).1 = (Rp.setQ rq []) := r4.symm
    have e3 : (Rp.fin r s z sn pg ns x).2 = acc := by rw [← r3]; simp
    have hkf : RgOk ls ra qn (Rp.fin r s z sn pg ns x).1.Q := (by rw [e4]; rw [hQ0] at hk; exact hk)
    rw [e4] at hkf
    rw [e3, e4]
    replace H := hsCast (H.pk [3, 4, 5, 6, 7, 8, 1, 2]) (L2 := [.row (ov) 66 3 (List.length acc) (List.flatMap int3L acc), .blk rp #[.pointer (some ⟨p, 0, none⟩), .int .i64 (((Rp.setQ rq []).j).1), .int .i64 (((Rp.setQ rq []).j).2.1), .int .i64 (((Rp.setQ rq []).j).2.2.1), .int .i64 (((Rp.setQ rq []).j).2.2.2), .pointer (some ⟨q, 0, none⟩)] 74, .blk p #[.int .i64 r, .int .i64 s, .int .i64 b, .int .i64 o, .int .i64 c, .int .i64 y, .int .i64 z, .slice (some ⟨gl, 0, none⟩) sn cl, .slice (some ⟨gd, 0, none⟩) pg cd, .slice (some ⟨gs, 0, none⟩) ns cs, .int .i64 (((Rp.setQ rq []).pu : Nat) : Int), .int .i64 (((Rp.setQ rq []).ru : Nat) : Int)] 109, .row (.slice (some ⟨gl, 0, none⟩) sn cl) 3 1 sn (List.map (Value.int .i64) ((Rp.setQ rq []).L)), .row (.slice (some ⟨gd, 0, none⟩) pg cd) 4 1 pg (List.map Value.bool ((Rp.setQ rq []).D)), .row (.slice (some ⟨gs, 0, none⟩) ns cs) 3 1 ns (List.map (Value.int .i64) ((Rp.setQ rq []).S)), .blk q #[.slice (some ⟨gq, 0, none⟩) 256 cq, .int .i64 (ra : Int), .int .i64 (qn : Int)] 123, .row (.slice (some ⟨gq, 0, none⟩) 256 cq) 52 2 256 (List.flatMap entL ls)]) (by kernel_rfl)
    exact ⟨(ov, ls, ra, qn), rfl, H, hkf⟩
  have h1p := of_decide_eq_true h1
  refine x_t (by kernel_rfl) <| z_region_head H 8 <| q_b [.m, .m, .m, .l 1 0, .m, .l 0 1, .m, .l 0 2] <| q_nil ?_
  clear H
  intro v18 H
  refine z_callH (v := .int .i64 (reE sn pg x.pu x.D x.j.2.1 x.j.2.2.1)) (H.useI [2, 3, 4, 5] (fun h => Retire_any hL hx.v x.j.2.1 x.j.2.2.1 (by omega) _ h)) fun v19 H => x_nil <| x_then <| x_seq <| x_region <| x_b H [.m, .l 4 1, .m, .l 4 2, .m] <| x_box' H #[.int .i64 6, .int .i64 x.j.2.1, .int .i64 x.j.2.2.1] 66 1 (by kernel_rfl) rfl (by kernel_rfl) ?_
  clear H
  intro v20 g5 H
  refine x_b H [.m] <| x_nil <| x_then <| x_seq <| x_block ?_
  replace H := H.rowLit 0 rfl 1 3 rfl (by decide)
  have ed : (Rp.done r sn pg ns x) = { x with L := (reL sn pg x.pu x.D x.j.2.1 x.j.2.2.1 x.L), D := (reD sn pg x.pu x.D x.j.2.1 x.j.2.2.1), j := (0, 0, 0, 0) } := by unfold Rp.done; rw [if_pos h1p]
  replace H := hsCast (H.pk [0, 6, 1, 2, 3, 4, 7, 8, 5]) (L2 := [.row (.slice (some ⟨g5, 0, none⟩) 1 1) 66 3 (List.length ([(6, x.j.2.1, x.j.2.2.1)])) (List.flatMap int3L ([(6, x.j.2.1, x.j.2.2.1)])), .blk rp #[.pointer (some ⟨p, 0, none⟩), .int .i64 0, .int .i64 0, .int .i64 0, .int .i64 0, .pointer (some ⟨q, 0, none⟩)] 74, .blk p #[.int .i64 r, .int .i64 s, .int .i64 b, .int .i64 o, .int .i64 c, .int .i64 y, .int .i64 z, .slice (some ⟨gl, 0, none⟩) sn cl, .slice (some ⟨gd, 0, none⟩) pg cd, .slice (some ⟨gs, 0, none⟩) ns cs, .int .i64 ((x.pu : Nat) : Int), .int .i64 ((x.ru : Nat) : Int)] 109, .row (.slice (some ⟨gl, 0, none⟩) sn cl) 3 1 sn (List.map (Value.int .i64) (reL sn pg x.pu x.D x.j.2.1 x.j.2.2.1 x.L)), .row (.slice (some ⟨gd, 0, none⟩) pg cd) 4 1 pg (List.map Value.bool (reD sn pg x.pu x.D x.j.2.1 x.j.2.2.1)), .row (.slice (some ⟨gs, 0, none⟩) ns cs) 3 1 ns (List.map (Value.int .i64) x.S), .blk q #[.slice (some ⟨gq, 0, none⟩) 256 cq, .int .i64 (ra : Int), .int .i64 (qn : Int)] 123, .row (.slice (some ⟨gq, 0, none⟩) 256 cq) 52 2 256 (List.flatMap entL ls), .blk g1 #[.int .i64 x.j.1, .int .i64 x.j.2.1, .int .i64 x.j.2.2.1, .int .i64 nx] 47]) (by kernel_rfl)
  replace H := hsCast H (L2 := [.row (.slice (some ⟨g5, 0, none⟩) 1 1) 66 3 (List.length ([(6, x.j.2.1, x.j.2.2.1)])) (List.flatMap int3L ([(6, x.j.2.1, x.j.2.2.1)])), .blk rp #[.pointer (some ⟨p, 0, none⟩), .int .i64 (((Rp.done r sn pg ns x).j).1), .int .i64 (((Rp.done r sn pg ns x).j).2.1), .int .i64 (((Rp.done r sn pg ns x).j).2.2.1), .int .i64 (((Rp.done r sn pg ns x).j).2.2.2), .pointer (some ⟨q, 0, none⟩)] 74, .blk p #[.int .i64 r, .int .i64 s, .int .i64 b, .int .i64 o, .int .i64 c, .int .i64 y, .int .i64 z, .slice (some ⟨gl, 0, none⟩) sn cl, .slice (some ⟨gd, 0, none⟩) pg cd, .slice (some ⟨gs, 0, none⟩) ns cs, .int .i64 (((Rp.done r sn pg ns x).pu : Nat) : Int), .int .i64 (((Rp.done r sn pg ns x).ru : Nat) : Int)] 109, .row (.slice (some ⟨gl, 0, none⟩) sn cl) 3 1 sn (List.map (Value.int .i64) ((Rp.done r sn pg ns x).L)), .row (.slice (some ⟨gd, 0, none⟩) pg cd) 4 1 pg (List.map Value.bool ((Rp.done r sn pg ns x).D)), .row (.slice (some ⟨gs, 0, none⟩) ns cs) 3 1 ns (List.map (Value.int .i64) ((Rp.done r sn pg ns x).S)), .blk q #[.slice (some ⟨gq, 0, none⟩) 256 cq, .int .i64 (ra : Int), .int .i64 (qn : Int)] 123, .row (.slice (some ⟨gq, 0, none⟩) 256 cq) 52 2 256 (List.flatMap entL ls), .blk g1 #[.int .i64 x.j.1, .int .i64 x.j.2.1, .int .i64 x.j.2.2.1, .int .i64 nx] 47]) (by first | (rw [ed]; done) | (rw [ed]; rfl))
  refine x_loop (G := Rp × List Ent × Nat × Nat × Value × List Int3) (fun gh a w' => match gh with | (rq, ls, ra, qn, ov, acc) => ∃ uf2 : Nat → Value, a = frm 65 uf2 [(0, .pointer (some ⟨rp, 0, none⟩)), (4, ov)] [] ∧ Hs M w0 w' [.row (ov) 66 3 (List.length acc) (List.flatMap int3L acc), .blk rp #[.pointer (some ⟨p, 0, none⟩), .int .i64 rq.j.1, .int .i64 rq.j.2.1, .int .i64 rq.j.2.2.1, .int .i64 rq.j.2.2.2, .pointer (some ⟨q, 0, none⟩)] 74, .blk p #[.int .i64 r, .int .i64 s, .int .i64 b, .int .i64 o, .int .i64 c, .int .i64 y, .int .i64 z, .slice (some ⟨gl, 0, none⟩) sn cl, .slice (some ⟨gd, 0, none⟩) pg cd, .slice (some ⟨gs, 0, none⟩) ns cs, .int .i64 ((rq.pu : Nat) : Int), .int .i64 ((rq.ru : Nat) : Int)] 109, .row (.slice (some ⟨gl, 0, none⟩) sn cl) 3 1 sn (List.map (Value.int .i64) rq.L), .row (.slice (some ⟨gd, 0, none⟩) pg cd) 4 1 pg (List.map Value.bool rq.D), .row (.slice (some ⟨gs, 0, none⟩) ns cs) 3 1 ns (List.map (Value.int .i64) rq.S), .blk q #[.slice (some ⟨gq, 0, none⟩) 256 cq, .int .i64 (ra : Int), .int .i64 (qn : Int)] 123, .row (.slice (some ⟨gq, 0, none⟩) 256 cq) 52 2 256 (List.flatMap entL ls), .blk g1 #[.int .i64 x.j.1, .int .i64 x.j.2.1, .int .i64 x.j.2.2.1, .int .i64 nx] 47] ∧ (RpOk r s b o c z sn pg ns rq) ∧ (RgOk ls ra qn rq.Q) ∧ (acc ++ (Rp.drain r s z sn ns rq rq.Q).2 = (Rp.fin r s z sn pg ns x).2) ∧ ((Rp.drain r s z sn ns rq rq.Q).1 = (Rp.fin r s z sn pg ns x).1) ∧ (acc.length + qn ≤ 257)) (fun gh => match gh with | (rq, ls, ra, qn, ov, acc) => qn) ((Rp.done r sn pg ns x), ls, ra, qn, .slice (some ⟨g5, 0, none⟩) 1 1, [(6, x.j.2.1, x.j.2.2.1)]) ⟨_, frm_of, H, (hx.done hL), (by rw [Rp.done_Q]; exact hk), (by rw [Rp.done_Q]; rfl), (by rw [Rp.done_Q]; rfl), (by have := hk.hn; simp; omega)⟩ ?_
  clear H
  rintro ⟨rq, ls, ra, qn, ov, acc⟩ _ v21 ⟨uf2, rfl, H, r1, r2, r3, r4, r5⟩
  have hy := r1
  have hk := r2
  refine x_seq <| x_seq <| x_region <| x_b H [.m] <| z_callB (v := .bool (!(decide (rq.j.1 = 0)))) H (busy_of (x := rq) _ (H.ro1 [1])) fun v22 H => x_b H [.v (.bool (!(!(decide (rq.j.1 = 0)))))] <| x_nil ?_
  refine x_then ?_
  cases h5 : decide (rq.j.1 = 0)
  · skip
    have h5p := of_decide_eq_false h5
    refine x_f (by kernel_rfl) <| x_exit <| x_then_exit <| x_then_exit <| x_blk_exit <| x_then <| x_seq ?_
    refine x_region <| x_b H [.m, .m] <| x_nil <| x_then <| x_retc <| x_ret (ov) (by kernel_rfl) (by kernel_rfl) ?_
    rw [Rp.drain_busy rq h5p] at r3 r4
    have e4 : (Rp.fin r s z sn pg ns x).1 = rq := r4.symm
    have e3 : (Rp.fin r s z sn pg ns x).2 = acc := by rw [← r3]; simp
    have hkf : RgOk ls ra qn (Rp.fin r s z sn pg ns x).1.Q := (by rw [e4]; exact hk)
    rw [e4] at hkf
    rw [e3, e4]
    replace H := hsCast (H.pk [0, 1, 2, 3, 4, 5, 6, 7]) (L2 := [.row (ov) 66 3 (List.length acc) (List.flatMap int3L acc), .blk rp #[.pointer (some ⟨p, 0, none⟩), .int .i64 rq.j.1, .int .i64 rq.j.2.1, .int .i64 rq.j.2.2.1, .int .i64 rq.j.2.2.2, .pointer (some ⟨q, 0, none⟩)] 74, .blk p #[.int .i64 r, .int .i64 s, .int .i64 b, .int .i64 o, .int .i64 c, .int .i64 y, .int .i64 z, .slice (some ⟨gl, 0, none⟩) sn cl, .slice (some ⟨gd, 0, none⟩) pg cd, .slice (some ⟨gs, 0, none⟩) ns cs, .int .i64 ((rq.pu : Nat) : Int), .int .i64 ((rq.ru : Nat) : Int)] 109, .row (.slice (some ⟨gl, 0, none⟩) sn cl) 3 1 sn (List.map (Value.int .i64) rq.L), .row (.slice (some ⟨gd, 0, none⟩) pg cd) 4 1 pg (List.map Value.bool rq.D), .row (.slice (some ⟨gs, 0, none⟩) ns cs) 3 1 ns (List.map (Value.int .i64) rq.S), .blk q #[.slice (some ⟨gq, 0, none⟩) 256 cq, .int .i64 (ra : Int), .int .i64 (qn : Int)] 123, .row (.slice (some ⟨gq, 0, none⟩) 256 cq) 52 2 256 (List.flatMap entL ls)]) (by kernel_rfl)
    exact ⟨(ov, ls, ra, qn), rfl, H, hkf⟩
  have h5p := of_decide_eq_true h5
  refine x_t (by kernel_rfl) <| x_skipc <| x_then <| x_block <| x_seq <| x_region <| x_b H [.m, .m, .m, .l 1 5] ?_
  cases h6 : decide (qn = 0)
  · skip
    have h6p := of_decide_eq_false h6
    refine z_callH (H.useI [6, 7] (fun h => RPop_n hk h6p _ h)) fun v23 H => ?_
    obtain ⟨hk2, hQ⟩ := hk.popn h6p
    refine x_b H [.m, .m, .m] <| z_box H #[.int .i64 0, .int .i64 0] 52 (fun v24 g6 H => ?_)
    refine z_store H 0 0 [.int .i64 ((rq.Q.getD 0 (0, 0)).1), .int .i64 ((rq.Q.getD 0 (0, 0)).2)] (fun v25 H => ?_)
    refine x_b H [.m] <| x_nil <| x_then <| x_seq <| x_seq <| x_region <| x_b H [.m, .m] ?_
    refine x_nil <| x_then <| x_f (by kernel_rfl) <| x_skipc <| x_then <| x_seq <| x_region ?_
    refine x_b H [.m, .n 0 0 2 52] <| z_callB (v := .bool (Rp.void sn ns rq (rq.Q.getD 0 (0, 0)))) H (void_any hL hy (rq.Q.getD 0 (0, 0)) _ (H.ro1 [4, 5, 6, 7, 8])) fun v26 H => x_b H [.v (.bool (!(Rp.void sn ns rq (rq.Q.getD 0 (0, 0)))))] <| x_nil <| x_then ?_
    cases h7 : Rp.void sn ns rq (rq.Q.getD 0 (0, 0))
    · skip
      refine x_t (by kernel_rfl) <| x_region <| x_b H [.m, .m, .n 0 0 2 52] <| z_call (H.useEI [4, 5, 6, 7, 8] (fun h => start_of hL hy (a := (rq.Q.getD 0 (0, 0))) h7 _ h)) ?_
      rintro _ v27 ⟨gev, rfl, H'⟩
      refine ⟨_, rfl, ?_⟩
      clear H
      have H := H'
      clear H'
      refine x_appendSrc H 9 (ov) 61 66 3 24 (List.length acc) (.agg #[.int .i64 0, .int .i64 0, .int .i64 0]) (List.flatMap int3L acc) (.slice (some ⟨gev, 0, none⟩) 1 1) 1 (List.flatMap int3L ([(Rp.startV r s z sn rq (rq.Q.getD 0 (0, 0)))])) rfl (src_row (H.ok 0 _ rfl : Go.World.ownsRow _ 0 66 3 _ _ _)) (by kernel_rfl) (by kernel_rfl) (by kernel_rfl) (by decide) (oneCellFlat int3One _) (by unfold maxLen; omega) (by omega) (by kernel_rfl) rfl (by kernel_rfl) ?_
      clear H
      intro v28 vr63 H
      rw [show (List.flatMap int3L acc) ++ (List.flatMap int3L ([(Rp.startV r s z sn rq (rq.Q.getD 0 (0, 0)))])) = (List.flatMap int3L (acc ++ [(Rp.startV r s z sn rq (rq.Q.getD 0 (0, 0)))])) from (by rw [List.flatMap_append])] at H
      rw [show ((List.length acc) + 1 : Nat) = (List.length (acc ++ [(Rp.startV r s z sn rq (rq.Q.getD 0 (0, 0)))])) from (by simp)] at H
      refine x_b H [.m] <| x_nil <| x_blk <| x_then ?_
      rw [hQ] at r3 r4
      rw [Rp.drain_start rq h5p _ _ h7] at r3 r4
      have hyt : ∀ a ∈ rq.Q.tail, a.1 = 1 ∨ a.1 = 2 := fun a ha => hy.qk a (List.mem_of_mem_tail ha)
      have hyl := hy.ql
      have hkl := hk.hQ
      have hkt := hk2.hQ
      replace H := hsCast (H.pk [9, 1, 2, 3, 4, 5, 7, 8, 10]) (L2 := [.row (vr63) 66 3 (List.length (acc ++ [(Rp.startV r s z sn rq (rq.Q.getD 0 (0, 0)))])) (List.flatMap int3L (acc ++ [(Rp.startV r s z sn rq (rq.Q.getD 0 (0, 0)))])), .blk rp #[.pointer (some ⟨p, 0, none⟩), .int .i64 (((Rp.setQ (Rp.start r s z sn rq (rq.Q.getD 0 (0, 0))) rq.Q.tail).j).1), .int .i64 (((Rp.setQ (Rp.start r s z sn rq (rq.Q.getD 0 (0, 0))) rq.Q.tail).j).2.1), .int .i64 (((Rp.setQ (Rp.start r s z sn rq (rq.Q.getD 0 (0, 0))) rq.Q.tail).j).2.2.1), .int .i64 (((Rp.setQ (Rp.start r s z sn rq (rq.Q.getD 0 (0, 0))) rq.Q.tail).j).2.2.2), .pointer (some ⟨q, 0, none⟩)] 74, .blk p #[.int .i64 r, .int .i64 s, .int .i64 b, .int .i64 o, .int .i64 c, .int .i64 y, .int .i64 z, .slice (some ⟨gl, 0, none⟩) sn cl, .slice (some ⟨gd, 0, none⟩) pg cd, .slice (some ⟨gs, 0, none⟩) ns cs, .int .i64 (((Rp.setQ (Rp.start r s z sn rq (rq.Q.getD 0 (0, 0))) rq.Q.tail).pu : Nat) : Int), .int .i64 (((Rp.setQ (Rp.start r s z sn rq (rq.Q.getD 0 (0, 0))) rq.Q.tail).ru : Nat) : Int)] 109, .row (.slice (some ⟨gl, 0, none⟩) sn cl) 3 1 sn (List.map (Value.int .i64) ((Rp.setQ (Rp.start r s z sn rq (rq.Q.getD 0 (0, 0))) rq.Q.tail).L)), .row (.slice (some ⟨gd, 0, none⟩) pg cd) 4 1 pg (List.map Value.bool ((Rp.setQ (Rp.start r s z sn rq (rq.Q.getD 0 (0, 0))) rq.Q.tail).D)), .row (.slice (some ⟨gs, 0, none⟩) ns cs) 3 1 ns (List.map (Value.int .i64) ((Rp.setQ (Rp.start r s z sn rq (rq.Q.getD 0 (0, 0))) rq.Q.tail).S)), .blk q #[.slice (some ⟨gq, 0, none⟩) 256 cq, .int .i64 ((((ra + 1) % 256) : Nat) : Int), .int .i64 (((qn - 1) : Nat) : Int)] 123, .row (.slice (some ⟨gq, 0, none⟩) 256 cq) 52 2 256 (List.flatMap entL (ls.set ra (0, 0))), .blk g1 #[.int .i64 x.j.1, .int .i64 x.j.2.1, .int .i64 x.j.2.2.1, .int .i64 nx] 47]) (by kernel_rfl)
      exact ⟨((Rp.setQ (Rp.start r s z sn rq (rq.Q.getD 0 (0, 0))) rq.Q.tail), (ls.set ra (0, 0)), ((ra + 1) % 256), (qn - 1), vr63, (acc ++ [(Rp.startV r s z sn rq (rq.Q.getD 0 (0, 0)))])), (by dsimp only; omega), _, frm_of, H, ((hy.start hL h5p h7).setQ hyt (by omega)), hk2, ((List.append_assoc _ _ _).trans r3), r4, (by simp only [List.length_append, List.length_cons, List.length_nil]; omega)⟩
    refine x_f (by kernel_rfl) <| x_skipc <| x_blk <| x_then ?_
    rw [hQ] at r3 r4
    rw [Rp.drain_void rq h5p _ _ h7] at r3 r4
    have hyt : ∀ a ∈ rq.Q.tail, a.1 = 1 ∨ a.1 = 2 := fun a ha => hy.qk a (List.mem_of_mem_tail ha)
    have hyl := hy.ql
    have hkl := hk.hQ
    have hkt := hk2.hQ
    replace H := hsCast (H.pk [3, 4, 5, 6, 7, 8, 1, 2, 9]) (L2 := [.row (ov) 66 3 (List.length acc) (List.flatMap int3L acc), .blk rp #[.pointer (some ⟨p, 0, none⟩), .int .i64 (((Rp.setQ rq rq.Q.tail).j).1), .int .i64 (((Rp.setQ rq rq.Q.tail).j).2.1), .int .i64 (((Rp.setQ rq rq.Q.tail).j).2.2.1), .int .i64 (((Rp.setQ rq rq.Q.tail).j).2.2.2), .pointer (some ⟨q, 0, none⟩)] 74, .blk p #[.int .i64 r, .int .i64 s, .int .i64 b, .int .i64 o, .int .i64 c, .int .i64 y, .int .i64 z, .slice (some ⟨gl, 0, none⟩) sn cl, .slice (some ⟨gd, 0, none⟩) pg cd, .slice (some ⟨gs, 0, none⟩) ns cs, .int .i64 (((Rp.setQ rq rq.Q.tail).pu : Nat) : Int), .int .i64 (((Rp.setQ rq rq.Q.tail).ru : Nat) : Int)] 109, .row (.slice (some ⟨gl, 0, none⟩) sn cl) 3 1 sn (List.map (Value.int .i64) ((Rp.setQ rq rq.Q.tail).L)), .row (.slice (some ⟨gd, 0, none⟩) pg cd) 4 1 pg (List.map Value.bool ((Rp.setQ rq rq.Q.tail).D)), .row (.slice (some ⟨gs, 0, none⟩) ns cs) 3 1 ns (List.map (Value.int .i64) ((Rp.setQ rq rq.Q.tail).S)), .blk q #[.slice (some ⟨gq, 0, none⟩) 256 cq, .int .i64 ((((ra + 1) % 256) : Nat) : Int), .int .i64 (((qn - 1) : Nat) : Int)] 123, .row (.slice (some ⟨gq, 0, none⟩) 256 cq) 52 2 256 (List.flatMap entL (ls.set ra (0, 0))), .blk g1 #[.int .i64 x.j.1, .int .i64 x.j.2.1, .int .i64 x.j.2.2.1, .int .i64 nx] 47]) (by kernel_rfl)
    exact ⟨((Rp.setQ rq rq.Q.tail), (ls.set ra (0, 0)), ((ra + 1) % 256), (qn - 1), ov, acc), (by dsimp only; omega), _, frm_of, H, (hy.setQ hyt (by omega)), hk2, r3, r4, (by omega)⟩
  have h6p := of_decide_eq_true h6
  refine z_callH (H.useI [6, 7] (fun h => RPop_0 hk h6p _ h)) fun v29 H => x_b H [.m, .m, .m] <| z_box H #[.int .i64 0, .int .i64 0] 52 (fun v30 g7 H => ?_)
  refine z_store H 0 0 [.int .i64 0, .int .i64 0] (fun v31 H => ?_)
  refine x_b H [.m] <| x_nil <| x_then <| x_seq <| x_seq <| x_region <| x_b H [.m, .m] ?_
  refine x_nil <| x_then <| x_t (by kernel_rfl) <| x_exit <| x_then_exit <| x_blk_out (by decide) <| x_then_exit ?_
  refine x_blk_exit <| x_then <| x_seq <| x_region <| x_b H [.m, .m] <| x_nil <| x_then ?_
  refine x_retc <| x_ret (ov) (by kernel_rfl) (by kernel_rfl) ?_
  have hQ0 : rq.Q = [] := List.eq_nil_of_length_eq_zero (by have := hk.hQ; omega)
  rw [hQ0, Rp.drain] at r3 r4
  have e4 : (Rp.fin r s z sn pg ns x).1 = (Rp.setQ rq []) := r4.symm
  have e3 : (Rp.fin r s z sn pg ns x).2 = acc := by rw [← r3]; simp
  have hkf : RgOk ls ra qn (Rp.fin r s z sn pg ns x).1.Q := (by rw [e4]; rw [hQ0] at hk; exact hk)
  rw [e4] at hkf
  rw [e3, e4]
  replace H := hsCast (H.pk [3, 4, 5, 6, 7, 8, 1, 2]) (L2 := [.row (ov) 66 3 (List.length acc) (List.flatMap int3L acc), .blk rp #[.pointer (some ⟨p, 0, none⟩), .int .i64 (((Rp.setQ rq []).j).1), .int .i64 (((Rp.setQ rq []).j).2.1), .int .i64 (((Rp.setQ rq []).j).2.2.1), .int .i64 (((Rp.setQ rq []).j).2.2.2), .pointer (some ⟨q, 0, none⟩)] 74, .blk p #[.int .i64 r, .int .i64 s, .int .i64 b, .int .i64 o, .int .i64 c, .int .i64 y, .int .i64 z, .slice (some ⟨gl, 0, none⟩) sn cl, .slice (some ⟨gd, 0, none⟩) pg cd, .slice (some ⟨gs, 0, none⟩) ns cs, .int .i64 (((Rp.setQ rq []).pu : Nat) : Int), .int .i64 (((Rp.setQ rq []).ru : Nat) : Int)] 109, .row (.slice (some ⟨gl, 0, none⟩) sn cl) 3 1 sn (List.map (Value.int .i64) ((Rp.setQ rq []).L)), .row (.slice (some ⟨gd, 0, none⟩) pg cd) 4 1 pg (List.map Value.bool ((Rp.setQ rq []).D)), .row (.slice (some ⟨gs, 0, none⟩) ns cs) 3 1 ns (List.map (Value.int .i64) ((Rp.setQ rq []).S)), .blk q #[.slice (some ⟨gq, 0, none⟩) 256 cq, .int .i64 (ra : Int), .int .i64 (qn : Int)] 123, .row (.slice (some ⟨gq, 0, none⟩) 256 cq) 52 2 256 (List.flatMap entL ls)]) (by kernel_rfl)
  exact ⟨(ov, ls, ra, qn), rfl, H, hkf⟩
theorem Done_nx {r s b o c y z : Int} {pg sn ns : Nat} (hL : Lay r s b o c y z pg sn ns) {x : Rp} (hj : ¬ x.j.1 = 0) {t : Bool} (ht : decide (x.j.2.2.2 + 1 = Rp.cnt b o c x.j) = t) (w0 : World) : Calls Tryz.prog 19 #[.agg #[.int .i64 x.j.1, .int .i64 x.j.2.1, .int .i64 x.j.2.2.1, .int .i64 (x.j.2.2.2 + 1)], .agg #[.int .i64 r, .int .i64 s, .int .i64 b, .int .i64 o, .int .i64 c, .int .i64 y, .int .i64 z]] w0 fun e w' => e = .returned (.bool t) ∧ Below w0.heap.size w0 w' := by
  have h := Done_any hL (x.j.1, x.j.2.1, x.j.2.2.1, x.j.2.2.2 + 1) w0
  have e : (!(decide (((x.j.1, x.j.2.1, x.j.2.2.1, x.j.2.2.2 + 1)).1 = 0)) && decide (((x.j.1, x.j.2.1, x.j.2.2.1, x.j.2.2.2 + 1)).2.2.2 = Rp.cnt b o c (x.j.1, x.j.2.1, x.j.2.2.1, x.j.2.2.2 + 1))) = t := by
    show (!(decide (x.j.1 = 0)) && decide (x.j.2.2.2 + 1 = Rp.cnt b o c x.j)) = t
    rw [decide_eq_false hj, ht]; rfl
  rw [e] at h; exact h
def Rp.new (sn pg ns : Nat) : Rp := ⟨iota sn, List.replicate pg false, List.replicate ns (-1), 0, 0, (0, 0, 0, 0), []⟩
set_option maxRecDepth 100000 in
set_option maxHeartbeats 4000000 in
theorem step_of {M : List Nat} {r s b o c y z : Int} {pg sn ns : Nat} (hL : Lay r s b o c y z pg sn ns) {p gl cl gd cd gs cs q gq cq rp : Nat} {x : Rp} {ls : List Ent} {ra qn : Nat} (hx : RpOk r s b o c z sn pg ns x) (hk : RgOk ls ra qn x.Q) (w0 : World) (H0 : Hs M w0 w0 [.blk rp #[.pointer (some ⟨p, 0, none⟩), .int .i64 x.j.1, .int .i64 x.j.2.1, .int .i64 x.j.2.2.1, .int .i64 x.j.2.2.2, .pointer (some ⟨q, 0, none⟩)] 74, .blk p #[.int .i64 r, .int .i64 s, .int .i64 b, .int .i64 o, .int .i64 c, .int .i64 y, .int .i64 z, .slice (some ⟨gl, 0, none⟩) sn cl, .slice (some ⟨gd, 0, none⟩) pg cd, .slice (some ⟨gs, 0, none⟩) ns cs, .int .i64 ((x.pu : Nat) : Int), .int .i64 ((x.ru : Nat) : Int)] 109, .row (.slice (some ⟨gl, 0, none⟩) sn cl) 3 1 sn (List.map (Value.int .i64) x.L), .row (.slice (some ⟨gd, 0, none⟩) pg cd) 4 1 pg (List.map Value.bool x.D), .row (.slice (some ⟨gs, 0, none⟩) ns cs) 3 1 ns (List.map (Value.int .i64) x.S), .blk q #[.slice (some ⟨gq, 0, none⟩) 256 cq, .int .i64 ((ra : Nat) : Int), .int .i64 ((qn : Nat) : Int)] 123, .row (.slice (some ⟨gq, 0, none⟩) 256 cq) 52 2 256 (List.flatMap entL ls)]) :
    Calls Tryz.prog 13 #[.pointer (some ⟨rp, 0, none⟩)] w0 fun e w' => ∃ u : Value × (List Ent × Nat × Nat), e = .returned (.tuple #[u.1, .int .i64 (if x.j.1 = 0 then (51 : Int) else 0)]) ∧ Hs M w0 w' [.row (u.1) 66 3 (List.length ((Rp.step r s z sn pg ns b o c x).2)) (List.flatMap int3L ((Rp.step r s z sn pg ns b o c x).2)), .blk rp #[.pointer (some ⟨p, 0, none⟩), .int .i64 ((((Rp.step r s z sn pg ns b o c x).1).j).1), .int .i64 ((((Rp.step r s z sn pg ns b o c x).1).j).2.1), .int .i64 ((((Rp.step r s z sn pg ns b o c x).1).j).2.2.1), .int .i64 ((((Rp.step r s z sn pg ns b o c x).1).j).2.2.2), .pointer (some ⟨q, 0, none⟩)] 74, .blk p #[.int .i64 r, .int .i64 s, .int .i64 b, .int .i64 o, .int .i64 c, .int .i64 y, .int .i64 z, .slice (some ⟨gl, 0, none⟩) sn cl, .slice (some ⟨gd, 0, none⟩) pg cd, .slice (some ⟨gs, 0, none⟩) ns cs, .int .i64 ((((Rp.step r s z sn pg ns b o c x).1).pu : Nat) : Int), .int .i64 ((((Rp.step r s z sn pg ns b o c x).1).ru : Nat) : Int)] 109, .row (.slice (some ⟨gl, 0, none⟩) sn cl) 3 1 sn (List.map (Value.int .i64) (((Rp.step r s z sn pg ns b o c x).1).L)), .row (.slice (some ⟨gd, 0, none⟩) pg cd) 4 1 pg (List.map Value.bool (((Rp.step r s z sn pg ns b o c x).1).D)), .row (.slice (some ⟨gs, 0, none⟩) ns cs) 3 1 ns (List.map (Value.int .i64) (((Rp.step r s z sn pg ns b o c x).1).S)), .blk q #[.slice (some ⟨gq, 0, none⟩) 256 cq, .int .i64 ((u.2.2.1 : Nat) : Int), .int .i64 ((u.2.2.2 : Nat) : Int)] 123, .row (.slice (some ⟨gq, 0, none⟩) 256 cq) 52 2 256 (List.flatMap entL u.2.1)] ∧ RgOk u.2.1 u.2.2.1 u.2.2.2 (Rp.step r s z sn pg ns b o c x).1.Q := by
  refine z_enter Tryz.func13 rfl ?_
  have H := H0
  have hm := hx.v.m
  have hpu := hm.hp
  have hru := hm.hr
  have hsn := hL.hsn
  have hz0 := hL.z0
  have hz2 := hL.z2
  have hpg2 := hL.pg2
  have hr8 := hL.r8
  have hs8 := hL.s8
  have hr1 := hL.r1
  have hs0 := hL.s0
  have hns := hL.hns
  obtain ⟨⟨j1, j2⟩, ⟨j3, j4⟩, ⟨j5, j6⟩, ⟨j7, j8⟩⟩ := hx.job_bd hL
  have hjr := JobOk.right hL hx
  refine x_seq <| x_region <| x_b H [.m, .m] <| x_nil <| x_then <| x_seq <| x_seq ?_
  refine x_region <| x_b H [.m] <| z_callB (v := .bool (!(decide (x.j.1 = 0)))) H (busy_of (x := x) _ (H.ro1 [0])) fun v1 H => x_b H [.v (.bool (!(!(decide (x.j.1 = 0)))))] <| x_nil <| x_then ?_
  cases h1 : decide (x.j.1 = 0)
  · skip
    have h1p := of_decide_eq_false h1
    refine x_f (by kernel_rfl) <| x_skipc <| x_then <| x_seq <| x_region <| x_b H [.m, .m, .m, .m, .l 0 4] <| z_ar (x.j.2.2.2 + 1) ?_
    refine x_b H [.m, .m, .m] <| z_store H 0 4 [.int .i64 (x.j.2.2.2 + 1)] (fun v2 H => ?_)
    refine x_nil <| x_then <| x_seq <| x_seq <| z_region_whole H <| q_b [.m, .m, .m, .n 0 1 4 47, .m, .m, .m, .l 0 0] <| q_callR (.agg #[.int .i64 r, .int .i64 s, .int .i64 b, .int .i64 o, .int .i64 c, .int .i64 y, .int .i64 z]) (by kernel_rfl) (fun _ => by kernel_rfl) (fun _ H => (Layout_of hL hx.v.m _ (H.ro1 [1, 2, 3, 4]))) ?_
    cases h2 : decide (x.j.2.2.2 + 1 = Rp.cnt b o c x.j)
    · skip
      have h2p := of_decide_eq_false h2
      refine q_callR (.bool false) (by kernel_rfl) (fun _ => by kernel_rfl) (fun _ H => (Done_nx hL h1p h2 _)) <| q_b [.m] <| q_nil ?_
      clear H
      intro v3 H
      refine x_then <| x_t (by kernel_rfl) <| x_seq <| x_region <| x_b H [.m, .m] <| x_nil <| x_then ?_
      refine x_retc <| x_then_ret <| x_ret (.tuple #[.slice none 0 0, .int .i64 0]) (by kernel_rfl) (by kernel_rfl) ?_
      have e1 : (Rp.step r s z sn pg ns b o c x) = (x.next, []) := by unfold Rp.step; rw [if_neg h1p, if_neg h2p]
      rw [e1, if_neg h1p]
      replace H := H.nilRow 66 3
      replace H := H.pk [0, 1, 2, 3, 4, 5, 6, 7]
      exact ⟨(.slice none 0 0, ls, ra, qn), rfl, H, hk⟩
    have h2p := of_decide_eq_true h2
    refine q_callR (.bool true) (by kernel_rfl) (fun _ => by kernel_rfl) (fun _ H => (Done_nx hL h1p h2 _)) <| q_b [.m] <| q_nil ?_
    clear H
    intro v4 H
    refine x_then <| x_f (by kernel_rfl) <| x_skipc <| x_then <| x_seq <| x_region <| x_b H [.m] ?_
    refine z_call (H.useEP [0, 1, 2, 3, 4, 5, 6] (fun h => finish_of hL hx hk _ h1p _ h)) ?_
    rintro _ v5 ⟨⟨fv, fl, fr, fq⟩, rfl, H', hkf⟩
    refine ⟨_, rfl, ?_⟩
    clear H
    have H := hsCast H' (L2 := [.row (fv) 66 3 (List.length ((Rp.fin r s z sn pg ns x).2)) (List.flatMap int3L ((Rp.fin r s z sn pg ns x).2)), .blk rp #[.pointer (some ⟨p, 0, none⟩), .int .i64 ((((Rp.fin r s z sn pg ns x).1).j).1), .int .i64 ((((Rp.fin r s z sn pg ns x).1).j).2.1), .int .i64 ((((Rp.fin r s z sn pg ns x).1).j).2.2.1), .int .i64 ((((Rp.fin r s z sn pg ns x).1).j).2.2.2), .pointer (some ⟨q, 0, none⟩)] 74, .blk p #[.int .i64 r, .int .i64 s, .int .i64 b, .int .i64 o, .int .i64 c, .int .i64 y, .int .i64 z, .slice (some ⟨gl, 0, none⟩) sn cl, .slice (some ⟨gd, 0, none⟩) pg cd, .slice (some ⟨gs, 0, none⟩) ns cs, .int .i64 ((((Rp.fin r s z sn pg ns x).1).pu : Nat) : Int), .int .i64 ((((Rp.fin r s z sn pg ns x).1).ru : Nat) : Int)] 109, .row (.slice (some ⟨gl, 0, none⟩) sn cl) 3 1 sn (List.map (Value.int .i64) (((Rp.fin r s z sn pg ns x).1).L)), .row (.slice (some ⟨gd, 0, none⟩) pg cd) 4 1 pg (List.map Value.bool (((Rp.fin r s z sn pg ns x).1).D)), .row (.slice (some ⟨gs, 0, none⟩) ns cs) 3 1 ns (List.map (Value.int .i64) (((Rp.fin r s z sn pg ns x).1).S)), .blk q #[.slice (some ⟨gq, 0, none⟩) 256 cq, .int .i64 (fr : Int), .int .i64 (fq : Int)] 123, .row (.slice (some ⟨gq, 0, none⟩) 256 cq) 52 2 256 (List.flatMap entL fl)]) (by kernel_rfl)
    clear H'
    refine x_b H [.m, .m] <| x_nil <| x_then <| x_retc <| x_ret (.tuple #[fv, .int .i64 0]) (by kernel_rfl) (by kernel_rfl) ?_
    have e1 : (Rp.step r s z sn pg ns b o c x) = Rp.fin r s z sn pg ns x := by unfold Rp.step; rw [if_neg h1p, if_pos h2p]; rfl
    rw [e1, if_neg h1p]
    replace H := H.pk [0, 1, 2, 3, 4, 5, 6, 7]
    exact ⟨(fv, fl, fr, fq), rfl, H, hkf⟩
  have h1p := of_decide_eq_true h1
  refine x_t (by kernel_rfl) <| x_seq <| x_region <| x_b H [.m, .m] <| x_nil <| x_then <| x_retc ?_
  refine x_then_ret <| x_ret (.tuple #[.slice none 0 0, .int .i64 51]) (by kernel_rfl) (by kernel_rfl) ?_
  have e1 : (Rp.step r s z sn pg ns b o c x) = (x, []) := by unfold Rp.step; rw [if_pos h1p]
  rw [e1, if_pos h1p]
  replace H := H.nilRow 66 3
  replace H := H.pk [0, 1, 2, 3, 4, 5, 6, 7]
  exact ⟨(.slice none 0 0, ls, ra, qn), rfl, H, hk⟩
set_option maxRecDepth 100000 in
set_option maxHeartbeats 4000000 in
theorem RNew_yes {r s b o c y z : Int} {pg sn ns : Nat} (hL : Lay r s b o c y z pg sn ns) (w0 : World) :
    Calls Tryz.prog 11 #[.agg #[.int .i64 r, .int .i64 s, .int .i64 b, .int .i64 o, .int .i64 c, .int .i64 y, .int .i64 z]] w0 fun e w' => ∃ (m7 : Nat × Nat × Nat × Nat × Nat × Nat × Nat) (q3 : Nat × Nat × Nat) (rp : Nat), e = .returned (.tuple #[.pointer (some ⟨rp, 0, none⟩), .int .i64 0]) ∧ Hs [] w0 w' [.blk rp #[.pointer (some ⟨m7.1, 0, none⟩), .int .i64 (((Rp.new sn pg ns).j).1), .int .i64 (((Rp.new sn pg ns).j).2.1), .int .i64 (((Rp.new sn pg ns).j).2.2.1), .int .i64 (((Rp.new sn pg ns).j).2.2.2), .pointer (some ⟨q3.1, 0, none⟩)] 74, .blk m7.1 #[.int .i64 r, .int .i64 s, .int .i64 b, .int .i64 o, .int .i64 c, .int .i64 y, .int .i64 z, .slice (some ⟨m7.2.1, 0, none⟩) sn m7.2.2.1, .slice (some ⟨m7.2.2.2.1, 0, none⟩) pg m7.2.2.2.2.1, .slice (some ⟨m7.2.2.2.2.2.1, 0, none⟩) ns m7.2.2.2.2.2.2, .int .i64 (((Rp.new sn pg ns).pu : Nat) : Int), .int .i64 (((Rp.new sn pg ns).ru : Nat) : Int)] 109, .row (.slice (some ⟨m7.2.1, 0, none⟩) sn m7.2.2.1) 3 1 sn (List.map (Value.int .i64) ((Rp.new sn pg ns).L)), .row (.slice (some ⟨m7.2.2.2.1, 0, none⟩) pg m7.2.2.2.2.1) 4 1 pg (List.map Value.bool ((Rp.new sn pg ns).D)), .row (.slice (some ⟨m7.2.2.2.2.2.1, 0, none⟩) ns m7.2.2.2.2.2.2) 3 1 ns (List.map (Value.int .i64) ((Rp.new sn pg ns).S)), .blk q3.1 #[.slice (some ⟨q3.2.1, 0, none⟩) 256 q3.2.2, .int .i64 ((0 : Nat) : Int), .int .i64 ((0 : Nat) : Int)] 123, .row (.slice (some ⟨q3.2.1, 0, none⟩) 256 q3.2.2) 52 2 256 (List.flatMap entL (List.replicate 256 ((0, 0) : Ent)))] := by
  refine z_enter Tryz.func11 rfl ?_
  have H := Hs.nil w0
  refine x_seq <| x_region <| z_box H #[.int .i64 r, .int .i64 s, .int .i64 b, .int .i64 o, .int .i64 c, .int .i64 y, .int .i64 z] 25 (fun v1 g1 H => ?_)
  refine x_b H [.m, .m] <| x_nil <| x_then <| x_seq <| x_region <| x_b H [.n 0 0 7 25] <| z_call (New_yes hL _) ?_
  rintro _ v2 ⟨p, gl, cl, gd, cd, gs, cs, rfl, hN'⟩
  refine ⟨_, rfl, ?_⟩
  replace H := H.more hN'
  clear hN'
  refine x_b H [.m, .m, .m, .m, .m] <| x_nil <| x_then <| x_seq <| x_seq <| x_region <| x_b H [.m, .m] ?_
  refine x_nil <| x_then <| x_f (by kernel_rfl) <| x_skipc <| x_then <| x_seq <| x_region ?_
  refine z_call (RNew _) ?_
  rintro _ v3 ⟨q, gq, cq, rfl, hN'⟩
  refine ⟨_, rfl, ?_⟩
  replace H := H.more hN'
  clear hN'
  refine x_b H [.m, .m, .m, .m, .m] <| x_nil <| x_then <| x_seq <| x_seq <| x_region <| x_b H [.m, .m] ?_
  refine x_nil <| x_then <| x_f (by kernel_rfl) <| x_skipc <| x_then <| x_seq <| x_region ?_
  refine x_b H [.m, .m, .m] <| z_box H #[.pointer (some ⟨p, 0, none⟩), .int .i64 0, .int .i64 0, .int .i64 0, .int .i64 0, .pointer (some ⟨q, 0, none⟩)] 74 (fun v4 g2 H => ?_)
  refine x_b H [.m, .m] <| x_nil <| x_then <| x_retc <| x_ret (.tuple #[.pointer (some ⟨g2, 0, none⟩), .int .i64 0]) (by kernel_rfl) (by kernel_rfl) ?_
  exact ⟨(p, gl, cl, gd, cd, gs, cs), (q, gq, cq), g2, rfl, H.pk [0, 3, 4, 5, 6, 1, 2]⟩
set_option maxRecDepth 100000 in
set_option maxHeartbeats 4000000 in
theorem RNew_no (r s b o c y z : Int) (hbd : r ≤ 9223372036854775807 ∧ b ≤ 9223372036854775807 ∧ o ≤ 9223372036854775807 ∧ c ≤ 9223372036854775807) (hok : layoutOk r s b o c y z = false) (w0 : World) :
    Calls Tryz.prog 11 #[.agg #[.int .i64 r, .int .i64 s, .int .i64 b, .int .i64 o, .int .i64 c, .int .i64 y, .int .i64 z]] w0 fun e w' => e = .returned (.tuple #[.pointer none, .int .i64 22]) ∧ Below w0.heap.size w0 w' := by
  refine z_enter Tryz.func11 rfl ?_
  have H := Hs.nil w0
  refine x_seq <| x_region <| z_box H #[.int .i64 r, .int .i64 s, .int .i64 b, .int .i64 o, .int .i64 c, .int .i64 y, .int .i64 z] 25 (fun v1 g1 H => ?_)
  refine x_b H [.m, .m] <| x_nil <| x_then <| x_seq <| x_region <| x_b H [.n 0 0 7 25] <| z_callB H (New_no r s b o c y z hbd hok _) fun v2 H => ?_
  refine x_b H [.m, .m, .m, .m, .m] <| x_nil <| x_then <| x_seq <| x_seq <| x_region <| x_b H [.m, .m] ?_
  refine x_nil <| x_then <| x_t (by kernel_rfl) <| x_seq <| x_region <| x_b H [.m, .m, .m] <| x_nil ?_
  refine x_then <| x_retc <| x_then_ret <| x_ret (.tuple #[.pointer none, .int .i64 22]) (by kernel_rfl) (by kernel_rfl) ?_
  exact ⟨rfl, H.below⟩
end Go.Proofs.YtpmnnijjohlloaaGreat
