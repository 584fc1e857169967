/- Contracts of the document's repair. -/
import Derived.Test.YtpmnnijjohlloaaGreatRprT
import Derived.Test.YtpmnnijjohlloaaGreatPxZ
namespace Go.Proofs.YtpmnnijjohlloaaGreat
open Go Go.RowKit
set_option linter.unusedVariables false
set_option linter.unusedSimpArgs false
set_option maxRecDepth 100000 in
set_option maxHeartbeats 4000000 in
theorem Void21 {r s b o c y z : Int} {pg sn ns : Nat} (hL : Lay r s b o c y z pg sn ns) {x : Rp} (hx : RpOk r s b o c z sn pg ns x) {Pg Rk : List Ent} (hd : DocM pg sn ns x.L x.D x.S Pg Rk) (hp8 : Pg.length ≤ 4000) (hrk8 : Rk.length ≤ 4000) {lv pv kv : Value} {ad : Option Addr} {n ca : Nat} (a : Ent) (w0 : World) (hR : Ro w0 [.row (lv) 3 1 pg (List.map (Value.int .i64) (layL y r b o pg)), .row (pv) 142 2 (List.length Pg) (List.flatMap entL Pg), .row (kv) 142 2 (List.length Rk) (List.flatMap entL Rk)]) :
    Calls Tryz.prog 61 #[.agg #[.int .i64 r, .int .i64 s, .int .i64 b, .int .i64 o, .int .i64 c, .int .i64 y, .int .i64 z, lv, pv, kv, .int .i64 ((x.pu : Nat) : Int), .int .i64 ((x.ru : Nat) : Int), .int .i64 x.j.1, .int .i64 x.j.2.1, .int .i64 x.j.2.2.1, .int .i64 x.j.2.2.2, .slice ad n ca], .agg #[.int .i64 a.1, .int .i64 a.2]] w0 fun e w' => e = .returned (.bool (Rp.void sn ns x a)) ∧ Below w0.heap.size w0 w' := by
  refine z_enter Tryz.func61 rfl ?_
  have H := Hs.nil w0
  have R0 := hR
  have hm := hx.v.m
  have hpu := hm.hp
  have hru := hm.hr
  have hsn := hL.hsn
  have hz0 := hL.z0
  have hz2 := hL.z2
  have hpg2 := hL.pg2
  have hr8 := hL.r8
  have hs8 := hL.s8
  have hr1 := hL.r1
  have hs0 := hL.s0
  have hns := hL.hns
  refine x_seq <| x_region <| z_box H #[.int .i64 r, .int .i64 s, .int .i64 b, .int .i64 o, .int .i64 c, .int .i64 y, .int .i64 z, lv, pv, kv, .int .i64 ((x.pu : Nat) : Int), .int .i64 ((x.ru : Nat) : Int), .int .i64 x.j.1, .int .i64 x.j.2.1, .int .i64 x.j.2.2.1, .int .i64 x.j.2.2.2, .slice ad n ca] 39 (fun v1 g1 H => ?_)
  refine z_box H #[.int .i64 a.1, .int .i64 a.2] 80 (fun v2 g2 H => ?_)
  refine x_b H [.m] <| x_nil <| x_then <| x_seq <| x_seq <| z_region_whole H <| q_b [.m, .l 0 0, .v (.bool (decide (a.1 = 1))), .v (.bool (decide (a.1 = 1)))] ?_
  cases h1 : decide (a.1 = 1)
  · skip
    have h1p := of_decide_eq_false h1
    refine q_b [.k, .k, .k, .k, .k, .k, .k, .k, .k, .k, .k, .k, .k, .k, .k, .k, .k, .k, .k, .k, .k, .k, .m] <| q_nil ?_
    clear H
    intro v3 H
    refine x_then <| x_f (by kernel_rfl) <| x_skipc <| x_then <| x_seq <| x_seq <| x_region ?_
    refine x_b H [.m, .l 0 0, .v (.bool (decide (a.1 = 2))), .v (.bool (decide (a.1 = 2)))] ?_
    cases h2 : decide (a.1 = 2)
    · skip
      have h2p := of_decide_eq_false h2
      refine x_b H [.k, .k, .k, .k, .k, .k, .k, .k, .k, .k, .k, .k, .k, .k, .k, .k, .k, .k, .k, .k, .m] <| x_nil <| z_fr 81 [(2, .pointer (some ⟨g1, 0, none⟩)), (3, .pointer (some ⟨g2, 0, none⟩)), (56, .bool false)] [] fun uf1 => x_then <| x_f (by kernel_rfl) <| x_skipc <| x_then ?_
      refine x_seq <| x_region <| x_b H [.m, .l 0 0, .v (.bool (!(decide (a.1 = 1)))), .v (.bool (!(decide (a.1 = 1))))] ?_
      rw [h1]
      refine x_b H [.m, .l 0 0, .v (.bool (!(decide (a.1 = 2)))), .v (.bool (!(decide (a.1 = 2)))), .v (.bool (!(decide (a.1 = 2))))] ?_
      rw [h2]
      refine x_b H [.k, .k, .k, .k, .k, .k, .k, .k, .k, .k, .k, .k, .k, .k, .m, .m] <| x_nil <| x_then <| x_retc <| x_ret (.bool true) (by kernel_rfl) (by kernel_rfl) ?_
      have e : Rp.void sn ns x a = (true) := by
        unfold Rp.void
        first | exact vb1o (by omega) (by omega) | exact vb1d (by omega) (by assumption) | exact vb2o (by omega) (by omega) | exact vb2s (by omega) (by omega) | exact vb1y (by omega) (by omega) (by assumption) (by omega) | exact vb1x (by omega) (by omega) (by assumption) (by omega) | exact vb2y (by omega) (by omega) (by omega) (by omega) | exact vb2x (by omega) (by omega) (by omega) (by omega) | exact vb0 (by omega) (by omega)
      exact ⟨by rw [e], H.below⟩
    have h2p := of_decide_eq_true h2
    refine x_b H [.m, .l 0 1, .v (.bool (decide (a.2 < 0))), .v (.bool (decide (a.2 < 0)))] ?_
    cases h3 : decide (a.2 < 0)
    · skip
      have h3p := of_decide_eq_false h3
      refine x_b H [.m, .l 0 1, .m, .m, .m, .l 1 0, .v (.bool (decide (r ≤ a.2))), .v (.bool (decide (r ≤ a.2))), .v (.bool (decide (r ≤ a.2)))] ?_
      cases h4 : decide (r ≤ a.2)
      · skip
        have h4p := of_decide_eq_false h4
        refine x_b H [.m, .n 1 0 12 34, .m, .l 0 1] ?_
        have hsv := hx.v.sv a.2.toNat (by omega)
        refine z_callB (v := .int .i64 (x.S.getD (Int.toNat a.2) 0)) H (Spare19I (pu := x.pu) (ru := x.ru) (lv := lv) (pv := pv) hL hd hp8 hrk8 a.2 (by omega) _ ((H.ro R0).pick [2] [.row (kv) 142 2 (List.length Rk) (List.flatMap entL Rk)] (by kernel_rfl))) fun v4 H => x_b H [.v (.bool (decide (0 ≤ (x.S.getD (Int.toNat a.2) 0)))), .v (.bool (decide (0 ≤ (x.S.getD (Int.toNat a.2) 0)))), .v (.bool (decide (0 ≤ (x.S.getD (Int.toNat a.2) 0))))] <| x_nil <| z_fr 81 [(2, .pointer (some ⟨g1, 0, none⟩)), (3, .pointer (some ⟨g2, 0, none⟩)), (56, .bool (decide (0 ≤ (x.S.getD (Int.toNat a.2) 0))))] [] fun uf2 => x_then ?_
        cases h5 : decide (0 ≤ (x.S.getD (Int.toNat a.2) 0))
        · skip
          have h5p := of_decide_eq_false h5
          refine x_f (by kernel_rfl) <| x_skipc <| x_then <| x_seq <| x_region <| x_b H [.m, .l 0 0, .v (.bool (!(decide (a.1 = 1)))), .v (.bool (!(decide (a.1 = 1))))] ?_
          rw [h1]
          refine x_b H [.m, .l 0 0, .v (.bool (!(decide (a.1 = 2)))), .v (.bool (!(decide (a.1 = 2)))), .v (.bool (!(decide (a.1 = 2))))] ?_
          rw [h2]
          refine x_b H [.m, .m, .l 1 12, .m, .l 0 0, .v (.bool (decide (x.j.1 = a.1))), .v (.bool (decide (x.j.1 = a.1)))] ?_
          cases h6 : decide (x.j.1 = a.1)
          · skip
            have h6p := of_decide_eq_false h6
            refine x_b H [.k, .k, .k, .k, .k, .k, .m, .m, .m] <| x_nil <| x_then <| x_retc <| x_ret (.bool false) (by kernel_rfl) (by kernel_rfl) ?_
            have e : Rp.void sn ns x a = (false) := by
              unfold Rp.void
              first | exact vb1o (by omega) (by omega) | exact vb1d (by omega) (by assumption) | exact vb2o (by omega) (by omega) | exact vb2s (by omega) (by omega) | exact vb1y (by omega) (by omega) (by assumption) (by omega) | exact vb1x (by omega) (by omega) (by assumption) (by omega) | exact vb2y (by omega) (by omega) (by omega) (by omega) | exact vb2x (by omega) (by omega) (by omega) (by omega) | exact vb0 (by omega) (by omega)
            exact ⟨by rw [e], H.below⟩
          have h6p := of_decide_eq_true h6
          refine x_b H [.m, .m, .l 1 13, .m, .l 0 1, .v (.bool (decide (x.j.2.1 = a.2))), .v (.bool (decide (x.j.2.1 = a.2))), .v (.bool (decide (x.j.2.1 = a.2))), .v (.bool (decide (x.j.2.1 = a.2)))] <| x_nil <| x_then <| x_retc <| x_ret (.bool (decide (x.j.2.1 = a.2))) (by kernel_rfl) (by kernel_rfl) ?_
          have e : Rp.void sn ns x a = ((decide (x.j.2.1 = a.2))) := by
            unfold Rp.void
            first | exact vb1o (by omega) (by omega) | exact vb1d (by omega) (by assumption) | exact vb2o (by omega) (by omega) | exact vb2s (by omega) (by omega) | exact vb1y (by omega) (by omega) (by assumption) (by omega) | exact vb1x (by omega) (by omega) (by assumption) (by omega) | exact vb2y (by omega) (by omega) (by omega) (by omega) | exact vb2x (by omega) (by omega) (by omega) (by omega) | exact vb0 (by omega) (by omega)
          exact ⟨by rw [e], H.below⟩
        have h5p := of_decide_eq_true h5
        refine x_t (by kernel_rfl) <| x_seq <| x_region <| x_b H [.m] <| x_nil <| x_then <| x_retc ?_
        refine x_then_ret <| x_ret (.bool true) (by kernel_rfl) (by kernel_rfl) ?_
        have e : Rp.void sn ns x a = (true) := by
          unfold Rp.void
          first | exact vb1o (by omega) (by omega) | exact vb1d (by omega) (by assumption) | exact vb2o (by omega) (by omega) | exact vb2s (by omega) (by omega) | exact vb1y (by omega) (by omega) (by assumption) (by omega) | exact vb1x (by omega) (by omega) (by assumption) (by omega) | exact vb2y (by omega) (by omega) (by omega) (by omega) | exact vb2x (by omega) (by omega) (by omega) (by omega) | exact vb0 (by omega) (by omega)
        exact ⟨by rw [e], H.below⟩
      have h4p := of_decide_eq_true h4
      refine x_b H [.k, .k, .k, .k, .k, .k, .m, .m] <| x_nil <| z_fr 81 [(2, .pointer (some ⟨g1, 0, none⟩)), (3, .pointer (some ⟨g2, 0, none⟩)), (56, .bool true)] [] fun uf3 => x_then <| x_t (by kernel_rfl) <| x_seq <| x_region ?_
      refine x_b H [.m] <| x_nil <| x_then <| x_retc <| x_then_ret <| x_ret (.bool true) (by kernel_rfl) (by kernel_rfl) ?_
      have e : Rp.void sn ns x a = (true) := by
        unfold Rp.void
        first | exact vb1o (by omega) (by omega) | exact vb1d (by omega) (by assumption) | exact vb2o (by omega) (by omega) | exact vb2s (by omega) (by omega) | exact vb1y (by omega) (by omega) (by assumption) (by omega) | exact vb1x (by omega) (by omega) (by assumption) (by omega) | exact vb2y (by omega) (by omega) (by omega) (by omega) | exact vb2x (by omega) (by omega) (by omega) (by omega) | exact vb0 (by omega) (by omega)
      exact ⟨by rw [e], H.below⟩
    have h3p := of_decide_eq_true h3
    refine x_b H [.k, .k, .k, .k, .k, .k, .k, .m, .m, .k, .k, .k, .k, .k, .k, .m, .m] <| x_nil <| z_fr 81 [(2, .pointer (some ⟨g1, 0, none⟩)), (3, .pointer (some ⟨g2, 0, none⟩)), (56, .bool true)] [] fun uf4 => x_then <| x_t (by kernel_rfl) <| x_seq <| x_region ?_
    refine x_b H [.m] <| x_nil <| x_then <| x_retc <| x_then_ret <| x_ret (.bool true) (by kernel_rfl) (by kernel_rfl) ?_
    have e : Rp.void sn ns x a = (true) := by
      unfold Rp.void
      first | exact vb1o (by omega) (by omega) | exact vb1d (by omega) (by assumption) | exact vb2o (by omega) (by omega) | exact vb2s (by omega) (by omega) | exact vb1y (by omega) (by omega) (by assumption) (by omega) | exact vb1x (by omega) (by omega) (by assumption) (by omega) | exact vb2y (by omega) (by omega) (by omega) (by omega) | exact vb2x (by omega) (by omega) (by omega) (by omega) | exact vb0 (by omega) (by omega)
    exact ⟨by rw [e], H.below⟩
  have h1p := of_decide_eq_true h1
  refine q_b [.m, .l 0 1, .v (.bool (decide (a.2 < 0))), .v (.bool (decide (a.2 < 0)))] ?_
  cases h7 : decide (a.2 < 0)
  · skip
    have h7p := of_decide_eq_false h7
    refine q_b [.m, .l 0 1, .m, .n 1 0 12 34] <| q_callR (.int .i64 (sn : Int)) (by kernel_rfl) (fun _ => by kernel_rfl) (fun _ H => (Seen19 (pu := x.pu) (ru := x.ru) (pv := pv) (kv := kv) hL _ ((H.ro R0).pick [0] [.row (lv) 3 1 pg (List.map (Value.int .i64) (layL y r b o pg))] (by kernel_rfl)))) <| q_b [.m, .m, .l 1 10] <| q_ar ((sn : Int) + ((x.pu : Nat) : Int)) ⟨by omega, by omega⟩ (by kernel_rfl) (fun _ => by kernel_rfl) <| q_b [.v (.bool (decide (((sn : Int) + ((x.pu : Nat) : Int)) ≤ a.2))), .v (.bool (decide (((sn : Int) + ((x.pu : Nat) : Int)) ≤ a.2))), .v (.bool (decide (((sn : Int) + ((x.pu : Nat) : Int)) ≤ a.2)))] ?_
    cases h8 : decide (((sn : Int) + ((x.pu : Nat) : Int)) ≤ a.2)
    · skip
      have h8p := of_decide_eq_false h8
      refine q_b [.m, .n 1 0 12 34, .m, .l 0 1] ?_
      cases h9 : x.D.getD a.2.toNat false
      · skip
        refine q_callR (.bool false) (by kernel_rfl) (fun _ => by kernel_rfl) (fun _ H => (by have h := Dead19I (pu := x.pu) (ru := x.ru) (lv := lv) (kv := kv) hL hd hp8 hrk8 a.2 (by omega) _ ((H.ro R0).pick [1] [.row (pv) 142 2 (List.length Pg) (List.flatMap entL Pg)] (by kernel_rfl)); rw [h9] at h; exact h)) <| q_b [.m, .m] <| q_nil ?_
        clear H
        intro v5 H
        refine x_then <| x_f (by kernel_rfl) <| x_skipc <| x_then <| x_seq <| x_seq <| x_region ?_
        refine x_b H [.m, .l 0 0, .v (.bool (decide (a.1 = 2))), .v (.bool (decide (a.1 = 2)))] ?_
        cases h10 : decide (a.1 = 2)
        · skip
          have h10p := of_decide_eq_false h10
          refine x_b H [.k, .k, .k, .k, .k, .k, .k, .k, .k, .k, .k, .k, .k, .k, .k, .k, .k, .k, .k, .k, .m] <| x_nil <| z_fr 81 [(2, .pointer (some ⟨g1, 0, none⟩)), (3, .pointer (some ⟨g2, 0, none⟩)), (56, .bool false)] [] fun uf5 => x_then <| x_f (by kernel_rfl) <| x_skipc <| x_then ?_
          refine x_seq <| x_region <| x_b H [.m, .l 0 0, .v (.bool (!(decide (a.1 = 1)))), .v (.bool (!(decide (a.1 = 1))))] ?_
          rw [h1]
          refine x_b H [.k, .k, .k, .m, .m, .m, .m, .l 1 12, .m, .l 0 0, .v (.bool (decide (x.j.1 = a.1))), .v (.bool (decide (x.j.1 = a.1)))] ?_
          cases h11 : decide (x.j.1 = a.1)
          · skip
            have h11p := of_decide_eq_false h11
            refine x_b H [.k, .k, .k, .k, .k, .k, .m, .m, .m] <| x_nil <| x_then <| x_retc <| x_ret (.bool false) (by kernel_rfl) (by kernel_rfl) ?_
            have e : Rp.void sn ns x a = (false) := by
              unfold Rp.void
              first | exact vb1o (by omega) (by omega) | exact vb1d (by omega) (by assumption) | exact vb2o (by omega) (by omega) | exact vb2s (by omega) (by omega) | exact vb1y (by omega) (by omega) (by assumption) (by omega) | exact vb1x (by omega) (by omega) (by assumption) (by omega) | exact vb2y (by omega) (by omega) (by omega) (by omega) | exact vb2x (by omega) (by omega) (by omega) (by omega) | exact vb0 (by omega) (by omega)
            exact ⟨by rw [e], H.below⟩
          have h11p := of_decide_eq_true h11
          refine x_b H [.m, .m, .l 1 13, .m, .l 0 1, .v (.bool (decide (x.j.2.1 = a.2))), .v (.bool (decide (x.j.2.1 = a.2))), .v (.bool (decide (x.j.2.1 = a.2))), .v (.bool (decide (x.j.2.1 = a.2)))] <| x_nil <| x_then <| x_retc <| x_ret (.bool (decide (x.j.2.1 = a.2))) (by kernel_rfl) (by kernel_rfl) ?_
          have e : Rp.void sn ns x a = ((decide (x.j.2.1 = a.2))) := by
            unfold Rp.void
            first | exact vb1o (by omega) (by omega) | exact vb1d (by omega) (by assumption) | exact vb2o (by omega) (by omega) | exact vb2s (by omega) (by omega) | exact vb1y (by omega) (by omega) (by assumption) (by omega) | exact vb1x (by omega) (by omega) (by assumption) (by omega) | exact vb2y (by omega) (by omega) (by omega) (by omega) | exact vb2x (by omega) (by omega) (by omega) (by omega) | exact vb0 (by omega) (by omega)
          exact ⟨by rw [e], H.below⟩
        have h10p := of_decide_eq_true h10
        exfalso; omega
      refine q_callR (.bool true) (by kernel_rfl) (fun _ => by kernel_rfl) (fun _ H => (by have h := Dead19I (pu := x.pu) (ru := x.ru) (lv := lv) (kv := kv) hL hd hp8 hrk8 a.2 (by omega) _ ((H.ro R0).pick [1] [.row (pv) 142 2 (List.length Pg) (List.flatMap entL Pg)] (by kernel_rfl)); rw [h9] at h; exact h)) <| q_b [.m, .m] <| q_nil ?_
      clear H
      intro v6 H
      refine x_then <| x_t (by kernel_rfl) <| x_seq <| x_region <| x_b H [.m] <| x_nil <| x_then ?_
      refine x_retc <| x_then_ret <| x_ret (.bool true) (by kernel_rfl) (by kernel_rfl) ?_
      have e : Rp.void sn ns x a = (true) := by
        unfold Rp.void
        first | exact vb1o (by omega) (by omega) | exact vb1d (by omega) (by assumption) | exact vb2o (by omega) (by omega) | exact vb2s (by omega) (by omega) | exact vb1y (by omega) (by omega) (by assumption) (by omega) | exact vb1x (by omega) (by omega) (by assumption) (by omega) | exact vb2y (by omega) (by omega) (by omega) (by omega) | exact vb2x (by omega) (by omega) (by omega) (by omega) | exact vb0 (by omega) (by omega)
      exact ⟨by rw [e], H.below⟩
    have h8p := of_decide_eq_true h8
    refine q_b [.k, .k, .k, .k, .k, .m, .m] <| q_nil ?_
    clear H
    intro v7 H
    refine x_then <| x_t (by kernel_rfl) <| x_seq <| x_region <| x_b H [.m] <| x_nil <| x_then ?_
    refine x_retc <| x_then_ret <| x_ret (.bool true) (by kernel_rfl) (by kernel_rfl) ?_
    have e : Rp.void sn ns x a = (true) := by
      unfold Rp.void
      first | exact vb1o (by omega) (by omega) | exact vb1d (by omega) (by assumption) | exact vb2o (by omega) (by omega) | exact vb2s (by omega) (by omega) | exact vb1y (by omega) (by omega) (by assumption) (by omega) | exact vb1x (by omega) (by omega) (by assumption) (by omega) | exact vb2y (by omega) (by omega) (by omega) (by omega) | exact vb2x (by omega) (by omega) (by omega) (by omega) | exact vb0 (by omega) (by omega)
    exact ⟨by rw [e], H.below⟩
  have h7p := of_decide_eq_true h7
  refine q_b [.k, .k, .k, .k, .k, .k, .k, .k, .k, .k, .m, .m, .k, .k, .k, .k, .k, .m, .m] <| q_nil ?_
  clear H
  intro v8 H
  refine x_then <| x_t (by kernel_rfl) <| x_seq <| x_region <| x_b H [.m] <| x_nil <| x_then ?_
  refine x_retc <| x_then_ret <| x_ret (.bool true) (by kernel_rfl) (by kernel_rfl) ?_
  have e : Rp.void sn ns x a = (true) := by
    unfold Rp.void
    first | exact vb1o (by omega) (by omega) | exact vb1d (by omega) (by assumption) | exact vb2o (by omega) (by omega) | exact vb2s (by omega) (by omega) | exact vb1y (by omega) (by omega) (by assumption) (by omega) | exact vb1x (by omega) (by omega) (by assumption) (by omega) | exact vb2y (by omega) (by omega) (by omega) (by omega) | exact vb2x (by omega) (by omega) (by omega) (by omega) | exact vb0 (by omega) (by omega)
  exact ⟨by rw [e], H.below⟩
set_option maxRecDepth 100000 in
set_option maxHeartbeats 4000000 in
theorem Start21 {r s b o c y z : Int} {pg sn ns : Nat} (hL : Lay r s b o c y z pg sn ns) {x : Rp} (hx : RpOk r s b o c z sn pg ns x) {Pg Rk : List Ent} (hd : DocM pg sn ns x.L x.D x.S Pg Rk) (hp8 : Pg.length ≤ 4000) (hrk8 : Rk.length ≤ 4000) {lv pv kv : Value} {ad : Option Addr} {n ca : Nat} (a : Ent) (w0 : World) (hR : Ro w0 [.row (lv) 3 1 pg (List.map (Value.int .i64) (layL y r b o pg)), .row (pv) 142 2 (List.length Pg) (List.flatMap entL Pg), .row (kv) 142 2 (List.length Rk) (List.flatMap entL Rk)]) :
    Calls Tryz.prog 62 #[.agg #[.int .i64 r, .int .i64 s, .int .i64 b, .int .i64 o, .int .i64 c, .int .i64 y, .int .i64 z, lv, pv, kv, .int .i64 ((x.pu : Nat) : Int), .int .i64 ((x.ru : Nat) : Int), .int .i64 x.j.1, .int .i64 x.j.2.1, .int .i64 x.j.2.2.1, .int .i64 x.j.2.2.2, .slice ad n ca], .agg #[.int .i64 a.1, .int .i64 a.2]] w0 fun e w' => e = .returned (.tuple #[.agg #[.int .i64 r, .int .i64 s, .int .i64 b, .int .i64 o, .int .i64 c, .int .i64 y, .int .i64 z, lv, pv, kv, .int .i64 (((Rp.start r s z sn x a).pu : Nat) : Int), .int .i64 (((Rp.start r s z sn x a).ru : Nat) : Int), .int .i64 (((Rp.start r s z sn x a).j).1), .int .i64 (((Rp.start r s z sn x a).j).2.1), .int .i64 (((Rp.start r s z sn x a).j).2.2.1), .int .i64 (((Rp.start r s z sn x a).j).2.2.2), .slice ad n ca], .agg #[.int .i64 ((Rp.startV r s z sn x a).1), .int .i64 ((Rp.startV r s z sn x a).2.1), .int .i64 ((Rp.startV r s z sn x a).2.2)]]) ∧ Below w0.heap.size w0 w' := by
  refine z_enter Tryz.func62 rfl ?_
  have H := Hs.nil w0
  have R0 := hR
  have hm := hx.v.m
  have hpu := hm.hp
  have hru := hm.hr
  have hsn := hL.hsn
  have hz0 := hL.z0
  have hz2 := hL.z2
  have hpg2 := hL.pg2
  have hr8 := hL.r8
  have hs8 := hL.s8
  have hr1 := hL.r1
  have hs0 := hL.s0
  have hns := hL.hns
  refine x_seq <| x_region <| z_box H #[.int .i64 r, .int .i64 s, .int .i64 b, .int .i64 o, .int .i64 c, .int .i64 y, .int .i64 z, lv, pv, kv, .int .i64 ((x.pu : Nat) : Int), .int .i64 ((x.ru : Nat) : Int), .int .i64 x.j.1, .int .i64 x.j.2.1, .int .i64 x.j.2.2.1, .int .i64 x.j.2.2.2, .slice ad n ca] 39 (fun v1 g1 H => ?_)
  refine z_box H #[.int .i64 a.1, .int .i64 a.2] 80 (fun v2 g2 H => ?_)
  refine z_box H #[.int .i64 0, .int .i64 0, .int .i64 0, .int .i64 0, .int .i64 0, .int .i64 0, .int .i64 0, .slice none 0 0, .slice none 0 0, .slice none 0 0, .int .i64 0, .int .i64 0, .int .i64 0, .int .i64 0, .int .i64 0, .int .i64 0, .slice none 0 0] 39 (fun v3 g3 H => ?_)
  refine z_box H #[.int .i64 0, .int .i64 0, .int .i64 0] 114 (fun v4 g4 H => ?_)
  refine x_nil <| x_then <| x_seq <| x_seq <| x_region <| x_b H [.m, .l 2 0, .v (.bool (decide (a.1 = 1)))] <| x_nil ?_
  refine x_then ?_
  cases h1 : decide (a.1 = 1)
  · skip
    have h1p := of_decide_eq_false h1
    refine x_f (by kernel_rfl) <| x_skipc <| x_then <| x_seq <| x_seq <| x_region <| x_b H [.m, .m, .l 3 11, .m, .m, .m, .l 3 1, .v (.bool (decide (((x.ru : Nat) : Int) = s)))] ?_
    refine x_nil <| x_then ?_
    cases h2 : decide (((x.ru : Nat) : Int) = s)
    · skip
      have h2p := of_decide_eq_false h2
      refine x_f (by kernel_rfl) <| x_skipc <| x_then <| x_seq <| x_region <| x_b H [.m, .m, .m, .l 3 0, .m, .m, .l 3 11] <| z_ar (r + ((x.ru : Nat) : Int)) ?_
      refine x_b H [.m] <| x_nil <| x_then <| x_seq <| x_region <| x_b H [.m, .m, .l 3 11] <| x_eq (.int .i64 (((x.ru + 1) : Nat) : Int)) (show Value.int .i64 (IntKind.i64.wrap (((x.ru : Nat) : Int) + 1)) = Value.int .i64 (((x.ru + 1) : Nat) : Int) from congrArg (Value.int .i64) ((wrap_in (by omega) (by omega)).trans (by omega))) (by kernel_rfl) rfl (by kernel_rfl) ?_
      refine x_b H [.m, .m] <| z_store H 3 11 [.int .i64 (((x.ru + 1) : Nat) : Int)] (fun v5 H => ?_)
      refine x_nil <| x_then <| x_seq <| x_region <| x_b H [.m, .l 2 1, .m, .m, .m] <| z_store H 3 12 [.int .i64 2, .int .i64 a.2, .int .i64 (r + ((x.ru : Nat) : Int)), .int .i64 0] (fun v6 H => ?_)
      refine x_nil <| x_then <| x_seq <| z_region_s H 7 [2, 3] <| s_b [(0, .n 1 0 17 39), (1, .m), (2, .l 0 1), (3, .m), (4, .m)] 2 <| s_one 5 rfl (by kernel_rfl) rfl ?_
      clear H
      intro v7 H
      have h3o := (H.ro R0).rowOne 0 rfl
      have h4o := (H.ro R0).rowOne 1 rfl
      have h5o := (H.ro R0).rowOne 2 rfl
      refine z_store H 1 0 [.int .i64 r, .int .i64 s, .int .i64 b, .int .i64 o, .int .i64 c, .int .i64 y, .int .i64 z, lv, pv, kv, .int .i64 ((x.pu : Nat) : Int), .int .i64 (((x.ru + 1) : Nat) : Int), .int .i64 2, .int .i64 a.2, .int .i64 (r + ((x.ru : Nat) : Int)), .int .i64 0, .slice ad n ca] (fun v8 H => ?_) (h1 := (by simp only [List.all_cons, List.all_nil, h3o, h4o, h5o, Bool.and_true, Bool.true_and] <;> rfl))
      refine x_nil <| x_then <| z_next H [1, 2, 3] [1, 2] rfl <| s_one 6 rfl (by kernel_rfl) rfl ?_
      clear H
      intro v9 H
      refine z_store H 0 0 [.int .i64 4, .int .i64 a.2, .int .i64 (r + ((x.ru : Nat) : Int))] (fun v10 H => ?_)
      refine x_nil <| x_then <| z_next H [0, 1, 2, 3] [1, 2, 3] rfl <| s_done (by kernel_rfl) ?_
      clear H
      intro v11 H
      refine z_fr 81 [(4, .pointer (some ⟨g3, 0, none⟩)), (5, .pointer (some ⟨g4, 0, none⟩))] [] fun uf1 => x_then <| x_retc <| x_ret (.tuple #[.agg #[.int .i64 r, .int .i64 s, .int .i64 b, .int .i64 o, .int .i64 c, .int .i64 y, .int .i64 z, lv, pv, kv, .int .i64 ((x.pu : Nat) : Int), .int .i64 (((x.ru + 1) : Nat) : Int), .int .i64 2, .int .i64 a.2, .int .i64 (r + ((x.ru : Nat) : Int)), .int .i64 0, .slice ad n ca], .agg #[.int .i64 4, .int .i64 a.2, .int .i64 (r + ((x.ru : Nat) : Int))]]) (by kernel_rfl) (x_results [.cell 4 39, .cell 5 114] [.agg #[.int .i64 r, .int .i64 s, .int .i64 b, .int .i64 o, .int .i64 c, .int .i64 y, .int .i64 z, lv, pv, kv, .int .i64 ((x.pu : Nat) : Int), .int .i64 (((x.ru + 1) : Nat) : Int), .int .i64 2, .int .i64 a.2, .int .i64 (r + ((x.ru : Nat) : Int)), .int .i64 0, .slice ad n ca], .agg #[.int .i64 4, .int .i64 a.2, .int .i64 (r + ((x.ru : Nat) : Int))]] _ rfl (AllR.cell (by kernel_rfl) (ldR H 1 g3 0 #[.int .i64 r, .int .i64 s, .int .i64 b, .int .i64 o, .int .i64 c, .int .i64 y, .int .i64 z, lv, pv, kv, .int .i64 ((x.pu : Nat) : Int), .int .i64 (((x.ru + 1) : Nat) : Int), .int .i64 2, .int .i64 a.2, .int .i64 (r + ((x.ru : Nat) : Int)), .int .i64 0, .slice ad n ca] 39 [.int .i64 r, .int .i64 s, .int .i64 b, .int .i64 o, .int .i64 c, .int .i64 y, .int .i64 z, lv, pv, kv, .int .i64 ((x.pu : Nat) : Int), .int .i64 (((x.ru + 1) : Nat) : Int), .int .i64 2, .int .i64 a.2, .int .i64 (r + ((x.ru : Nat) : Int)), .int .i64 0, .slice ad n ca] (by kernel_rfl) (by kernel_rfl) (by kernel_rfl)) (AllR.cell (by kernel_rfl) (ldR H 0 g4 0 #[.int .i64 4, .int .i64 a.2, .int .i64 (r + ((x.ru : Nat) : Int))] 114 [.int .i64 4, .int .i64 a.2, .int .i64 (r + ((x.ru : Nat) : Int))] (by kernel_rfl) (by kernel_rfl) (by kernel_rfl)) AllR.nil)) (by kernel_rfl)) ?_
      have e1 : (Rp.start r s z sn x a) = { x with ru := x.ru + 1, j := (2, a.2, r + x.ru, 0) } := by unfold Rp.start; rw [if_neg h1p, if_neg h2p]
      have e2 : (Rp.startV r s z sn x a) = (4, a.2, r + x.ru) := by unfold Rp.startV; rw [if_neg h1p, if_neg h2p]
      rw [e1, e2]
      exact ⟨rfl, H.below⟩
    have h2p := of_decide_eq_true h2
    refine x_t (by kernel_rfl) <| x_seq <| z_region_s H 6 [2, 3] <| s_b [(0, .n 1 0 17 39), (1, .m), (2, .l 0 1), (3, .m)] 2 <| s_one 4 rfl (by kernel_rfl) rfl ?_
    clear H
    intro v12 H
    have h6o := (H.ro R0).rowOne 0 rfl
    have h7o := (H.ro R0).rowOne 1 rfl
    have h8o := (H.ro R0).rowOne 2 rfl
    refine z_store H 1 0 [.int .i64 r, .int .i64 s, .int .i64 b, .int .i64 o, .int .i64 c, .int .i64 y, .int .i64 z, lv, pv, kv, .int .i64 ((x.pu : Nat) : Int), .int .i64 ((x.ru : Nat) : Int), .int .i64 x.j.1, .int .i64 x.j.2.1, .int .i64 x.j.2.2.1, .int .i64 x.j.2.2.2, .slice ad n ca] (fun v13 H => ?_) (h1 := (by simp only [List.all_cons, List.all_nil, h6o, h7o, h8o, Bool.and_true, Bool.true_and] <;> rfl))
    refine x_nil <| x_then <| z_next H [1, 2, 3] [1, 2] rfl <| s_one 5 rfl (by kernel_rfl) rfl ?_
    clear H
    intro v14 H
    refine z_store H 0 0 [.int .i64 5, .int .i64 a.2, .int .i64 1] (fun v15 H => ?_)
    refine x_nil <| x_then <| z_next H [0, 1, 2, 3] [1, 2, 3] rfl <| s_done (by kernel_rfl) ?_
    clear H
    intro v16 H
    refine x_then <| x_retc <| x_then_ret <| x_ret (.tuple #[.agg #[.int .i64 r, .int .i64 s, .int .i64 b, .int .i64 o, .int .i64 c, .int .i64 y, .int .i64 z, lv, pv, kv, .int .i64 ((x.pu : Nat) : Int), .int .i64 ((x.ru : Nat) : Int), .int .i64 x.j.1, .int .i64 x.j.2.1, .int .i64 x.j.2.2.1, .int .i64 x.j.2.2.2, .slice ad n ca], .agg #[.int .i64 5, .int .i64 a.2, .int .i64 1]]) (by kernel_rfl) (x_results [.cell 4 39, .cell 5 114] [.agg #[.int .i64 r, .int .i64 s, .int .i64 b, .int .i64 o, .int .i64 c, .int .i64 y, .int .i64 z, lv, pv, kv, .int .i64 ((x.pu : Nat) : Int), .int .i64 ((x.ru : Nat) : Int), .int .i64 x.j.1, .int .i64 x.j.2.1, .int .i64 x.j.2.2.1, .int .i64 x.j.2.2.2, .slice ad n ca], .agg #[.int .i64 5, .int .i64 a.2, .int .i64 1]] _ rfl (AllR.cell (by kernel_rfl) (ldR H 1 g3 0 #[.int .i64 r, .int .i64 s, .int .i64 b, .int .i64 o, .int .i64 c, .int .i64 y, .int .i64 z, lv, pv, kv, .int .i64 ((x.pu : Nat) : Int), .int .i64 ((x.ru : Nat) : Int), .int .i64 x.j.1, .int .i64 x.j.2.1, .int .i64 x.j.2.2.1, .int .i64 x.j.2.2.2, .slice ad n ca] 39 [.int .i64 r, .int .i64 s, .int .i64 b, .int .i64 o, .int .i64 c, .int .i64 y, .int .i64 z, lv, pv, kv, .int .i64 ((x.pu : Nat) : Int), .int .i64 ((x.ru : Nat) : Int), .int .i64 x.j.1, .int .i64 x.j.2.1, .int .i64 x.j.2.2.1, .int .i64 x.j.2.2.2, .slice ad n ca] (by kernel_rfl) (by kernel_rfl) (by kernel_rfl)) (AllR.cell (by kernel_rfl) (ldR H 0 g4 0 #[.int .i64 5, .int .i64 a.2, .int .i64 1] 114 [.int .i64 5, .int .i64 a.2, .int .i64 1] (by kernel_rfl) (by kernel_rfl) (by kernel_rfl)) AllR.nil)) (by kernel_rfl)) ?_
    have e1 : (Rp.start r s z sn x a) = x := by unfold Rp.start; rw [if_neg h1p, if_pos h2p]
    have e2 : (Rp.startV r s z sn x a) = (5, a.2, 1) := by unfold Rp.startV; rw [if_neg h1p, if_pos h2p]
    rw [e1, e2]
    exact ⟨rfl, H.below⟩
  have h1p := of_decide_eq_true h1
  refine x_t (by kernel_rfl) <| x_seq <| x_seq <| x_region <| x_b H [.m, .m, .l 3 10, .m, .m, .l 3 6, .v (.bool (decide (((x.pu : Nat) : Int) = z)))] <| x_nil <| x_then ?_
  cases h9 : decide (((x.pu : Nat) : Int) = z)
  · skip
    have h9p := of_decide_eq_false h9
    refine x_f (by kernel_rfl) <| x_skipc <| x_then <| x_seq <| z_region_whole H <| q_b [.m, .n 3 0 12 34] <| q_callR (.int .i64 (sn : Int)) (by kernel_rfl) (fun _ => by kernel_rfl) (fun _ H => (Seen19 (pu := x.pu) (ru := x.ru) (pv := pv) (kv := kv) hL _ ((H.ro R0).pick [0] [.row (lv) 3 1 pg (List.map (Value.int .i64) (layL y r b o pg))] (by kernel_rfl)))) ?_
    refine q_b [.m, .m, .l 3 10] <| q_ar ((sn : Int) + ((x.pu : Nat) : Int)) ⟨by omega, by omega⟩ (by kernel_rfl) (fun _ => by kernel_rfl) <| q_b [.m] <| q_nil ?_
    clear H
    intro v17 H
    refine x_then <| x_seq <| x_region <| x_b H [.m, .m, .l 3 10] <| x_eq (.int .i64 (((x.pu + 1) : Nat) : Int)) (show Value.int .i64 (IntKind.i64.wrap (((x.pu : Nat) : Int) + 1)) = Value.int .i64 (((x.pu + 1) : Nat) : Int) from congrArg (Value.int .i64) ((wrap_in (by omega) (by omega)).trans (by omega))) (by kernel_rfl) rfl (by kernel_rfl) <| x_b H [.m, .m] <| z_store H 3 10 [.int .i64 (((x.pu + 1) : Nat) : Int)] (fun v18 H => ?_)
    refine x_nil <| x_then <| x_seq <| x_region <| x_b H [.m, .l 2 1, .m, .m, .m] <| z_store H 3 12 [.int .i64 1, .int .i64 a.2, .int .i64 ((sn : Int) + ((x.pu : Nat) : Int)), .int .i64 0] (fun v19 H => ?_)
    refine x_nil <| x_then <| x_seq <| z_region_s H 7 [2, 3] <| s_b [(0, .n 1 0 17 39), (1, .m), (2, .l 0 1), (3, .m), (4, .m)] 2 <| s_one 5 rfl (by kernel_rfl) rfl ?_
    clear H
    intro v20 H
    have h10o := (H.ro R0).rowOne 0 rfl
    have h11o := (H.ro R0).rowOne 1 rfl
    have h12o := (H.ro R0).rowOne 2 rfl
    refine z_store H 1 0 [.int .i64 r, .int .i64 s, .int .i64 b, .int .i64 o, .int .i64 c, .int .i64 y, .int .i64 z, lv, pv, kv, .int .i64 (((x.pu + 1) : Nat) : Int), .int .i64 ((x.ru : Nat) : Int), .int .i64 1, .int .i64 a.2, .int .i64 ((sn : Int) + ((x.pu : Nat) : Int)), .int .i64 0, .slice ad n ca] (fun v21 H => ?_) (h1 := (by simp only [List.all_cons, List.all_nil, h10o, h11o, h12o, Bool.and_true, Bool.true_and] <;> rfl))
    refine x_nil <| x_then <| z_next H [1, 2, 3] [1, 2] rfl <| s_one 6 rfl (by kernel_rfl) rfl ?_
    clear H
    intro v22 H
    refine z_store H 0 0 [.int .i64 3, .int .i64 a.2, .int .i64 ((sn : Int) + ((x.pu : Nat) : Int))] (fun v23 H => ?_)
    refine x_nil <| x_then <| z_next H [0, 1, 2, 3] [1, 2, 3] rfl <| s_done (by kernel_rfl) ?_
    clear H
    intro v24 H
    refine z_fr 81 [(4, .pointer (some ⟨g3, 0, none⟩)), (5, .pointer (some ⟨g4, 0, none⟩))] [] fun uf2 => x_then <| x_retc <| x_then_ret <| x_ret (.tuple #[.agg #[.int .i64 r, .int .i64 s, .int .i64 b, .int .i64 o, .int .i64 c, .int .i64 y, .int .i64 z, lv, pv, kv, .int .i64 (((x.pu + 1) : Nat) : Int), .int .i64 ((x.ru : Nat) : Int), .int .i64 1, .int .i64 a.2, .int .i64 ((sn : Int) + ((x.pu : Nat) : Int)), .int .i64 0, .slice ad n ca], .agg #[.int .i64 3, .int .i64 a.2, .int .i64 ((sn : Int) + ((x.pu : Nat) : Int))]]) (by kernel_rfl) (x_results [.cell 4 39, .cell 5 114] [.agg #[.int .i64 r, .int .i64 s, .int .i64 b, .int .i64 o, .int .i64 c, .int .i64 y, .int .i64 z, lv, pv, kv, .int .i64 (((x.pu + 1) : Nat) : Int), .int .i64 ((x.ru : Nat) : Int), .int .i64 1, .int .i64 a.2, .int .i64 ((sn : Int) + ((x.pu : Nat) : Int)), .int .i64 0, .slice ad n ca], .agg #[.int .i64 3, .int .i64 a.2, .int .i64 ((sn : Int) + ((x.pu : Nat) : Int))]] _ rfl (AllR.cell (by kernel_rfl) (ldR H 1 g3 0 #[.int .i64 r, .int .i64 s, .int .i64 b, .int .i64 o, .int .i64 c, .int .i64 y, .int .i64 z, lv, pv, kv, .int .i64 (((x.pu + 1) : Nat) : Int), .int .i64 ((x.ru : Nat) : Int), .int .i64 1, .int .i64 a.2, .int .i64 ((sn : Int) + ((x.pu : Nat) : Int)), .int .i64 0, .slice ad n ca] 39 [.int .i64 r, .int .i64 s, .int .i64 b, .int .i64 o, .int .i64 c, .int .i64 y, .int .i64 z, lv, pv, kv, .int .i64 (((x.pu + 1) : Nat) : Int), .int .i64 ((x.ru : Nat) : Int), .int .i64 1, .int .i64 a.2, .int .i64 ((sn : Int) + ((x.pu : Nat) : Int)), .int .i64 0, .slice ad n ca] (by kernel_rfl) (by kernel_rfl) (by kernel_rfl)) (AllR.cell (by kernel_rfl) (ldR H 0 g4 0 #[.int .i64 3, .int .i64 a.2, .int .i64 ((sn : Int) + ((x.pu : Nat) : Int))] 114 [.int .i64 3, .int .i64 a.2, .int .i64 ((sn : Int) + ((x.pu : Nat) : Int))] (by kernel_rfl) (by kernel_rfl) (by kernel_rfl)) AllR.nil)) (by kernel_rfl)) ?_
    have e1 : (Rp.start r s z sn x a) = { x with pu := x.pu + 1, j := (1, a.2, (sn : Int) + x.pu, 0) } := by unfold Rp.start; rw [if_pos h1p, if_neg h9p]
    have e2 : (Rp.startV r s z sn x a) = (3, a.2, (sn : Int) + x.pu) := by unfold Rp.startV; rw [if_pos h1p, if_neg h9p]
    rw [e1, e2]
    exact ⟨rfl, H.below⟩
  have h9p := of_decide_eq_true h9
  refine x_t (by kernel_rfl) <| x_seq <| z_region_s H 6 [2, 3] <| s_b [(0, .n 1 0 17 39), (1, .m), (2, .l 0 1), (3, .m)] 2 <| s_one 4 rfl (by kernel_rfl) rfl ?_
  clear H
  intro v25 H
  have h13o := (H.ro R0).rowOne 0 rfl
  have h14o := (H.ro R0).rowOne 1 rfl
  have h15o := (H.ro R0).rowOne 2 rfl
  refine z_store H 1 0 [.int .i64 r, .int .i64 s, .int .i64 b, .int .i64 o, .int .i64 c, .int .i64 y, .int .i64 z, lv, pv, kv, .int .i64 ((x.pu : Nat) : Int), .int .i64 ((x.ru : Nat) : Int), .int .i64 x.j.1, .int .i64 x.j.2.1, .int .i64 x.j.2.2.1, .int .i64 x.j.2.2.2, .slice ad n ca] (fun v26 H => ?_) (h1 := (by simp only [List.all_cons, List.all_nil, h13o, h14o, h15o, Bool.and_true, Bool.true_and] <;> rfl))
  refine x_nil <| x_then <| z_next H [1, 2, 3] [1, 2] rfl <| s_one 5 rfl (by kernel_rfl) rfl ?_
  clear H
  intro v27 H
  refine z_store H 0 0 [.int .i64 5, .int .i64 a.2, .int .i64 0] (fun v28 H => ?_)
  refine x_nil <| x_then <| z_next H [0, 1, 2, 3] [1, 2, 3] rfl <| s_done (by kernel_rfl) ?_
  clear H
  intro v29 H
  refine x_then <| x_retc <| x_then_ret <| x_then_ret <| x_ret (.tuple #[.agg #[.int .i64 r, .int .i64 s, .int .i64 b, .int .i64 o, .int .i64 c, .int .i64 y, .int .i64 z, lv, pv, kv, .int .i64 ((x.pu : Nat) : Int), .int .i64 ((x.ru : Nat) : Int), .int .i64 x.j.1, .int .i64 x.j.2.1, .int .i64 x.j.2.2.1, .int .i64 x.j.2.2.2, .slice ad n ca], .agg #[.int .i64 5, .int .i64 a.2, .int .i64 0]]) (by kernel_rfl) (x_results [.cell 4 39, .cell 5 114] [.agg #[.int .i64 r, .int .i64 s, .int .i64 b, .int .i64 o, .int .i64 c, .int .i64 y, .int .i64 z, lv, pv, kv, .int .i64 ((x.pu : Nat) : Int), .int .i64 ((x.ru : Nat) : Int), .int .i64 x.j.1, .int .i64 x.j.2.1, .int .i64 x.j.2.2.1, .int .i64 x.j.2.2.2, .slice ad n ca], .agg #[.int .i64 5, .int .i64 a.2, .int .i64 0]] _ rfl (AllR.cell (by kernel_rfl) (ldR H 1 g3 0 #[.int .i64 r, .int .i64 s, .int .i64 b, .int .i64 o, .int .i64 c, .int .i64 y, .int .i64 z, lv, pv, kv, .int .i64 ((x.pu : Nat) : Int), .int .i64 ((x.ru : Nat) : Int), .int .i64 x.j.1, .int .i64 x.j.2.1, .int .i64 x.j.2.2.1, .int .i64 x.j.2.2.2, .slice ad n ca] 39 [.int .i64 r, .int .i64 s, .int .i64 b, .int .i64 o, .int .i64 c, .int .i64 y, .int .i64 z, lv, pv, kv, .int .i64 ((x.pu : Nat) : Int), .int .i64 ((x.ru : Nat) : Int), .int .i64 x.j.1, .int .i64 x.j.2.1, .int .i64 x.j.2.2.1, .int .i64 x.j.2.2.2, .slice ad n ca] (by kernel_rfl) (by kernel_rfl) (by kernel_rfl)) (AllR.cell (by kernel_rfl) (ldR H 0 g4 0 #[.int .i64 5, .int .i64 a.2, .int .i64 0] 114 [.int .i64 5, .int .i64 a.2, .int .i64 0] (by kernel_rfl) (by kernel_rfl) (by kernel_rfl)) AllR.nil)) (by kernel_rfl)) ?_
  have e1 : (Rp.start r s z sn x a) = x := by unfold Rp.start; rw [if_pos h1p, if_pos h9p]
  have e2 : (Rp.startV r s z sn x a) = (5, a.2, 0) := by unfold Rp.startV; rw [if_pos h1p, if_pos h9p]
  rw [e1, e2]
  exact ⟨rfl, H.below⟩
set_option maxRecDepth 100000 in
set_option maxHeartbeats 4000000 in
theorem Count21 {r s b o c y z : Int} {pg sn ns : Nat} (hL : Lay r s b o c y z pg sn ns) {x : Rp} (nx : Int) (hk : x.j.1 = 1 ∨ x.j.1 = 2) {ad : Option Addr} {n ca : Nat} {lv pv kv : Value} (w0 : World) :
    Calls Tryz.prog 65 #[.agg #[.int .i64 r, .int .i64 s, .int .i64 b, .int .i64 o, .int .i64 c, .int .i64 y, .int .i64 z, lv, pv, kv, .int .i64 ((x.pu : Nat) : Int), .int .i64 ((x.ru : Nat) : Int), .int .i64 x.j.1, .int .i64 x.j.2.1, .int .i64 x.j.2.2.1, .int .i64 nx, .slice ad n ca]] w0 fun e w' => e = .returned (.int .i64 (Rp.cnt b o c x.j)) ∧ Below w0.heap.size w0 w' := by
  refine z_enter Tryz.func65 rfl ?_
  have H := Hs.nil w0
  have hg := geom_of hL
  obtain ⟨⟨d1, d2⟩, ⟨d3, d4⟩, ⟨d5, d6⟩, ⟨d7, d8⟩, ⟨d9, d10⟩, _⟩ := geom_bd hg
  obtain ⟨u1, u2⟩ := mul_bd (x := b) (y := o) (p := 16) (q := 1024) (by omega) (by omega) (by omega) (by omega)
  obtain ⟨u3, u4⟩ := mul_bd (x := b * o) (y := c) (p := 16384) (q := 64) (by omega) (by omega) (by omega) (by omega)
  refine x_seq <| x_region <| z_box H #[.int .i64 r, .int .i64 s, .int .i64 b, .int .i64 o, .int .i64 c, .int .i64 y, .int .i64 z, lv, pv, kv, .int .i64 ((x.pu : Nat) : Int), .int .i64 ((x.ru : Nat) : Int), .int .i64 x.j.1, .int .i64 x.j.2.1, .int .i64 x.j.2.2.1, .int .i64 nx, .slice ad n ca] 39 (fun v1 g1 H => ?_)
  refine x_b H [.m] <| x_nil <| x_then <| x_seq <| x_seq <| x_region <| x_b H [.m, .m, .l 0 12, .v (.bool (decide (x.j.1 = 1)))] ?_
  refine x_nil <| x_then ?_
  cases h1 : decide (x.j.1 = 1)
  · skip
    have h1p := of_decide_eq_false h1
    refine x_f (by kernel_rfl) <| x_skipc <| x_then <| x_seq <| x_region <| x_b H [.m, .m, .m, .l 0 2, .m, .m, .m, .l 0 3] <| z_ar (b * o) ?_
    refine x_b H [.m, .m, .m, .l 0 4] <| z_ar ((b * o) * c) <| x_b H [.m] <| x_nil <| x_then <| x_retc <| x_ret (.int .i64 ((b * o) * c)) (by kernel_rfl) (by kernel_rfl) ?_
    exact ⟨by unfold Rp.cnt; rw [if_neg h1p, if_pos (by omega)], H.below⟩
  have h1p := of_decide_eq_true h1
  refine x_t (by kernel_rfl) <| x_seq <| x_region <| x_b H [.m, .m, .m, .l 0 4, .m] <| x_nil <| x_then <| x_retc ?_
  refine x_then_ret <| x_ret (.int .i64 c) (by kernel_rfl) (by kernel_rfl) ?_
  exact ⟨by unfold Rp.cnt; rw [if_pos h1p], H.below⟩
set_option maxRecDepth 100000 in
set_option maxHeartbeats 4000000 in
theorem ask21 {M : List Nat} {r s b o c y z : Int} {pg sn ns : Nat} (hL : Lay r s b o c y z pg sn ns) {x : Rp} (hx : RpOk r s b o c z sn pg ns x) {g : D21} (hg : D21.Ok pg sn ns x g) (hp8 : g.Pg.length ≤ 4000) (hrk8 : g.Rk.length ≤ 4000) {lv : Value} (aq : Ent) (w0 : World) (H0 : Hs M w0 w0 [.row (lv) 3 1 pg (List.map (Value.int .i64) (layL y r b o pg)), .row (g.pv) 142 2 (List.length g.Pg) (List.flatMap entL g.Pg), .row (g.kv) 142 2 (List.length g.Rk) (List.flatMap entL g.Rk), .row (g.fv) 80 2 (List.length g.F) (List.flatMap entL g.F)]) :
    Calls Tryz.prog 22 #[.agg #[.int .i64 r, .int .i64 s, .int .i64 b, .int .i64 o, .int .i64 c, .int .i64 y, .int .i64 z, lv, g.pv, g.kv, .int .i64 ((x.pu : Nat) : Int), .int .i64 ((x.ru : Nat) : Int), .int .i64 x.j.1, .int .i64 x.j.2.1, .int .i64 x.j.2.2.1, .int .i64 x.j.2.2.2, .slice g.ad g.n g.c], .agg #[.int .i64 aq.1, .int .i64 aq.2]] w0 fun e w' => ∃ u : D21 × Value, e = .returned (.tuple #[.agg #[.int .i64 r, .int .i64 s, .int .i64 b, .int .i64 o, .int .i64 c, .int .i64 y, .int .i64 z, lv, u.1.pv, u.1.kv, .int .i64 (((Rp.ask r s z sn ns x aq).pu : Nat) : Int), .int .i64 (((Rp.ask r s z sn ns x aq).ru : Nat) : Int), .int .i64 (((Rp.ask r s z sn ns x aq).j).1), .int .i64 (((Rp.ask r s z sn ns x aq).j).2.1), .int .i64 (((Rp.ask r s z sn ns x aq).j).2.2.1), .int .i64 (((Rp.ask r s z sn ns x aq).j).2.2.2), .slice u.1.ad u.1.n u.1.c], u.2]) ∧ Hs M w0 w' [.row (lv) 3 1 pg (List.map (Value.int .i64) (layL y r b o pg)), .row (u.1.pv) 142 2 (List.length u.1.Pg) (List.flatMap entL u.1.Pg), .row (u.1.kv) 142 2 (List.length u.1.Rk) (List.flatMap entL u.1.Rk), .row (u.1.fv) 80 2 (List.length u.1.F) (List.flatMap entL u.1.F), .row (u.2) 114 3 (List.length (Rp.askV r s z sn ns x aq)) (List.flatMap int3L (Rp.askV r s z sn ns x aq))] ∧ (D21.Ok pg sn ns (Rp.ask r s z sn ns x aq) u.1 ∧ u.1.Pg = g.Pg ∧ u.1.Rk = g.Rk) := by
  refine z_enter Tryz.func22 rfl ?_
  have H := H0
  have hm := hx.v.m
  have hpu := hm.hp
  have hru := hm.hr
  have hsn := hL.hsn
  have hz0 := hL.z0
  have hz2 := hL.z2
  have hpg2 := hL.pg2
  have hr8 := hL.r8
  have hs8 := hL.s8
  have hr1 := hL.r1
  have hs0 := hL.s0
  have hns := hL.hns
  have hql := hx.ql
  have hqn := hg.a.1
  refine x_seq <| x_region <| z_box H #[.int .i64 r, .int .i64 s, .int .i64 b, .int .i64 o, .int .i64 c, .int .i64 y, .int .i64 z, lv, g.pv, g.kv, .int .i64 ((x.pu : Nat) : Int), .int .i64 ((x.ru : Nat) : Int), .int .i64 x.j.1, .int .i64 x.j.2.1, .int .i64 x.j.2.2.1, .int .i64 x.j.2.2.2, .slice g.ad g.n g.c] 39 (fun v1 g1 H => ?_)
  refine z_box H #[.int .i64 aq.1, .int .i64 aq.2] 80 (fun v2 g2 H => ?_)
  refine z_box H #[.int .i64 0, .int .i64 0, .int .i64 0, .int .i64 0, .int .i64 0, .int .i64 0, .int .i64 0, .slice none 0 0, .slice none 0 0, .slice none 0 0, .int .i64 0, .int .i64 0, .int .i64 0, .int .i64 0, .int .i64 0, .int .i64 0, .slice none 0 0] 39 (fun v3 g3 H => ?_)
  refine x_b H [.m] <| x_nil <| x_then <| x_seq <| x_seq <| x_region <| x_b H [.n 2 0 17 39, .n 1 0 2 80] ?_
  refine z_callB (v := .bool (Rp.void sn ns x aq)) H (Void21 (ad := g.ad) (n := g.n) (ca := g.c) hL hx hg.d hp8 hrk8 aq _ (H.ro1 [3, 4, 5])) fun v4 H => x_nil <| x_then ?_
  cases h1 : Rp.void sn ns x aq
  · skip
    have hk2 := void_kind h1
    refine x_f (by kernel_rfl) <| x_skipc <| x_then <| x_seq <| x_seq <| x_region <| x_b H [.m, .m, .l 2 12, .v (.bool (decide (x.j.1 = 0)))] ?_
    refine x_nil <| x_then ?_
    cases h2 : decide (x.j.1 = 0)
    · skip
      have h2p := of_decide_eq_false h2
      refine x_f (by kernel_rfl) <| x_skipc <| x_then <| x_seq <| x_seq <| x_region <| x_b H [.m] ?_
      refine x_nil <| x_then <| x_block <| x_loop (G := Nat) (fun (k : Nat) a w' => ∃ uf1 : Nat → Value, a = frm 64 uf1 [(2, .pointer (some ⟨g1, 0, none⟩)), (3, .pointer (some ⟨g2, 0, none⟩)), (4, .pointer (some ⟨g3, 0, none⟩)), (8, .int .i64 (k : Int))] [] ∧ Hs M w0 w' [.blk g3 #[.int .i64 0, .int .i64 0, .int .i64 0, .int .i64 0, .int .i64 0, .int .i64 0, .int .i64 0, .slice none 0 0, .slice none 0 0, .slice none 0 0, .int .i64 0, .int .i64 0, .int .i64 0, .int .i64 0, .int .i64 0, .int .i64 0, .slice none 0 0] 39, .blk g2 #[.int .i64 aq.1, .int .i64 aq.2] 80, .blk g1 #[.int .i64 r, .int .i64 s, .int .i64 b, .int .i64 o, .int .i64 c, .int .i64 y, .int .i64 z, lv, g.pv, g.kv, .int .i64 ((x.pu : Nat) : Int), .int .i64 ((x.ru : Nat) : Int), .int .i64 x.j.1, .int .i64 x.j.2.1, .int .i64 x.j.2.2.1, .int .i64 x.j.2.2.2, .slice g.ad g.n g.c] 39, .row (lv) 3 1 pg (List.map (Value.int .i64) (layL y r b o pg)), .row (g.pv) 142 2 (List.length g.Pg) (List.flatMap entL g.Pg), .row (g.kv) 142 2 (List.length g.Rk) (List.flatMap entL g.Rk), .row (g.fv) 80 2 (List.length g.F) (List.flatMap entL g.F)] ∧ (k ≤ g.n) ∧ (∀ j, j < k → ¬ x.Q.getD j (0, 0) = aq)) (fun (k : Nat) => g.n - k) 0 ⟨_, frm_of, H, (Nat.zero_le _), (fun j hj => absurd hj (Nat.not_lt_zero _))⟩ ?_
      clear H
      rintro k _ v5 ⟨uf1, rfl, H, r1, r2⟩
      refine x_seq <| x_seq <| x_region <| x_b H [.m, .m, .l 2 16, .m, .v (.bool (decide ((k : Int) < ((g.n : Nat) : Int))))] <| x_nil <| x_then ?_
      cases h3 : decide ((k : Int) < ((g.n : Nat) : Int))
      · skip
        have h3p := of_decide_eq_false h3
        refine x_f (by kernel_rfl) <| x_exit <| x_then_exit <| x_then_exit <| x_blk_exit <| x_then <| x_seq ?_
        refine x_seq <| x_region <| x_b H [.m, .l 2 16, .m, .v (.bool (decide (256 ≤ ((g.n : Nat) : Int))))] <| x_nil <| x_then ?_
        cases h4 : decide (256 ≤ ((g.n : Nat) : Int))
        · skip
          have h4p := of_decide_eq_false h4
          refine x_f (by kernel_rfl) <| x_skipc <| x_then <| x_seq <| x_region <| x_b H [.m] <| x_nil ?_
          refine x_then <| x_seq <| x_region <| x_b H [.m, .m, .l 2 16] ?_
          replace H := H.nilRow 80 2
          refine x_appendSrc H 0 (.slice none 0 0) 37 80 2 16 0 (.agg #[.int .i64 0, .int .i64 0]) (List.flatMap entL ([] : List Ent)) (.slice g.ad g.n g.c) g.n (List.flatMap entL x.Q) rfl (hg.a.src ((H.ok 7 _ rfl : Go.World.ownsRow _ 0 80 2 _ _ _))) (by kernel_rfl) (by kernel_rfl) (by kernel_rfl) (by decide) (oneCellFlat entOne _) (by unfold maxLen; omega) (by omega) (by kernel_rfl) rfl (by kernel_rfl) ?_
          clear H
          intro v6 vr57 H
          rw [show (List.flatMap entL ([] : List Ent)) ++ (List.flatMap entL x.Q) = (List.flatMap entL x.Q) from (by simp)] at H
          rw [show (0 + g.n : Nat) = (List.length x.Q) from (by have := hg.a.1; omega)] at H
          refine x_b H [.m] <| x_nil <| x_then <| x_seq <| x_region <| x_b H [.m, .n 2 0 2 80] <| x_box' H #[.int .i64 aq.1, .int .i64 aq.2] 80 1 (by kernel_rfl) rfl (by kernel_rfl) ?_
          clear H
          intro v7 g4 H
          refine x_append H 1 (vr57) 37 80 2 16 (List.length x.Q) (.agg #[.int .i64 0, .int .i64 0]) (List.flatMap entL x.Q) ⟨g4, 0, none⟩ 1 1 [.int .i64 aq.1, .int .i64 aq.2] rfl (by kernel_rfl) (by kernel_rfl) rfl (by decide) (by decide) rfl (fun j u hj => by rw [add_none]; exact cellOf (H.blk 0 rfl) (by simpa using hj)) (List.all_eq_true.1 (by kernel_rfl)) (by unfold maxLen; omega) (by omega) (by kernel_rfl) rfl (by kernel_rfl) ?_
          clear H
          intro v8 g5 c5 hc5 H
          rw [show (((List.length x.Q) + 1) : Nat) = (List.length (x.Q ++ [aq])) from (by simp)] at H ⊢
          rw [show (List.flatMap entL x.Q) ++ [.int .i64 aq.1, .int .i64 aq.2] = (List.flatMap entL (x.Q ++ [aq])) from (by rw [List.flatMap_append]; rfl)] at H
          replace H := H.pk [1, 2, 3, 4, 5, 6, 7, 8]
          refine x_b H [.m] <| z_store H 3 16 [.slice (some ⟨g5, 0, none⟩) (List.length (x.Q ++ [aq])) c5] (fun v9 H => ?_)
          refine x_nil <| x_then <| x_seq <| x_region <| x_b H [.n 3 0 17 39] ?_
          have h5o := H.rowOne 4 rfl
          have h6o := H.rowOne 5 rfl
          have h7o := H.rowOne 6 rfl
          refine z_store H 1 0 [.int .i64 r, .int .i64 s, .int .i64 b, .int .i64 o, .int .i64 c, .int .i64 y, .int .i64 z, lv, g.pv, g.kv, .int .i64 ((x.pu : Nat) : Int), .int .i64 ((x.ru : Nat) : Int), .int .i64 x.j.1, .int .i64 x.j.2.1, .int .i64 x.j.2.2.1, .int .i64 x.j.2.2.2, .slice (some ⟨g5, 0, none⟩) (List.length (x.Q ++ [aq])) c5] (fun v10 H => ?_) (h1 := (by simp only [List.all_cons, List.all_nil, h5o, h6o, h7o, Bool.and_true, Bool.true_and] <;> rfl))
          refine x_b H [.m] <| x_nil <| x_then <| x_retc <| x_ret (.tuple #[.agg #[.int .i64 r, .int .i64 s, .int .i64 b, .int .i64 o, .int .i64 c, .int .i64 y, .int .i64 z, lv, g.pv, g.kv, .int .i64 ((x.pu : Nat) : Int), .int .i64 ((x.ru : Nat) : Int), .int .i64 x.j.1, .int .i64 x.j.2.1, .int .i64 x.j.2.2.1, .int .i64 x.j.2.2.2, .slice (some ⟨g5, 0, none⟩) (List.length (x.Q ++ [aq])) c5], .slice none 0 0]) (by kernel_rfl) (x_results [.cell 4 39, .tmp 5] [.agg #[.int .i64 r, .int .i64 s, .int .i64 b, .int .i64 o, .int .i64 c, .int .i64 y, .int .i64 z, lv, g.pv, g.kv, .int .i64 ((x.pu : Nat) : Int), .int .i64 ((x.ru : Nat) : Int), .int .i64 x.j.1, .int .i64 x.j.2.1, .int .i64 x.j.2.2.1, .int .i64 x.j.2.2.2, .slice (some ⟨g5, 0, none⟩) (List.length (x.Q ++ [aq])) c5], .slice none 0 0] _ rfl (AllR.cell (by kernel_rfl) (ldR H 1 g3 0 #[.int .i64 r, .int .i64 s, .int .i64 b, .int .i64 o, .int .i64 c, .int .i64 y, .int .i64 z, lv, g.pv, g.kv, .int .i64 ((x.pu : Nat) : Int), .int .i64 ((x.ru : Nat) : Int), .int .i64 x.j.1, .int .i64 x.j.2.1, .int .i64 x.j.2.2.1, .int .i64 x.j.2.2.2, .slice (some ⟨g5, 0, none⟩) (List.length (x.Q ++ [aq])) c5] 39 [.int .i64 r, .int .i64 s, .int .i64 b, .int .i64 o, .int .i64 c, .int .i64 y, .int .i64 z, lv, g.pv, g.kv, .int .i64 ((x.pu : Nat) : Int), .int .i64 ((x.ru : Nat) : Int), .int .i64 x.j.1, .int .i64 x.j.2.1, .int .i64 x.j.2.2.1, .int .i64 x.j.2.2.2, .slice (some ⟨g5, 0, none⟩) (List.length (x.Q ++ [aq])) c5] (by kernel_rfl) (by kernel_rfl) (by kernel_rfl)) (AllR.tmp (by kernel_rfl) AllR.nil)) (by kernel_rfl)) ?_
          have hm : ¬ aq ∈ x.Q := fun hm => by obtain ⟨j, hj, e⟩ := List.getElem_of_mem hm; exact r2 j (by have := hg.a.1; omega) (by simp [List.getD, hj, e])
          have eq1 : onQ x.Q aq = (x.Q ++ [aq]) := by unfold onQ; rw [if_neg hm, if_pos (by have := hg.a.1; omega)]
          have eq2 : onE x.Q aq = 0 := by unfold onE; rw [if_neg hm, if_pos (by have := hg.a.1; omega)]
          have e1 : (Rp.ask r s z sn ns x aq) = { x with Q := (x.Q ++ [aq]) } := by unfold Rp.ask; rw [if_neg (by rw [h1]; decide), if_neg h2p]; rw [eq1]
          have e2 : (Rp.askV r s z sn ns x aq) = [] := by unfold Rp.askV; rw [if_neg (by rw [h1]; decide), if_neg h2p]; rw [eq2]; rfl
          rw [e1, e2]
          replace H := H.nilRow 114 3
          have hoks : AskAt (.slice (some ⟨g5, 0, none⟩) (List.length (x.Q ++ [aq])) c5) (x.Q ++ [aq]) (some ⟨g5, 0, none⟩) (List.length (x.Q ++ [aq])) c5 (x.Q ++ [aq]) := ⟨rfl, by first | omega | (simp; omega), fun h => (by cases h), fun _ => ⟨g5, c5, 0, rfl, by simp, by simp⟩⟩
          replace H := H.pk [5, 6, 7, 1, 0]
          exact ⟨({ g with fv := .slice (some ⟨g5, 0, none⟩) (List.length (x.Q ++ [aq])) c5, F := x.Q ++ [aq], ad := some ⟨g5, 0, none⟩, n := List.length (x.Q ++ [aq]), c := c5 }, .slice none 0 0), rfl, H, ⟨hg.d, hoks⟩, rfl, rfl⟩
        have h4p := of_decide_eq_true h4
        refine x_t (by kernel_rfl) <| x_seq <| z_region_s H 10 [1, 2, 3, 4, 5, 6] <| s_b [(0, .n 1 0 17 39), (1, .m), (2, .l 0 1), (3, .m), (4, .l 0 0)] 5 <| s_y 5 (y_ar (aq.1 - 1) ⟨by omega, by omega⟩ (by kernel_rfl) (fun _ => by kernel_rfl)) <| s_b [(6, .m)] 3 <| s_two 7 8 rfl rfl (by kernel_rfl) rfl rfl ?_ ?_
        · skip
          clear H
          intro v11 H
          refine x_box' H #[.int .i64 5, .int .i64 aq.2, .int .i64 (aq.1 - 1)] 114 1 (by kernel_rfl) rfl (by kernel_rfl) ?_
          clear H
          intro v12 g6 H
          refine x_nil <| x_then <| z_next H [0, 2, 3, 4, 5, 6, 7] [1, 2, 3, 4, 5, 6] rfl <| s_one 8 rfl (by kernel_rfl) rfl ?_
          clear H
          intro v13 H
          have h8o := H.rowOne 4 rfl
          have h9o := H.rowOne 5 rfl
          have h10o := H.rowOne 6 rfl
          refine z_store H 1 0 [.int .i64 r, .int .i64 s, .int .i64 b, .int .i64 o, .int .i64 c, .int .i64 y, .int .i64 z, lv, g.pv, g.kv, .int .i64 ((x.pu : Nat) : Int), .int .i64 ((x.ru : Nat) : Int), .int .i64 x.j.1, .int .i64 x.j.2.1, .int .i64 x.j.2.2.1, .int .i64 x.j.2.2.2, .slice g.ad g.n g.c] (fun v14 H => ?_) (h1 := (by simp only [List.all_cons, List.all_nil, h8o, h9o, h10o, Bool.and_true, Bool.true_and] <;> rfl))
          refine x_nil <| x_then <| z_next H [0, 1, 2, 3, 4, 5, 6, 7] [0, 2, 3, 4, 5, 6, 7] rfl <| s_b [(9, .m)] 0 <| s_done (by kernel_rfl) ?_
          clear H
          intro v15 H
          refine x_then <| x_retc <| x_then_ret <| x_ret (.tuple #[.agg #[.int .i64 r, .int .i64 s, .int .i64 b, .int .i64 o, .int .i64 c, .int .i64 y, .int .i64 z, lv, g.pv, g.kv, .int .i64 ((x.pu : Nat) : Int), .int .i64 ((x.ru : Nat) : Int), .int .i64 x.j.1, .int .i64 x.j.2.1, .int .i64 x.j.2.2.1, .int .i64 x.j.2.2.2, .slice g.ad g.n g.c], .slice (some ⟨g6, 0, none⟩) 1 1]) (by kernel_rfl) (x_results [.cell 4 39, .tmp 5] [.agg #[.int .i64 r, .int .i64 s, .int .i64 b, .int .i64 o, .int .i64 c, .int .i64 y, .int .i64 z, lv, g.pv, g.kv, .int .i64 ((x.pu : Nat) : Int), .int .i64 ((x.ru : Nat) : Int), .int .i64 x.j.1, .int .i64 x.j.2.1, .int .i64 x.j.2.2.1, .int .i64 x.j.2.2.2, .slice g.ad g.n g.c], .slice (some ⟨g6, 0, none⟩) 1 1] _ rfl (AllR.cell (by kernel_rfl) (ldR H 1 g3 0 #[.int .i64 r, .int .i64 s, .int .i64 b, .int .i64 o, .int .i64 c, .int .i64 y, .int .i64 z, lv, g.pv, g.kv, .int .i64 ((x.pu : Nat) : Int), .int .i64 ((x.ru : Nat) : Int), .int .i64 x.j.1, .int .i64 x.j.2.1, .int .i64 x.j.2.2.1, .int .i64 x.j.2.2.2, .slice g.ad g.n g.c] 39 [.int .i64 r, .int .i64 s, .int .i64 b, .int .i64 o, .int .i64 c, .int .i64 y, .int .i64 z, lv, g.pv, g.kv, .int .i64 ((x.pu : Nat) : Int), .int .i64 ((x.ru : Nat) : Int), .int .i64 x.j.1, .int .i64 x.j.2.1, .int .i64 x.j.2.2.1, .int .i64 x.j.2.2.2, .slice g.ad g.n g.c] (by kernel_rfl) (by kernel_rfl) (by kernel_rfl)) (AllR.tmp (by kernel_rfl) AllR.nil)) (by kernel_rfl)) ?_
          have hm : ¬ aq ∈ x.Q := fun hm => by obtain ⟨j, hj, e⟩ := List.getElem_of_mem hm; exact r2 j (by have := hg.a.1; omega) (by simp [List.getD, hj, e])
          have eq1 : onQ x.Q aq = x.Q := by unfold onQ; rw [if_neg hm, if_neg (by have := hg.a.1; omega)]
          have eq2 : onE x.Q aq = 14 := by unfold onE; rw [if_neg hm, if_neg (by have := hg.a.1; omega)]
          have e1 : (Rp.ask r s z sn ns x aq) = { x with Q := x.Q } := by unfold Rp.ask; rw [if_neg (by rw [h1]; decide), if_neg h2p]; rw [eq1]
          have e2 : (Rp.askV r s z sn ns x aq) = [(5, aq.2, aq.1 - 1)] := by unfold Rp.askV; rw [if_neg (by rw [h1]; decide), if_neg h2p]; rw [eq2, if_pos rfl]
          rw [e1, e2]
          replace H := H.rowLit 0 rfl 1 3 rfl (by decide)
          replace H := H.pk [4, 5, 6, 7, 0]
          exact ⟨(g, .slice (some ⟨g6, 0, none⟩) 1 1), rfl, H, ⟨hg.d, hg.a⟩, rfl, rfl⟩
        · skip
          clear H
          intro v16 H
          have h11o := H.rowOne 3 rfl
          have h12o := H.rowOne 4 rfl
          have h13o := H.rowOne 5 rfl
          refine z_store H 0 0 [.int .i64 r, .int .i64 s, .int .i64 b, .int .i64 o, .int .i64 c, .int .i64 y, .int .i64 z, lv, g.pv, g.kv, .int .i64 ((x.pu : Nat) : Int), .int .i64 ((x.ru : Nat) : Int), .int .i64 x.j.1, .int .i64 x.j.2.1, .int .i64 x.j.2.2.1, .int .i64 x.j.2.2.2, .slice g.ad g.n g.c] (fun v17 H => ?_) (h1 := (by simp only [List.all_cons, List.all_nil, h11o, h12o, h13o, Bool.and_true, Bool.true_and] <;> rfl))
          refine x_nil <| x_then <| z_next H [0, 1, 2, 3, 4, 5, 6] [1, 2, 3, 4, 5, 6] rfl <| s_one 7 rfl (by kernel_rfl) rfl ?_
          clear H
          intro v18 H
          refine x_box' H #[.int .i64 5, .int .i64 aq.2, .int .i64 (aq.1 - 1)] 114 1 (by kernel_rfl) rfl (by kernel_rfl) ?_
          clear H
          intro v19 g7 H
          refine x_nil <| x_then <| z_next H [1, 2, 3, 4, 5, 6, 7] [0, 1, 2, 3, 4, 5, 6] rfl <| s_b [(9, .m)] 0 <| s_done (by kernel_rfl) ?_
          clear H
          intro v20 H
          refine x_then <| x_retc <| x_then_ret <| x_ret (.tuple #[.agg #[.int .i64 r, .int .i64 s, .int .i64 b, .int .i64 o, .int .i64 c, .int .i64 y, .int .i64 z, lv, g.pv, g.kv, .int .i64 ((x.pu : Nat) : Int), .int .i64 ((x.ru : Nat) : Int), .int .i64 x.j.1, .int .i64 x.j.2.1, .int .i64 x.j.2.2.1, .int .i64 x.j.2.2.2, .slice g.ad g.n g.c], .slice (some ⟨g7, 0, none⟩) 1 1]) (by kernel_rfl) (x_results [.cell 4 39, .tmp 5] [.agg #[.int .i64 r, .int .i64 s, .int .i64 b, .int .i64 o, .int .i64 c, .int .i64 y, .int .i64 z, lv, g.pv, g.kv, .int .i64 ((x.pu : Nat) : Int), .int .i64 ((x.ru : Nat) : Int), .int .i64 x.j.1, .int .i64 x.j.2.1, .int .i64 x.j.2.2.1, .int .i64 x.j.2.2.2, .slice g.ad g.n g.c], .slice (some ⟨g7, 0, none⟩) 1 1] _ rfl (AllR.cell (by kernel_rfl) (ldR H 1 g3 0 #[.int .i64 r, .int .i64 s, .int .i64 b, .int .i64 o, .int .i64 c, .int .i64 y, .int .i64 z, lv, g.pv, g.kv, .int .i64 ((x.pu : Nat) : Int), .int .i64 ((x.ru : Nat) : Int), .int .i64 x.j.1, .int .i64 x.j.2.1, .int .i64 x.j.2.2.1, .int .i64 x.j.2.2.2, .slice g.ad g.n g.c] 39 [.int .i64 r, .int .i64 s, .int .i64 b, .int .i64 o, .int .i64 c, .int .i64 y, .int .i64 z, lv, g.pv, g.kv, .int .i64 ((x.pu : Nat) : Int), .int .i64 ((x.ru : Nat) : Int), .int .i64 x.j.1, .int .i64 x.j.2.1, .int .i64 x.j.2.2.1, .int .i64 x.j.2.2.2, .slice g.ad g.n g.c] (by kernel_rfl) (by kernel_rfl) (by kernel_rfl)) (AllR.tmp (by kernel_rfl) AllR.nil)) (by kernel_rfl)) ?_
          have hm : ¬ aq ∈ x.Q := fun hm => by obtain ⟨j, hj, e⟩ := List.getElem_of_mem hm; exact r2 j (by have := hg.a.1; omega) (by simp [List.getD, hj, e])
          have eq1 : onQ x.Q aq = x.Q := by unfold onQ; rw [if_neg hm, if_neg (by have := hg.a.1; omega)]
          have eq2 : onE x.Q aq = 14 := by unfold onE; rw [if_neg hm, if_neg (by have := hg.a.1; omega)]
          have e1 : (Rp.ask r s z sn ns x aq) = { x with Q := x.Q } := by unfold Rp.ask; rw [if_neg (by rw [h1]; decide), if_neg h2p]; rw [eq1]
          have e2 : (Rp.askV r s z sn ns x aq) = [(5, aq.2, aq.1 - 1)] := by unfold Rp.askV; rw [if_neg (by rw [h1]; decide), if_neg h2p]; rw [eq2, if_pos rfl]
          rw [e1, e2]
          replace H := H.rowLit 0 rfl 1 3 rfl (by decide)
          replace H := H.pk [4, 5, 6, 7, 0]
          exact ⟨(g, .slice (some ⟨g7, 0, none⟩) 1 1), rfl, H, ⟨hg.d, hg.a⟩, rfl, rfl⟩
      have h3p := of_decide_eq_true h3
      obtain ⟨ga, oa, had, hcell⟩ := hg.a.at (by omega)
      refine x_t (by kernel_rfl) <| x_skipc <| x_then <| x_seq <| x_block <| x_seq <| z_region_whole H ?_
      refine q_b [.m, .l 2 16, .m] <| q_ixO (t := 37) had k g.n g.c 80 2 (oa + k * 2) (by omega) (by omega) (by kernel_rfl) (by kernel_rfl) (by kernel_rfl) (fun _ => by kernel_rfl) <| q_loadcn (t := 80) ga (oa + k * 2) [.int .i64 ((x.Q.getD k (0, 0)).1), .int .i64 ((x.Q.getD k (0, 0)).2)] (fun _ H => hcell _ _ ((H.ok 6 _ rfl : Go.World.ownsRow _ 0 80 2 _ _ _)) k (by omega)) (by kernel_rfl) (by kernel_rfl) (by kernel_rfl) <| q_b [.n 1 0 2 80] <| q_val (.bool (decide ((((x.Q.getD k (0, 0)).1) : Int) = aq.1) && (decide ((((x.Q.getD k (0, 0)).2) : Int) = aq.2) && true))) (by kernel_rfl) (fun _ => (run_eqS (t := 80) (x := .tmp 38) (y := .tmp 39) (xs := #[.int .i64 ((x.Q.getD k (0, 0)).1), .int .i64 ((x.Q.getD k (0, 0)).2)]) (ys := #[.int .i64 aq.1, .int .i64 aq.2]) (B := decide ((((x.Q.getD k (0, 0)).1) : Int) = aq.1) && (decide ((((x.Q.getD k (0, 0)).2) : Int) = aq.2) && true)) (by kernel_rfl) (by kernel_rfl) (by kernel_rfl))) ?_
      refine q_nil ?_
      clear H
      intro v21 H
      refine x_then ?_
      cases h14 : decide ((((x.Q.getD k (0, 0)).1) : Int) = aq.1) && (decide ((((x.Q.getD k (0, 0)).2) : Int) = aq.2) && true)
      · skip
        refine x_f (by kernel_rfl) <| x_skipc <| x_blk <| x_then <| x_region <| x_b H [.m] <| z_ar ((k : Int) + 1) ?_
        refine x_b H [.m] <| x_nil <| x_then ?_
        exact ⟨(k + 1), (by omega), _, frm_of, H, (by omega), (fun j hj => by by_cases e : j = k; (subst e; intro e; have z := h14; rw [e] at z; simp at z); exact r2 j (by omega))⟩
      refine x_t (by kernel_rfl) <| x_seq <| x_region <| x_b H [.n 2 0 17 39] ?_
      have h15o := H.rowOne 3 rfl
      have h16o := H.rowOne 4 rfl
      have h17o := H.rowOne 5 rfl
      refine z_store H 0 0 [.int .i64 r, .int .i64 s, .int .i64 b, .int .i64 o, .int .i64 c, .int .i64 y, .int .i64 z, lv, g.pv, g.kv, .int .i64 ((x.pu : Nat) : Int), .int .i64 ((x.ru : Nat) : Int), .int .i64 x.j.1, .int .i64 x.j.2.1, .int .i64 x.j.2.2.1, .int .i64 x.j.2.2.2, .slice g.ad g.n g.c] (fun v22 H => ?_) (h1 := (by simp only [List.all_cons, List.all_nil, h15o, h16o, h17o, Bool.and_true, Bool.true_and] <;> rfl))
      refine x_b H [.m] <| x_nil <| x_then <| x_retc <| x_blk_ret <| x_then_ret <| x_then_ret ?_
      refine x_blk_ret <| x_then_ret <| x_ret (.tuple #[.agg #[.int .i64 r, .int .i64 s, .int .i64 b, .int .i64 o, .int .i64 c, .int .i64 y, .int .i64 z, lv, g.pv, g.kv, .int .i64 ((x.pu : Nat) : Int), .int .i64 ((x.ru : Nat) : Int), .int .i64 x.j.1, .int .i64 x.j.2.1, .int .i64 x.j.2.2.1, .int .i64 x.j.2.2.2, .slice g.ad g.n g.c], .slice none 0 0]) (by kernel_rfl) (x_results [.cell 4 39, .tmp 5] [.agg #[.int .i64 r, .int .i64 s, .int .i64 b, .int .i64 o, .int .i64 c, .int .i64 y, .int .i64 z, lv, g.pv, g.kv, .int .i64 ((x.pu : Nat) : Int), .int .i64 ((x.ru : Nat) : Int), .int .i64 x.j.1, .int .i64 x.j.2.1, .int .i64 x.j.2.2.1, .int .i64 x.j.2.2.2, .slice g.ad g.n g.c], .slice none 0 0] _ rfl (AllR.cell (by kernel_rfl) (ldR H 0 g3 0 #[.int .i64 r, .int .i64 s, .int .i64 b, .int .i64 o, .int .i64 c, .int .i64 y, .int .i64 z, lv, g.pv, g.kv, .int .i64 ((x.pu : Nat) : Int), .int .i64 ((x.ru : Nat) : Int), .int .i64 x.j.1, .int .i64 x.j.2.1, .int .i64 x.j.2.2.1, .int .i64 x.j.2.2.2, .slice g.ad g.n g.c] 39 [.int .i64 r, .int .i64 s, .int .i64 b, .int .i64 o, .int .i64 c, .int .i64 y, .int .i64 z, lv, g.pv, g.kv, .int .i64 ((x.pu : Nat) : Int), .int .i64 ((x.ru : Nat) : Int), .int .i64 x.j.1, .int .i64 x.j.2.1, .int .i64 x.j.2.2.1, .int .i64 x.j.2.2.2, .slice g.ad g.n g.c] (by kernel_rfl) (by kernel_rfl) (by kernel_rfl)) (AllR.tmp (by kernel_rfl) AllR.nil)) (by kernel_rfl)) ?_
      have hm : aq ∈ x.Q := by
        have z := h14
        simp only [Bool.and_eq_true, decide_eq_true_eq, and_true] at z
        have e : x.Q.getD k (0, 0) = aq := Prod.ext z.1 z.2
        rw [← e]; exact getD_mem (by have := hg.a.1; omega) (0, 0)
      have eq1 : onQ x.Q aq = x.Q := by unfold onQ; rw [if_pos hm]
      have eq2 : onE x.Q aq = 15 := by unfold onE; rw [if_pos hm]
      have e1 : (Rp.ask r s z sn ns x aq) = { x with Q := x.Q } := by unfold Rp.ask; rw [if_neg (by rw [h1]; decide), if_neg h2p]; rw [eq1]
      have e2 : (Rp.askV r s z sn ns x aq) = [] := by unfold Rp.askV; rw [if_neg (by rw [h1]; decide), if_neg h2p]; rw [eq2]; rfl
      rw [e1, e2]
      replace H := H.nilRow 114 3
      replace H := H.pk [4, 5, 6, 7, 0]
      exact ⟨(g, .slice none 0 0), rfl, H, ⟨hg.d, hg.a⟩, rfl, rfl⟩
    have h2p := of_decide_eq_true h2
    refine x_t (by kernel_rfl) <| x_seq <| x_region <| x_b H [.n 2 0 17 39, .n 1 0 2 80] <| z_callB H (Start21 (ad := g.ad) (n := g.n) (ca := g.c) hL hx hg.d hp8 hrk8 aq _ (H.ro1 [3, 4, 5])) fun v23 H => x_b H [.m, .m, .m] <| z_box H #[.int .i64 0, .int .i64 0, .int .i64 0, .int .i64 0, .int .i64 0, .int .i64 0, .int .i64 0, .slice none 0 0, .slice none 0 0, .slice none 0 0, .int .i64 0, .int .i64 0, .int .i64 0, .int .i64 0, .int .i64 0, .int .i64 0, .slice none 0 0] 39 (fun v24 g8 H => ?_)
    refine z_box H #[.int .i64 0, .int .i64 0, .int .i64 0] 114 (fun v25 g9 H => ?_)
    have h18o := H.rowOne 5 rfl
    have h19o := H.rowOne 6 rfl
    have h20o := H.rowOne 7 rfl
    refine z_store H 1 0 [.int .i64 r, .int .i64 s, .int .i64 b, .int .i64 o, .int .i64 c, .int .i64 y, .int .i64 z, lv, g.pv, g.kv, .int .i64 (((Rp.start r s z sn x aq).pu : Nat) : Int), .int .i64 (((Rp.start r s z sn x aq).ru : Nat) : Int), .int .i64 (((Rp.start r s z sn x aq).j).1), .int .i64 (((Rp.start r s z sn x aq).j).2.1), .int .i64 (((Rp.start r s z sn x aq).j).2.2.1), .int .i64 (((Rp.start r s z sn x aq).j).2.2.2), .slice g.ad g.n g.c] (fun v26 H => ?_) (h1 := (by simp only [List.all_cons, List.all_nil, h18o, h19o, h20o, Bool.and_true, Bool.true_and] <;> rfl))
    refine z_store H 0 0 [.int .i64 ((Rp.startV r s z sn x aq).1), .int .i64 ((Rp.startV r s z sn x aq).2.1), .int .i64 ((Rp.startV r s z sn x aq).2.2)] (fun v27 H => ?_)
    refine x_nil <| x_then <| x_seq <| z_region_s H 5 [0, 1, 3, 4, 5, 6, 7, 8] <| s_b [(0, .n 1 0 17 39), (1, .n 0 0 3 114)] 3 <| s_two 2 3 rfl rfl (by kernel_rfl) rfl rfl ?_ ?_
    · skip
      clear H
      intro v28 H
      refine x_box' H #[.int .i64 ((Rp.startV r s z sn x aq).1), .int .i64 ((Rp.startV r s z sn x aq).2.1), .int .i64 ((Rp.startV r s z sn x aq).2.2)] 114 1 (by kernel_rfl) rfl (by kernel_rfl) ?_
      clear H
      intro v29 g10 H
      refine x_nil <| x_then <| z_next H [0, 1, 2, 4, 5, 6, 7, 8, 9] [1, 2, 3, 4, 5, 6, 7, 8] rfl <| s_one 3 rfl (by kernel_rfl) rfl ?_
      clear H
      intro v30 H
      have h21o := H.rowOne 6 rfl
      have h22o := H.rowOne 7 rfl
      have h23o := H.rowOne 8 rfl
      refine z_store H 3 0 [.int .i64 r, .int .i64 s, .int .i64 b, .int .i64 o, .int .i64 c, .int .i64 y, .int .i64 z, lv, g.pv, g.kv, .int .i64 (((Rp.start r s z sn x aq).pu : Nat) : Int), .int .i64 (((Rp.start r s z sn x aq).ru : Nat) : Int), .int .i64 (((Rp.start r s z sn x aq).j).1), .int .i64 (((Rp.start r s z sn x aq).j).2.1), .int .i64 (((Rp.start r s z sn x aq).j).2.2.1), .int .i64 (((Rp.start r s z sn x aq).j).2.2.2), .slice g.ad g.n g.c] (fun v31 H => ?_) (h1 := (by simp only [List.all_cons, List.all_nil, h21o, h22o, h23o, Bool.and_true, Bool.true_and] <;> rfl))
      refine x_nil <| x_then <| z_next H [0, 1, 2, 3, 4, 5, 6, 7, 8, 9] [0, 1, 2, 4, 5, 6, 7, 8, 9] rfl <| s_b [(4, .m)] 0 <| s_done (by kernel_rfl) ?_
      clear H
      intro v32 H
      refine x_then <| x_retc <| x_then_ret <| x_ret (.tuple #[.agg #[.int .i64 r, .int .i64 s, .int .i64 b, .int .i64 o, .int .i64 c, .int .i64 y, .int .i64 z, lv, g.pv, g.kv, .int .i64 (((Rp.start r s z sn x aq).pu : Nat) : Int), .int .i64 (((Rp.start r s z sn x aq).ru : Nat) : Int), .int .i64 (((Rp.start r s z sn x aq).j).1), .int .i64 (((Rp.start r s z sn x aq).j).2.1), .int .i64 (((Rp.start r s z sn x aq).j).2.2.1), .int .i64 (((Rp.start r s z sn x aq).j).2.2.2), .slice g.ad g.n g.c], .slice (some ⟨g10, 0, none⟩) 1 1]) (by kernel_rfl) (x_results [.cell 4 39, .tmp 5] [.agg #[.int .i64 r, .int .i64 s, .int .i64 b, .int .i64 o, .int .i64 c, .int .i64 y, .int .i64 z, lv, g.pv, g.kv, .int .i64 (((Rp.start r s z sn x aq).pu : Nat) : Int), .int .i64 (((Rp.start r s z sn x aq).ru : Nat) : Int), .int .i64 (((Rp.start r s z sn x aq).j).1), .int .i64 (((Rp.start r s z sn x aq).j).2.1), .int .i64 (((Rp.start r s z sn x aq).j).2.2.1), .int .i64 (((Rp.start r s z sn x aq).j).2.2.2), .slice g.ad g.n g.c], .slice (some ⟨g10, 0, none⟩) 1 1] _ rfl (AllR.cell (by kernel_rfl) (ldR H 3 g3 0 #[.int .i64 r, .int .i64 s, .int .i64 b, .int .i64 o, .int .i64 c, .int .i64 y, .int .i64 z, lv, g.pv, g.kv, .int .i64 (((Rp.start r s z sn x aq).pu : Nat) : Int), .int .i64 (((Rp.start r s z sn x aq).ru : Nat) : Int), .int .i64 (((Rp.start r s z sn x aq).j).1), .int .i64 (((Rp.start r s z sn x aq).j).2.1), .int .i64 (((Rp.start r s z sn x aq).j).2.2.1), .int .i64 (((Rp.start r s z sn x aq).j).2.2.2), .slice g.ad g.n g.c] 39 [.int .i64 r, .int .i64 s, .int .i64 b, .int .i64 o, .int .i64 c, .int .i64 y, .int .i64 z, lv, g.pv, g.kv, .int .i64 (((Rp.start r s z sn x aq).pu : Nat) : Int), .int .i64 (((Rp.start r s z sn x aq).ru : Nat) : Int), .int .i64 (((Rp.start r s z sn x aq).j).1), .int .i64 (((Rp.start r s z sn x aq).j).2.1), .int .i64 (((Rp.start r s z sn x aq).j).2.2.1), .int .i64 (((Rp.start r s z sn x aq).j).2.2.2), .slice g.ad g.n g.c] (by kernel_rfl) (by kernel_rfl) (by kernel_rfl)) (AllR.tmp (by kernel_rfl) AllR.nil)) (by kernel_rfl)) ?_
      have e1 : (Rp.ask r s z sn ns x aq) = (Rp.start r s z sn x aq) := by unfold Rp.ask; rw [if_neg (by rw [h1]; decide), if_pos h2p]
      have e2 : (Rp.askV r s z sn ns x aq) = [(Rp.startV r s z sn x aq)] := by unfold Rp.askV; rw [if_neg (by rw [h1]; decide), if_pos h2p]
      rw [e1, e2]
      replace H := H.rowLit 0 rfl 1 3 rfl (by decide)
      replace H := H.pk [6, 7, 8, 9, 0]
      exact ⟨(g, .slice (some ⟨g10, 0, none⟩) 1 1), rfl, H, ⟨hg.d.start, by rw [Rp.start_Q]; exact hg.a⟩, rfl, rfl⟩
    · skip
      clear H
      intro v33 H
      have h24o := H.rowOne 5 rfl
      have h25o := H.rowOne 6 rfl
      have h26o := H.rowOne 7 rfl
      refine z_store H 2 0 [.int .i64 r, .int .i64 s, .int .i64 b, .int .i64 o, .int .i64 c, .int .i64 y, .int .i64 z, lv, g.pv, g.kv, .int .i64 (((Rp.start r s z sn x aq).pu : Nat) : Int), .int .i64 (((Rp.start r s z sn x aq).ru : Nat) : Int), .int .i64 (((Rp.start r s z sn x aq).j).1), .int .i64 (((Rp.start r s z sn x aq).j).2.1), .int .i64 (((Rp.start r s z sn x aq).j).2.2.1), .int .i64 (((Rp.start r s z sn x aq).j).2.2.2), .slice g.ad g.n g.c] (fun v34 H => ?_) (h1 := (by simp only [List.all_cons, List.all_nil, h24o, h25o, h26o, Bool.and_true, Bool.true_and] <;> rfl))
      refine x_nil <| x_then <| z_next H [0, 1, 2, 3, 4, 5, 6, 7, 8] [0, 1, 3, 4, 5, 6, 7, 8] rfl <| s_one 2 rfl (by kernel_rfl) rfl ?_
      clear H
      intro v35 H
      refine x_box' H #[.int .i64 ((Rp.startV r s z sn x aq).1), .int .i64 ((Rp.startV r s z sn x aq).2.1), .int .i64 ((Rp.startV r s z sn x aq).2.2)] 114 1 (by kernel_rfl) rfl (by kernel_rfl) ?_
      clear H
      intro v36 g11 H
      refine x_nil <| x_then <| z_next H [1, 2, 3, 4, 5, 6, 7, 8, 9] [0, 1, 2, 3, 4, 5, 6, 7, 8] rfl <| s_b [(4, .m)] 0 <| s_done (by kernel_rfl) ?_
      clear H
      intro v37 H
      refine x_then <| x_retc <| x_then_ret <| x_ret (.tuple #[.agg #[.int .i64 r, .int .i64 s, .int .i64 b, .int .i64 o, .int .i64 c, .int .i64 y, .int .i64 z, lv, g.pv, g.kv, .int .i64 (((Rp.start r s z sn x aq).pu : Nat) : Int), .int .i64 (((Rp.start r s z sn x aq).ru : Nat) : Int), .int .i64 (((Rp.start r s z sn x aq).j).1), .int .i64 (((Rp.start r s z sn x aq).j).2.1), .int .i64 (((Rp.start r s z sn x aq).j).2.2.1), .int .i64 (((Rp.start r s z sn x aq).j).2.2.2), .slice g.ad g.n g.c], .slice (some ⟨g11, 0, none⟩) 1 1]) (by kernel_rfl) (x_results [.cell 4 39, .tmp 5] [.agg #[.int .i64 r, .int .i64 s, .int .i64 b, .int .i64 o, .int .i64 c, .int .i64 y, .int .i64 z, lv, g.pv, g.kv, .int .i64 (((Rp.start r s z sn x aq).pu : Nat) : Int), .int .i64 (((Rp.start r s z sn x aq).ru : Nat) : Int), .int .i64 (((Rp.start r s z sn x aq).j).1), .int .i64 (((Rp.start r s z sn x aq).j).2.1), .int .i64 (((Rp.start r s z sn x aq).j).2.2.1), .int .i64 (((Rp.start r s z sn x aq).j).2.2.2), .slice g.ad g.n g.c], .slice (some ⟨g11, 0, none⟩) 1 1] _ rfl (AllR.cell (by kernel_rfl) (ldR H 3 g3 0 #[.int .i64 r, .int .i64 s, .int .i64 b, .int .i64 o, .int .i64 c, .int .i64 y, .int .i64 z, lv, g.pv, g.kv, .int .i64 (((Rp.start r s z sn x aq).pu : Nat) : Int), .int .i64 (((Rp.start r s z sn x aq).ru : Nat) : Int), .int .i64 (((Rp.start r s z sn x aq).j).1), .int .i64 (((Rp.start r s z sn x aq).j).2.1), .int .i64 (((Rp.start r s z sn x aq).j).2.2.1), .int .i64 (((Rp.start r s z sn x aq).j).2.2.2), .slice g.ad g.n g.c] 39 [.int .i64 r, .int .i64 s, .int .i64 b, .int .i64 o, .int .i64 c, .int .i64 y, .int .i64 z, lv, g.pv, g.kv, .int .i64 (((Rp.start r s z sn x aq).pu : Nat) : Int), .int .i64 (((Rp.start r s z sn x aq).ru : Nat) : Int), .int .i64 (((Rp.start r s z sn x aq).j).1), .int .i64 (((Rp.start r s z sn x aq).j).2.1), .int .i64 (((Rp.start r s z sn x aq).j).2.2.1), .int .i64 (((Rp.start r s z sn x aq).j).2.2.2), .slice g.ad g.n g.c] (by kernel_rfl) (by kernel_rfl) (by kernel_rfl)) (AllR.tmp (by kernel_rfl) AllR.nil)) (by kernel_rfl)) ?_
      have e1 : (Rp.ask r s z sn ns x aq) = (Rp.start r s z sn x aq) := by unfold Rp.ask; rw [if_neg (by rw [h1]; decide), if_pos h2p]
      have e2 : (Rp.askV r s z sn ns x aq) = [(Rp.startV r s z sn x aq)] := by unfold Rp.askV; rw [if_neg (by rw [h1]; decide), if_pos h2p]
      rw [e1, e2]
      replace H := H.rowLit 0 rfl 1 3 rfl (by decide)
      replace H := H.pk [6, 7, 8, 9, 0]
      exact ⟨(g, .slice (some ⟨g11, 0, none⟩) 1 1), rfl, H, ⟨hg.d.start, by rw [Rp.start_Q]; exact hg.a⟩, rfl, rfl⟩
  refine x_t (by kernel_rfl) <| x_seq <| x_region <| x_b H [.n 2 0 17 39] ?_
  have h27o := H.rowOne 3 rfl
  have h28o := H.rowOne 4 rfl
  have h29o := H.rowOne 5 rfl
  refine z_store H 0 0 [.int .i64 r, .int .i64 s, .int .i64 b, .int .i64 o, .int .i64 c, .int .i64 y, .int .i64 z, lv, g.pv, g.kv, .int .i64 ((x.pu : Nat) : Int), .int .i64 ((x.ru : Nat) : Int), .int .i64 x.j.1, .int .i64 x.j.2.1, .int .i64 x.j.2.2.1, .int .i64 x.j.2.2.2, .slice g.ad g.n g.c] (fun v38 H => ?_) (h1 := (by simp only [List.all_cons, List.all_nil, h27o, h28o, h29o, Bool.and_true, Bool.true_and] <;> rfl))
  refine x_b H [.m] <| x_nil <| x_then <| x_retc <| x_then_ret <| x_ret (.tuple #[.agg #[.int .i64 r, .int .i64 s, .int .i64 b, .int .i64 o, .int .i64 c, .int .i64 y, .int .i64 z, lv, g.pv, g.kv, .int .i64 ((x.pu : Nat) : Int), .int .i64 ((x.ru : Nat) : Int), .int .i64 x.j.1, .int .i64 x.j.2.1, .int .i64 x.j.2.2.1, .int .i64 x.j.2.2.2, .slice g.ad g.n g.c], .slice none 0 0]) (by kernel_rfl) (x_results [.cell 4 39, .tmp 5] [.agg #[.int .i64 r, .int .i64 s, .int .i64 b, .int .i64 o, .int .i64 c, .int .i64 y, .int .i64 z, lv, g.pv, g.kv, .int .i64 ((x.pu : Nat) : Int), .int .i64 ((x.ru : Nat) : Int), .int .i64 x.j.1, .int .i64 x.j.2.1, .int .i64 x.j.2.2.1, .int .i64 x.j.2.2.2, .slice g.ad g.n g.c], .slice none 0 0] _ rfl (AllR.cell (by kernel_rfl) (ldR H 0 g3 0 #[.int .i64 r, .int .i64 s, .int .i64 b, .int .i64 o, .int .i64 c, .int .i64 y, .int .i64 z, lv, g.pv, g.kv, .int .i64 ((x.pu : Nat) : Int), .int .i64 ((x.ru : Nat) : Int), .int .i64 x.j.1, .int .i64 x.j.2.1, .int .i64 x.j.2.2.1, .int .i64 x.j.2.2.2, .slice g.ad g.n g.c] 39 [.int .i64 r, .int .i64 s, .int .i64 b, .int .i64 o, .int .i64 c, .int .i64 y, .int .i64 z, lv, g.pv, g.kv, .int .i64 ((x.pu : Nat) : Int), .int .i64 ((x.ru : Nat) : Int), .int .i64 x.j.1, .int .i64 x.j.2.1, .int .i64 x.j.2.2.1, .int .i64 x.j.2.2.2, .slice g.ad g.n g.c] (by kernel_rfl) (by kernel_rfl) (by kernel_rfl)) (AllR.tmp (by kernel_rfl) AllR.nil)) (by kernel_rfl)) ?_
  have e1 : (Rp.ask r s z sn ns x aq) = x := by unfold Rp.ask; rw [if_pos h1]
  have e2 : (Rp.askV r s z sn ns x aq) = [] := by unfold Rp.askV; rw [if_pos h1]
  rw [e1, e2]
  replace H := H.nilRow 114 3
  replace H := H.pk [4, 5, 6, 7, 0]
  exact ⟨(g, .slice none 0 0), rfl, H, hg, rfl, rfl⟩
set_option maxRecDepth 100000 in
set_option maxHeartbeats 4000000 in
theorem step21 {M : List Nat} {r s b o c y z : Int} {pg sn ns : Nat} (hL : Lay r s b o c y z pg sn ns) {x : Rp} (hx : RpOk r s b o c z sn pg ns x) {g : D21} (hg : D21.Ok pg sn ns x g) (hp8 : g.Pg.length ≤ 3999) (hrk8 : g.Rk.length ≤ 3999) {lv : Value} (hj : ¬ x.j.1 = 0) (w0 : World) (H0 : Hs M w0 w0 [.row (lv) 3 1 pg (List.map (Value.int .i64) (layL y r b o pg)), .row (g.pv) 142 2 (List.length g.Pg) (List.flatMap entL g.Pg), .row (g.kv) 142 2 (List.length g.Rk) (List.flatMap entL g.Rk), .row (g.fv) 80 2 (List.length g.F) (List.flatMap entL g.F)]) :
    Calls Tryz.prog 25 #[.agg #[.int .i64 r, .int .i64 s, .int .i64 b, .int .i64 o, .int .i64 c, .int .i64 y, .int .i64 z, lv, g.pv, g.kv, .int .i64 ((x.pu : Nat) : Int), .int .i64 ((x.ru : Nat) : Int), .int .i64 x.j.1, .int .i64 x.j.2.1, .int .i64 x.j.2.2.1, .int .i64 x.j.2.2.2, .slice g.ad g.n g.c]] w0 fun e w' => ∃ u : D21 × Value, e = .returned (.tuple #[.agg #[.int .i64 r, .int .i64 s, .int .i64 b, .int .i64 o, .int .i64 c, .int .i64 y, .int .i64 z, lv, u.1.pv, u.1.kv, .int .i64 ((((Rp.step r s z sn pg ns b o c x).1).pu : Nat) : Int), .int .i64 ((((Rp.step r s z sn pg ns b o c x).1).ru : Nat) : Int), .int .i64 ((((Rp.step r s z sn pg ns b o c x).1).j).1), .int .i64 ((((Rp.step r s z sn pg ns b o c x).1).j).2.1), .int .i64 ((((Rp.step r s z sn pg ns b o c x).1).j).2.2.1), .int .i64 ((((Rp.step r s z sn pg ns b o c x).1).j).2.2.2), .slice u.1.ad u.1.n u.1.c], u.2]) ∧ Hs M w0 w' [.row (lv) 3 1 pg (List.map (Value.int .i64) (layL y r b o pg)), .row (u.1.pv) 142 2 (List.length u.1.Pg) (List.flatMap entL u.1.Pg), .row (u.1.kv) 142 2 (List.length u.1.Rk) (List.flatMap entL u.1.Rk), .row (u.1.fv) 80 2 (List.length u.1.F) (List.flatMap entL u.1.F), .row (u.2) 114 3 (List.length ((Rp.step r s z sn pg ns b o c x).2)) (List.flatMap int3L ((Rp.step r s z sn pg ns b o c x).2))] ∧ (D21.Ok pg sn ns (Rp.step r s z sn pg ns b o c x).1 u.1 ∧ u.1.Pg.length ≤ g.Pg.length + 1 ∧ u.1.Rk.length ≤ g.Rk.length + 1) := by
  refine z_enter Tryz.func25 rfl ?_
  have H := H0
  have hm := hx.v.m
  have hpu := hm.hp
  have hru := hm.hr
  have hsn := hL.hsn
  have hz0 := hL.z0
  have hz2 := hL.z2
  have hpg2 := hL.pg2
  have hr8 := hL.r8
  have hs8 := hL.s8
  have hr1 := hL.r1
  have hs0 := hL.s0
  have hns := hL.hns
  obtain ⟨⟨j1, j2⟩, ⟨j3, j4⟩, ⟨j5, j6⟩, ⟨j7, j8⟩⟩ := hx.job_bd hL
  have hjr := JobOk.right hL hx
  have hnk := JobOk.next_ok hx hj
  have hql := hx.ql
  have hqn := hg.a.1
  obtain ⟨hcn0, hcn1⟩ := cnt_bd (geom_of hL) x.j
  refine x_seq <| x_region <| z_box H #[.int .i64 r, .int .i64 s, .int .i64 b, .int .i64 o, .int .i64 c, .int .i64 y, .int .i64 z, lv, g.pv, g.kv, .int .i64 ((x.pu : Nat) : Int), .int .i64 ((x.ru : Nat) : Int), .int .i64 x.j.1, .int .i64 x.j.2.1, .int .i64 x.j.2.2.1, .int .i64 x.j.2.2.2, .slice g.ad g.n g.c] 39 (fun v1 g1 H => ?_)
  refine z_box H #[.int .i64 0, .int .i64 0, .int .i64 0, .int .i64 0, .int .i64 0, .int .i64 0, .int .i64 0, .slice none 0 0, .slice none 0 0, .slice none 0 0, .int .i64 0, .int .i64 0, .int .i64 0, .int .i64 0, .int .i64 0, .int .i64 0, .slice none 0 0] 39 (fun v2 g2 H => ?_)
  refine x_b H [.m] <| x_nil <| x_then <| x_seq <| x_region <| x_b H [.m, .m, .l 1 15] <| z_ar (x.j.2.2.2 + 1) ?_
  refine x_b H [.m, .m] <| z_store H 1 15 [.int .i64 (x.j.2.2.2 + 1)] (fun v3 H => ?_)
  refine x_nil <| x_then <| x_seq <| x_seq <| z_region_whole H <| q_b [.m, .m, .l 1 15, .n 1 0 17 39] <| q_callB (.int .i64 (Rp.cnt b o c x.j)) (by kernel_rfl) (fun _ => by kernel_rfl) (fun _ => (Count21 (x := x) (ad := g.ad) (n := g.n) (ca := g.c) (lv := lv) (pv := g.pv) (kv := g.kv) hL (x.j.2.2.2 + 1) hnk.2 _)) ?_
  refine q_b [.v (.bool (decide ((x.j.2.2.2 + 1) < (Rp.cnt b o c x.j))))] <| q_nil ?_
  clear H
  intro v4 H
  refine x_then ?_
  cases h1 : decide ((x.j.2.2.2 + 1) < (Rp.cnt b o c x.j))
  · skip
    have h1p := of_decide_eq_false h1
    refine x_f (by kernel_rfl) <| x_skipc <| x_then <| x_seq <| x_region <| x_b H [.m, .n 1 12 4 36] <| z_box H #[.int .i64 0, .int .i64 0, .int .i64 0, .int .i64 0] 36 (fun v5 g3 H => ?_)
    refine z_store H 0 0 [.int .i64 x.j.1, .int .i64 x.j.2.1, .int .i64 x.j.2.2.1, .int .i64 (x.j.2.2.2 + 1)] (fun v6 H => ?_)
    refine x_nil <| x_then <| x_seq <| x_region <| x_b H [.m, .m] <| z_store H 2 12 [.int .i64 0, .int .i64 0, .int .i64 0, .int .i64 0] (fun v7 H => ?_)
    refine x_nil <| x_then <| x_seq <| x_seq <| x_region <| x_b H [.m, .l 0 0, .v (.bool (decide (x.j.1 = 1)))] <| x_nil ?_
    refine x_then ?_
    cases h2 : decide (x.j.1 = 1)
    · skip
      have h2p := of_decide_eq_false h2
      refine x_f (by kernel_rfl) <| x_region <| x_b H [.m, .n 2 0 12 34, .m, .l 0 1, .m, .l 0 2] <| z_call (Rep19_yes hL hg.d (by omega) (by omega) hx.v x.j.2.1 x.j.2.2.1 (hx.rpE0 hL (by omega)) _ (H.ro1 [3, 4, 5])) ?_
      rintro _ v8 ⟨u1, rfl, hN'⟩
      refine ⟨_, rfl, ?_⟩
      replace H := H.more hN'
      clear hN'
      refine x_b H [.m, .m, .m, .m] ?_
      have h3o := H.rowOne 4 rfl
      have h4o := H.rowOne 5 rfl
      have h5o := H.rowOne 0 rfl
      refine z_store H 3 0 [.int .i64 r, .int .i64 s, .int .i64 b, .int .i64 o, .int .i64 c, .int .i64 y, .int .i64 z, lv, g.pv, u1, .int .i64 ((x.pu : Nat) : Int), .int .i64 ((x.ru : Nat) : Int)] (fun v9 H => ?_) (h1 := (by simp only [List.all_cons, List.all_nil, h3o, h4o, h5o, Bool.and_true, Bool.true_and] <;> rfl))
      refine x_nil <| x_then <| x_seq <| x_region <| x_b H [.m, .l 1 1, .m, .l 1 2, .m] <| x_box' H #[.int .i64 6, .int .i64 x.j.2.1, .int .i64 x.j.2.2.1] 114 1 (by kernel_rfl) rfl (by kernel_rfl) ?_
      clear H
      intro v10 g4 H
      refine x_b H [.m] <| x_nil <| z_fr 92 [(1, .pointer (some ⟨g1, 0, none⟩)), (2, .pointer (some ⟨g2, 0, none⟩)), (5, .slice (some ⟨g4, 0, none⟩) 1 1)] [] fun uf1 => x_then <| x_seq <| x_block ?_
      replace H := H.rowLit 0 rfl 1 3 rfl (by decide)
      have ed : (Rp.done r sn pg ns x) = { x with S := (rpS r ns x.ru x.S x.j.2.1 x.j.2.2.1), j := (0, 0, 0, 0) } := by unfold Rp.done; rw [if_neg h2p]
      replace H := hsCast (H.pk [0, 4, 5, 6, 1, 8, 3]) (L2 := [.row (.slice (some ⟨g4, 0, none⟩) 1 1) 114 3 (List.length ([(6, x.j.2.1, x.j.2.2.1)])) (List.flatMap int3L ([(6, x.j.2.1, x.j.2.2.1)])), .blk g1 #[.int .i64 r, .int .i64 s, .int .i64 b, .int .i64 o, .int .i64 c, .int .i64 y, .int .i64 z, lv, g.pv, u1, .int .i64 ((x.pu : Nat) : Int), .int .i64 ((x.ru : Nat) : Int), .int .i64 0, .int .i64 0, .int .i64 0, .int .i64 0, .slice g.ad g.n g.c] 39, .row (lv) 3 1 pg (List.map (Value.int .i64) (layL y r b o pg)), .row (g.pv) 142 2 (List.length g.Pg) (List.flatMap entL g.Pg), .row (u1) 142 2 (List.length (g.Rk ++ [(x.j.2.1, x.j.2.2.1)])) (List.flatMap entL (g.Rk ++ [(x.j.2.1, x.j.2.2.1)])), .row (g.fv) 80 2 (List.length g.F) (List.flatMap entL g.F), .blk g2 #[.int .i64 0, .int .i64 0, .int .i64 0, .int .i64 0, .int .i64 0, .int .i64 0, .int .i64 0, .slice none 0 0, .slice none 0 0, .slice none 0 0, .int .i64 0, .int .i64 0, .int .i64 0, .int .i64 0, .int .i64 0, .int .i64 0, .slice none 0 0] 39]) (by kernel_rfl)
      replace H := hsCast H (L2 := [.row (.slice (some ⟨g4, 0, none⟩) 1 1) 114 3 (List.length ([(6, x.j.2.1, x.j.2.2.1)])) (List.flatMap int3L ([(6, x.j.2.1, x.j.2.2.1)])), .blk g1 #[.int .i64 r, .int .i64 s, .int .i64 b, .int .i64 o, .int .i64 c, .int .i64 y, .int .i64 z, lv, g.pv, u1, .int .i64 (((Rp.done r sn pg ns x).pu : Nat) : Int), .int .i64 (((Rp.done r sn pg ns x).ru : Nat) : Int), .int .i64 (((Rp.done r sn pg ns x).j).1), .int .i64 (((Rp.done r sn pg ns x).j).2.1), .int .i64 (((Rp.done r sn pg ns x).j).2.2.1), .int .i64 (((Rp.done r sn pg ns x).j).2.2.2), .slice g.ad g.n g.c] 39, .row (lv) 3 1 pg (List.map (Value.int .i64) (layL y r b o pg)), .row (g.pv) 142 2 (List.length g.Pg) (List.flatMap entL g.Pg), .row (u1) 142 2 (List.length (g.Rk ++ [(x.j.2.1, x.j.2.2.1)])) (List.flatMap entL (g.Rk ++ [(x.j.2.1, x.j.2.2.1)])), .row (g.fv) 80 2 (List.length g.F) (List.flatMap entL g.F), .blk g2 #[.int .i64 0, .int .i64 0, .int .i64 0, .int .i64 0, .int .i64 0, .int .i64 0, .int .i64 0, .slice none 0 0, .slice none 0 0, .slice none 0 0, .int .i64 0, .int .i64 0, .int .i64 0, .int .i64 0, .int .i64 0, .int .i64 0, .slice none 0 0] 39]) (by first | (rw [ed]; done) | (rw [ed]; rfl))
      have hp2 : List.length g.Pg ≤ 4000 := by first | omega | (simp; omega)
      have hr2 : List.length (g.Rk ++ [(x.j.2.1, x.j.2.2.1)]) ≤ 4000 := by first | omega | (simp; omega)
      have hd0 : DocM pg sn ns (Rp.done r sn pg ns x).L (Rp.done r sn pg ns x).D (Rp.done r sn pg ns x).S g.Pg (g.Rk ++ [(x.j.2.1, x.j.2.2.1)]) := by rw [ed]; exact hg.d.replace hx.v (by omega) (by omega) (hx.rpE0 hL (by omega))
      refine x_loop (G := Rp × Option Addr × Nat × Nat × Value × List Int3) (fun gh a w' => match gh with | (rq, ad2, n2, c2, ov, acc) => ∃ uf2 : Nat → Value, a = frm 92 uf2 [(1, .pointer (some ⟨g1, 0, none⟩)), (2, .pointer (some ⟨g2, 0, none⟩)), (5, ov)] [] ∧ Hs M w0 w' [.row (ov) 114 3 (List.length acc) (List.flatMap int3L acc), .blk g1 #[.int .i64 r, .int .i64 s, .int .i64 b, .int .i64 o, .int .i64 c, .int .i64 y, .int .i64 z, lv, g.pv, u1, .int .i64 ((rq.pu : Nat) : Int), .int .i64 ((rq.ru : Nat) : Int), .int .i64 rq.j.1, .int .i64 rq.j.2.1, .int .i64 rq.j.2.2.1, .int .i64 rq.j.2.2.2, .slice ad2 n2 c2] 39, .row (lv) 3 1 pg (List.map (Value.int .i64) (layL y r b o pg)), .row (g.pv) 142 2 (List.length g.Pg) (List.flatMap entL g.Pg), .row (u1) 142 2 (List.length (g.Rk ++ [(x.j.2.1, x.j.2.2.1)])) (List.flatMap entL (g.Rk ++ [(x.j.2.1, x.j.2.2.1)])), .row (g.fv) 80 2 (List.length g.F) (List.flatMap entL g.F), .blk g2 #[.int .i64 0, .int .i64 0, .int .i64 0, .int .i64 0, .int .i64 0, .int .i64 0, .int .i64 0, .slice none 0 0, .slice none 0 0, .slice none 0 0, .int .i64 0, .int .i64 0, .int .i64 0, .int .i64 0, .int .i64 0, .int .i64 0, .slice none 0 0] 39] ∧ (RpOk r s b o c z sn pg ns rq) ∧ (AskAt g.fv g.F ad2 n2 c2 rq.Q) ∧ (acc ++ (Rp.drain r s z sn ns rq rq.Q).2 = (Rp.fin r s z sn pg ns x).2) ∧ ((Rp.drain r s z sn ns rq rq.Q).1 = (Rp.fin r s z sn pg ns x).1) ∧ (DocM pg sn ns rq.L rq.D rq.S g.Pg (g.Rk ++ [(x.j.2.1, x.j.2.2.1)])) ∧ (acc.length + n2 ≤ 257)) (fun gh => match gh with | (rq, ad2, n2, c2, ov, acc) => n2) ((Rp.done r sn pg ns x), g.ad, g.n, g.c, .slice (some ⟨g4, 0, none⟩) 1 1, [(6, x.j.2.1, x.j.2.2.1)]) ⟨_, frm_of, H, (hx.done hL), (by rw [Rp.done_Q]; exact hg.a), (by rw [Rp.done_Q]; rfl), (by rw [Rp.done_Q]; rfl), hd0, (by simp; omega)⟩ ?_
      clear H
      rintro ⟨rq, ad2, n2, c2, ov, acc⟩ _ v11 ⟨uf2, rfl, H, r1, r2, r3, r4, r5, r6⟩
      have hq1 := r2.1
      have hq2 := r2.2.1
      refine x_seq <| x_seq <| x_region <| x_b H [.m, .m, .l 1 12, .v (.bool (decide (rq.j.1 = 0))), .v (.bool (decide (rq.j.1 = 0)))] ?_
      cases h6 : decide (rq.j.1 = 0)
      · skip
        have h6p := of_decide_eq_false h6
        refine x_b H [.k, .k, .k, .k, .m] <| x_nil <| x_then <| x_f (by kernel_rfl) <| x_exit <| x_then_exit <| x_then_exit ?_
        refine x_blk_exit <| x_then <| x_seq <| x_region <| x_b H [.n 1 0 17 39, .m] ?_
        have h7o := H.rowOne 2 rfl
        have h8o := H.rowOne 3 rfl
        have h9o := H.rowOne 4 rfl
        refine z_store H 6 0 [.int .i64 r, .int .i64 s, .int .i64 b, .int .i64 o, .int .i64 c, .int .i64 y, .int .i64 z, lv, g.pv, u1, .int .i64 ((rq.pu : Nat) : Int), .int .i64 ((rq.ru : Nat) : Int), .int .i64 rq.j.1, .int .i64 rq.j.2.1, .int .i64 rq.j.2.2.1, .int .i64 rq.j.2.2.2, .slice ad2 n2 c2] (fun v12 H => ?_) (h1 := (by simp only [List.all_cons, List.all_nil, h7o, h8o, h9o, Bool.and_true, Bool.true_and] <;> rfl))
        refine x_b H [.m] <| x_nil <| x_then <| x_retc <| x_ret (.tuple #[.agg #[.int .i64 r, .int .i64 s, .int .i64 b, .int .i64 o, .int .i64 c, .int .i64 y, .int .i64 z, lv, g.pv, u1, .int .i64 ((rq.pu : Nat) : Int), .int .i64 ((rq.ru : Nat) : Int), .int .i64 rq.j.1, .int .i64 rq.j.2.1, .int .i64 rq.j.2.2.1, .int .i64 rq.j.2.2.2, .slice ad2 n2 c2], ov]) (by kernel_rfl) (x_results [.cell 2 39, .tmp 3] [.agg #[.int .i64 r, .int .i64 s, .int .i64 b, .int .i64 o, .int .i64 c, .int .i64 y, .int .i64 z, lv, g.pv, u1, .int .i64 ((rq.pu : Nat) : Int), .int .i64 ((rq.ru : Nat) : Int), .int .i64 rq.j.1, .int .i64 rq.j.2.1, .int .i64 rq.j.2.2.1, .int .i64 rq.j.2.2.2, .slice ad2 n2 c2], ov] _ rfl (AllR.cell (by kernel_rfl) (ldR H 6 g2 0 #[.int .i64 r, .int .i64 s, .int .i64 b, .int .i64 o, .int .i64 c, .int .i64 y, .int .i64 z, lv, g.pv, u1, .int .i64 ((rq.pu : Nat) : Int), .int .i64 ((rq.ru : Nat) : Int), .int .i64 rq.j.1, .int .i64 rq.j.2.1, .int .i64 rq.j.2.2.1, .int .i64 rq.j.2.2.2, .slice ad2 n2 c2] 39 [.int .i64 r, .int .i64 s, .int .i64 b, .int .i64 o, .int .i64 c, .int .i64 y, .int .i64 z, lv, g.pv, u1, .int .i64 ((rq.pu : Nat) : Int), .int .i64 ((rq.ru : Nat) : Int), .int .i64 rq.j.1, .int .i64 rq.j.2.1, .int .i64 rq.j.2.2.1, .int .i64 rq.j.2.2.2, .slice ad2 n2 c2] (by kernel_rfl) (by kernel_rfl) (by kernel_rfl)) (AllR.tmp (by kernel_rfl) AllR.nil)) (by kernel_rfl)) ?_
        have e1 : (Rp.step r s z sn pg ns b o c x) = Rp.fin r s z sn pg ns x := by unfold Rp.step; rw [if_neg hj, if_pos (by omega)]; rfl
        rw [Rp.drain_busy rq h6p] at r3 r4
        have e4 : (Rp.fin r s z sn pg ns x).1 = rq := r4.symm
        have e3 : (Rp.fin r s z sn pg ns x).2 = acc := by rw [← r3]; simp
        rw [e1, e3, e4]
        replace H := H.pk [2, 3, 4, 5, 0]
        exact ⟨({ pv := g.pv, kv := u1, fv := g.fv, Pg := g.Pg, Rk := (g.Rk ++ [(x.j.2.1, x.j.2.2.1)]), F := g.F, ad := ad2, n := n2, c := c2 }, ov), rfl, H, ⟨r5, r2⟩, by first | exact Nat.le_succ _ | (simp; done) | (simp; omega), by first | exact Nat.le_succ _ | (simp; done) | (simp; omega)⟩
      have h6p := of_decide_eq_true h6
      refine x_b H [.m, .l 1 16, .m, .v (.bool (decide (0 < (n2 : Int)))), .v (.bool (decide (0 < (n2 : Int))))] <| x_nil <| x_then ?_
      cases h10 : decide (0 < (n2 : Int))
      · skip
        have h10p := of_decide_eq_false h10
        refine x_f (by kernel_rfl) <| x_exit <| x_then_exit <| x_then_exit <| x_blk_exit <| x_then <| x_seq ?_
        refine x_region <| x_b H [.n 1 0 17 39, .m] ?_
        have h11o := H.rowOne 2 rfl
        have h12o := H.rowOne 3 rfl
        have h13o := H.rowOne 4 rfl
        refine z_store H 6 0 [.int .i64 r, .int .i64 s, .int .i64 b, .int .i64 o, .int .i64 c, .int .i64 y, .int .i64 z, lv, g.pv, u1, .int .i64 ((rq.pu : Nat) : Int), .int .i64 ((rq.ru : Nat) : Int), .int .i64 rq.j.1, .int .i64 rq.j.2.1, .int .i64 rq.j.2.2.1, .int .i64 rq.j.2.2.2, .slice ad2 n2 c2] (fun v13 H => ?_) (h1 := (by simp only [List.all_cons, List.all_nil, h11o, h12o, h13o, Bool.and_true, Bool.true_and] <;> rfl))
        refine x_b H [.m] <| x_nil <| x_then <| x_retc <| x_ret (.tuple #[.agg #[.int .i64 r, .int .i64 s, .int .i64 b, .int .i64 o, .int .i64 c, .int .i64 y, .int .i64 z, lv, g.pv, u1, .int .i64 ((rq.pu : Nat) : Int), .int .i64 ((rq.ru : Nat) : Int), .int .i64 rq.j.1, .int .i64 rq.j.2.1, .int .i64 rq.j.2.2.1, .int .i64 rq.j.2.2.2, .slice ad2 n2 c2], ov]) (by kernel_rfl) (x_results [.cell 2 39, .tmp 3] [.agg #[.int .i64 r, .int .i64 s, .int .i64 b, .int .i64 o, .int .i64 c, .int .i64 y, .int .i64 z, lv, g.pv, u1, .int .i64 ((rq.pu : Nat) : Int), .int .i64 ((rq.ru : Nat) : Int), .int .i64 rq.j.1, .int .i64 rq.j.2.1, .int .i64 rq.j.2.2.1, .int .i64 rq.j.2.2.2, .slice ad2 n2 c2], ov] _ rfl (AllR.cell (by kernel_rfl) (ldR H 6 g2 0 #[.int .i64 r, .int .i64 s, .int .i64 b, .int .i64 o, .int .i64 c, .int .i64 y, .int .i64 z, lv, g.pv, u1, .int .i64 ((rq.pu : Nat) : Int), .int .i64 ((rq.ru : Nat) : Int), .int .i64 rq.j.1, .int .i64 rq.j.2.1, .int .i64 rq.j.2.2.1, .int .i64 rq.j.2.2.2, .slice ad2 n2 c2] 39 [.int .i64 r, .int .i64 s, .int .i64 b, .int .i64 o, .int .i64 c, .int .i64 y, .int .i64 z, lv, g.pv, u1, .int .i64 ((rq.pu : Nat) : Int), .int .i64 ((rq.ru : Nat) : Int), .int .i64 rq.j.1, .int .i64 rq.j.2.1, .int .i64 rq.j.2.2.1, .int .i64 rq.j.2.2.2, .slice ad2 n2 c2] (by kernel_rfl) (by kernel_rfl) (by kernel_rfl)) (AllR.tmp (by kernel_rfl) AllR.nil)) (by kernel_rfl)) ?_
        have e1 : (Rp.step r s z sn pg ns b o c x) = Rp.fin r s z sn pg ns x := by unfold Rp.step; rw [if_neg hj, if_pos (by omega)]; rfl
        have hQ0 : rq.Q = [] := List.eq_nil_of_length_eq_zero (by omega)
        rw [hQ0, Rp.drain] at r3 r4
        rw [hQ0] at r2
        have e4 : (Rp.fin r s z sn pg ns x).1 = (Rp.setQ rq []) := r4.symm
        have e3 : (Rp.fin r s z sn pg ns x).2 = acc := by rw [← r3]; simp
        rw [e1, e3, e4]
        replace H := H.pk [2, 3, 4, 5, 0]
        exact ⟨({ pv := g.pv, kv := u1, fv := g.fv, Pg := g.Pg, Rk := (g.Rk ++ [(x.j.2.1, x.j.2.2.1)]), F := g.F, ad := ad2, n := n2, c := c2 }, ov), rfl, H, ⟨r5, r2⟩, by first | exact Nat.le_succ _ | (simp; done) | (simp; omega), by first | exact Nat.le_succ _ | (simp; done) | (simp; omega)⟩
      have h10p := of_decide_eq_true h10
      obtain ⟨ga, oa, had, hcell⟩ := r2.at (by omega)
      have hQ : rq.Q = (rq.Q.getD 0 (0, 0)) :: rq.Q.tail := by cases e : rq.Q with | nil => rw [e] at hq1; simp at hq1; omega | cons a q => rfl
      refine x_t (by kernel_rfl) <| x_skipc <| x_then <| x_block <| x_seq <| x_region <| x_b H [.m, .l 1 16] ?_
      refine x_ixO (t := 37) had 0 n2 c2 80 2 (oa + 0 * 2) (by omega) (by omega) (by kernel_rfl) (by kernel_rfl) (by kernel_rfl) rfl (by kernel_rfl) <| x_loadcn (t := 80) ga (oa + 0 * 2) [.int .i64 ((rq.Q.getD 0 (0, 0)).1), .int .i64 ((rq.Q.getD 0 (0, 0)).2)] (hcell _ _ ((H.ok 5 _ rfl : Go.World.ownsRow _ 0 80 2 _ _ _)) 0 (by omega)) (by kernel_rfl) rfl (by kernel_rfl) (by kernel_rfl) <| z_box H #[.int .i64 0, .int .i64 0] 80 (fun v14 g5 H => ?_)
      refine z_store H 0 0 [.int .i64 ((rq.Q.getD 0 (0, 0)).1), .int .i64 ((rq.Q.getD 0 (0, 0)).2)] (fun v15 H => ?_)
      refine x_nil <| x_then <| x_seq <| x_region <| x_b H [.m, .l 2 16] <| x_val (.slice (sufA ad2 c2 1 2) (n2 - 1) (c2 - 1)) (by kernel_rfl) rfl (Eq.trans (by kernel_rfl) (slcL (P := Tryz.prog) (t := 37) (b := ad2) (n := n2) (c := c2) (l := 1) (sz := 2) (by kernel_rfl) (by kernel_rfl) (by omega))) <| x_b H [.m] ?_
      refine z_store H 2 16 [.slice (sufA ad2 c2 1 2) (n2 - 1) (c2 - 1)] (fun v16 H => ?_)
      refine x_nil <| x_then <| x_seq <| x_region <| x_b H [.n 2 0 17 39, .n 0 0 2 80] <| z_callB (v := .bool (Rp.void sn ns rq (rq.Q.getD 0 (0, 0)))) H (Void21 (ad := (sufA ad2 c2 1 2)) (n := (n2 - 1)) (ca := (c2 - 1)) hL r1 r5 hp2 hr2 (rq.Q.getD 0 (0, 0)) _ (H.ro1 [3, 4, 5])) fun v17 H => x_b H [.v (.bool (!(Rp.void sn ns rq (rq.Q.getD 0 (0, 0)))))] ?_
      refine x_nil <| x_then ?_
      cases h14 : Rp.void sn ns rq (rq.Q.getD 0 (0, 0))
      · skip
        refine x_t (by kernel_rfl) <| x_seq <| x_region <| x_b H [.n 2 0 17 39, .n 0 0 2 80] <| z_callB H (Start21 (ad := (sufA ad2 c2 1 2)) (n := (n2 - 1)) (ca := (c2 - 1)) hL r1 r5 hp2 hr2 (rq.Q.getD 0 (0, 0)) _ (H.ro1 [3, 4, 5])) fun v18 H => x_b H [.m, .m, .m] <| z_box H #[.int .i64 0, .int .i64 0, .int .i64 0, .int .i64 0, .int .i64 0, .int .i64 0, .int .i64 0, .slice none 0 0, .slice none 0 0, .slice none 0 0, .int .i64 0, .int .i64 0, .int .i64 0, .int .i64 0, .int .i64 0, .int .i64 0, .slice none 0 0] 39 (fun v19 g6 H => ?_)
        refine z_box H #[.int .i64 0, .int .i64 0, .int .i64 0] 114 (fun v20 g7 H => ?_)
        have h15o := H.rowOne 5 rfl
        have h16o := H.rowOne 6 rfl
        have h17o := H.rowOne 7 rfl
        refine z_store H 1 0 [.int .i64 r, .int .i64 s, .int .i64 b, .int .i64 o, .int .i64 c, .int .i64 y, .int .i64 z, lv, g.pv, u1, .int .i64 (((Rp.start r s z sn rq (rq.Q.getD 0 (0, 0))).pu : Nat) : Int), .int .i64 (((Rp.start r s z sn rq (rq.Q.getD 0 (0, 0))).ru : Nat) : Int), .int .i64 (((Rp.start r s z sn rq (rq.Q.getD 0 (0, 0))).j).1), .int .i64 (((Rp.start r s z sn rq (rq.Q.getD 0 (0, 0))).j).2.1), .int .i64 (((Rp.start r s z sn rq (rq.Q.getD 0 (0, 0))).j).2.2.1), .int .i64 (((Rp.start r s z sn rq (rq.Q.getD 0 (0, 0))).j).2.2.2), .slice (sufA ad2 c2 1 2) (n2 - 1) (c2 - 1)] (fun v21 H => ?_) (h1 := (by simp only [List.all_cons, List.all_nil, h15o, h16o, h17o, Bool.and_true, Bool.true_and] <;> rfl))
        refine z_store H 0 0 [.int .i64 ((Rp.startV r s z sn rq (rq.Q.getD 0 (0, 0))).1), .int .i64 ((Rp.startV r s z sn rq (rq.Q.getD 0 (0, 0))).2.1), .int .i64 ((Rp.startV r s z sn rq (rq.Q.getD 0 (0, 0))).2.2)] (fun v22 H => ?_)
        refine x_nil <| x_then <| x_seq <| x_region <| x_b H [.n 1 0 17 39] ?_
        have h18o := H.rowOne 5 rfl
        have h19o := H.rowOne 6 rfl
        have h20o := H.rowOne 7 rfl
        refine z_store H 4 0 [.int .i64 r, .int .i64 s, .int .i64 b, .int .i64 o, .int .i64 c, .int .i64 y, .int .i64 z, lv, g.pv, u1, .int .i64 (((Rp.start r s z sn rq (rq.Q.getD 0 (0, 0))).pu : Nat) : Int), .int .i64 (((Rp.start r s z sn rq (rq.Q.getD 0 (0, 0))).ru : Nat) : Int), .int .i64 (((Rp.start r s z sn rq (rq.Q.getD 0 (0, 0))).j).1), .int .i64 (((Rp.start r s z sn rq (rq.Q.getD 0 (0, 0))).j).2.1), .int .i64 (((Rp.start r s z sn rq (rq.Q.getD 0 (0, 0))).j).2.2.1), .int .i64 (((Rp.start r s z sn rq (rq.Q.getD 0 (0, 0))).j).2.2.2), .slice (sufA ad2 c2 1 2) (n2 - 1) (c2 - 1)] (fun v23 H => ?_) (h1 := (by simp only [List.all_cons, List.all_nil, h18o, h19o, h20o, Bool.and_true, Bool.true_and] <;> rfl))
        refine x_nil <| x_then <| x_region <| x_b H [.m, .n 0 0 3 114] <| x_box' H #[.int .i64 ((Rp.startV r s z sn rq (rq.Q.getD 0 (0, 0))).1), .int .i64 ((Rp.startV r s z sn rq (rq.Q.getD 0 (0, 0))).2.1), .int .i64 ((Rp.startV r s z sn rq (rq.Q.getD 0 (0, 0))).2.2)] 114 1 (by kernel_rfl) rfl (by kernel_rfl) ?_
        clear H
        intro v24 g8 H
        refine x_append H 4 (ov) 77 114 3 24 (List.length acc) (.agg #[.int .i64 0, .int .i64 0, .int .i64 0]) (List.flatMap int3L acc) ⟨g8, 0, none⟩ 1 1 [.int .i64 ((Rp.startV r s z sn rq (rq.Q.getD 0 (0, 0))).1), .int .i64 ((Rp.startV r s z sn rq (rq.Q.getD 0 (0, 0))).2.1), .int .i64 ((Rp.startV r s z sn rq (rq.Q.getD 0 (0, 0))).2.2)] rfl (by kernel_rfl) (by kernel_rfl) rfl (by decide) (by decide) rfl (fun j u hj => by rw [add_none]; exact cellOf (H.blk 0 rfl) (by simpa using hj)) (List.all_eq_true.1 (by kernel_rfl)) (by unfold maxLen; omega) (by omega) (by kernel_rfl) rfl (by kernel_rfl) ?_
        clear H
        intro v25 g9 c9 hc9 H
        rw [show (((List.length acc) + 1) : Nat) = (List.length (acc ++ [(Rp.startV r s z sn rq (rq.Q.getD 0 (0, 0)))])) from (by simp)] at H ⊢
        rw [show (List.flatMap int3L acc) ++ [.int .i64 ((Rp.startV r s z sn rq (rq.Q.getD 0 (0, 0))).1), .int .i64 ((Rp.startV r s z sn rq (rq.Q.getD 0 (0, 0))).2.1), .int .i64 ((Rp.startV r s z sn rq (rq.Q.getD 0 (0, 0))).2.2)] = (List.flatMap int3L (acc ++ [(Rp.startV r s z sn rq (rq.Q.getD 0 (0, 0)))])) from (by rw [List.flatMap_append]; rfl)] at H
        replace H := H.pk [1, 2, 3, 4, 5, 6, 7, 8, 9, 10]
        refine x_b H [.m] <| x_nil <| z_fr 92 [(1, .pointer (some ⟨g1, 0, none⟩)), (2, .pointer (some ⟨g2, 0, none⟩)), (5, .slice (some ⟨g9, 0, none⟩) (List.length (acc ++ [(Rp.startV r s z sn rq (rq.Q.getD 0 (0, 0)))])) c9)] [] fun uf3 => x_blk <| x_then ?_
        rw [hQ] at r3 r4
        rw [Rp.drain_start rq h6p _ _ h14] at r3 r4
        have hyt : ∀ a ∈ rq.Q.tail, a.1 = 1 ∨ a.1 = 2 := fun a ha => r1.qk a (List.mem_of_mem_tail ha)
        have hyl := r1.ql
        have hyn := r2.1
        replace H := hsCast (H.pk [3, 4, 5, 6, 7, 8, 9]) (L2 := [.row (.slice (some ⟨g9, 0, none⟩) (List.length (acc ++ [(Rp.startV r s z sn rq (rq.Q.getD 0 (0, 0)))])) c9) 114 3 (List.length (acc ++ [(Rp.startV r s z sn rq (rq.Q.getD 0 (0, 0)))])) (List.flatMap int3L (acc ++ [(Rp.startV r s z sn rq (rq.Q.getD 0 (0, 0)))])), .blk g1 #[.int .i64 r, .int .i64 s, .int .i64 b, .int .i64 o, .int .i64 c, .int .i64 y, .int .i64 z, lv, g.pv, u1, .int .i64 (((Rp.setQ (Rp.start r s z sn rq (rq.Q.getD 0 (0, 0))) rq.Q.tail).pu : Nat) : Int), .int .i64 (((Rp.setQ (Rp.start r s z sn rq (rq.Q.getD 0 (0, 0))) rq.Q.tail).ru : Nat) : Int), .int .i64 (((Rp.setQ (Rp.start r s z sn rq (rq.Q.getD 0 (0, 0))) rq.Q.tail).j).1), .int .i64 (((Rp.setQ (Rp.start r s z sn rq (rq.Q.getD 0 (0, 0))) rq.Q.tail).j).2.1), .int .i64 (((Rp.setQ (Rp.start r s z sn rq (rq.Q.getD 0 (0, 0))) rq.Q.tail).j).2.2.1), .int .i64 (((Rp.setQ (Rp.start r s z sn rq (rq.Q.getD 0 (0, 0))) rq.Q.tail).j).2.2.2), .slice (sufA ad2 c2 1 2) (n2 - 1) (c2 - 1)] 39, .row (lv) 3 1 pg (List.map (Value.int .i64) (layL y r b o pg)), .row (g.pv) 142 2 (List.length g.Pg) (List.flatMap entL g.Pg), .row (u1) 142 2 (List.length (g.Rk ++ [(x.j.2.1, x.j.2.2.1)])) (List.flatMap entL (g.Rk ++ [(x.j.2.1, x.j.2.2.1)])), .row (g.fv) 80 2 (List.length g.F) (List.flatMap entL g.F), .blk g2 #[.int .i64 0, .int .i64 0, .int .i64 0, .int .i64 0, .int .i64 0, .int .i64 0, .int .i64 0, .slice none 0 0, .slice none 0 0, .slice none 0 0, .int .i64 0, .int .i64 0, .int .i64 0, .int .i64 0, .int .i64 0, .int .i64 0, .slice none 0 0] 39]) (by kernel_rfl)
        exact ⟨((Rp.setQ (Rp.start r s z sn rq (rq.Q.getD 0 (0, 0))) rq.Q.tail), (sufA ad2 c2 1 2), (n2 - 1), (c2 - 1), .slice (some ⟨g9, 0, none⟩) (List.length (acc ++ [(Rp.startV r s z sn rq (rq.Q.getD 0 (0, 0)))])) c9, (acc ++ [(Rp.startV r s z sn rq (rq.Q.getD 0 (0, 0)))])), (by dsimp only; omega), _, frm_of, H, ((r1.start hL h6p h14).setQ hyt (by rw [List.length_tail]; omega)), (r2.tail (by omega)), ((List.append_assoc _ _ _).trans r3), r4, (DocM.start r5), (by simp only [List.length_append, List.length_cons, List.length_nil]; omega)⟩
      refine x_f (by kernel_rfl) <| x_skipc <| x_blk <| x_then ?_
      rw [hQ] at r3 r4
      rw [Rp.drain_void rq h6p _ _ h14] at r3 r4
      have hyt : ∀ a ∈ rq.Q.tail, a.1 = 1 ∨ a.1 = 2 := fun a ha => r1.qk a (List.mem_of_mem_tail ha)
      have hyl := r1.ql
      have hyn := r2.1
      replace H := hsCast (H.pk [1, 2, 3, 4, 5, 6, 7]) (L2 := [.row (ov) 114 3 (List.length acc) (List.flatMap int3L acc), .blk g1 #[.int .i64 r, .int .i64 s, .int .i64 b, .int .i64 o, .int .i64 c, .int .i64 y, .int .i64 z, lv, g.pv, u1, .int .i64 (((Rp.setQ rq rq.Q.tail).pu : Nat) : Int), .int .i64 (((Rp.setQ rq rq.Q.tail).ru : Nat) : Int), .int .i64 (((Rp.setQ rq rq.Q.tail).j).1), .int .i64 (((Rp.setQ rq rq.Q.tail).j).2.1), .int .i64 (((Rp.setQ rq rq.Q.tail).j).2.2.1), .int .i64 (((Rp.setQ rq rq.Q.tail).j).2.2.2), .slice (sufA ad2 c2 1 2) (n2 - 1) (c2 - 1)] 39, .row (lv) 3 1 pg (List.map (Value.int .i64) (layL y r b o pg)), .row (g.pv) 142 2 (List.length g.Pg) (List.flatMap entL g.Pg), .row (u1) 142 2 (List.length (g.Rk ++ [(x.j.2.1, x.j.2.2.1)])) (List.flatMap entL (g.Rk ++ [(x.j.2.1, x.j.2.2.1)])), .row (g.fv) 80 2 (List.length g.F) (List.flatMap entL g.F), .blk g2 #[.int .i64 0, .int .i64 0, .int .i64 0, .int .i64 0, .int .i64 0, .int .i64 0, .int .i64 0, .slice none 0 0, .slice none 0 0, .slice none 0 0, .int .i64 0, .int .i64 0, .int .i64 0, .int .i64 0, .int .i64 0, .int .i64 0, .slice none 0 0] 39]) (by kernel_rfl)
      exact ⟨((Rp.setQ rq rq.Q.tail), (sufA ad2 c2 1 2), (n2 - 1), (c2 - 1), ov, acc), (by dsimp only; omega), _, frm_of, H, (r1.setQ hyt (by rw [List.length_tail]; omega)), (r2.tail (by omega)), r3, r4, r5, (by omega)⟩
    have h2p := of_decide_eq_true h2
    refine x_t (by kernel_rfl) <| x_region <| x_b H [.m, .n 2 0 12 34, .m, .l 0 1, .m, .l 0 2] <| z_call (Ret19_yes hL hg.d (by omega) (by omega) hx.v x.j.2.1 x.j.2.2.1 (hx.reE0 hL (by omega)) _ (H.ro1 [3, 4, 5])) ?_
    rintro _ v26 ⟨u1, rfl, hN'⟩
    refine ⟨_, rfl, ?_⟩
    replace H := H.more hN'
    clear hN'
    refine x_b H [.m, .m, .m, .m] ?_
    have h21o := H.rowOne 4 rfl
    have h22o := H.rowOne 0 rfl
    have h23o := H.rowOne 6 rfl
    refine z_store H 3 0 [.int .i64 r, .int .i64 s, .int .i64 b, .int .i64 o, .int .i64 c, .int .i64 y, .int .i64 z, lv, u1, g.kv, .int .i64 ((x.pu : Nat) : Int), .int .i64 ((x.ru : Nat) : Int)] (fun v27 H => ?_) (h1 := (by simp only [List.all_cons, List.all_nil, h21o, h22o, h23o, Bool.and_true, Bool.true_and] <;> rfl))
    refine x_nil <| x_then <| x_seq <| x_region <| x_b H [.m, .l 1 1, .m, .l 1 2, .m] <| x_box' H #[.int .i64 6, .int .i64 x.j.2.1, .int .i64 x.j.2.2.1] 114 1 (by kernel_rfl) rfl (by kernel_rfl) ?_
    clear H
    intro v28 g10 H
    refine x_b H [.m] <| x_nil <| z_fr 92 [(1, .pointer (some ⟨g1, 0, none⟩)), (2, .pointer (some ⟨g2, 0, none⟩)), (5, .slice (some ⟨g10, 0, none⟩) 1 1)] [] fun uf4 => x_then <| x_seq <| x_block ?_
    replace H := H.rowLit 0 rfl 1 3 rfl (by decide)
    have ed : (Rp.done r sn pg ns x) = { x with L := (reL sn pg x.pu x.D x.j.2.1 x.j.2.2.1 x.L), D := (reD sn pg x.pu x.D x.j.2.1 x.j.2.2.1), j := (0, 0, 0, 0) } := by unfold Rp.done; rw [if_pos h2p]
    replace H := hsCast (H.pk [0, 4, 5, 1, 7, 8, 3]) (L2 := [.row (.slice (some ⟨g10, 0, none⟩) 1 1) 114 3 (List.length ([(6, x.j.2.1, x.j.2.2.1)])) (List.flatMap int3L ([(6, x.j.2.1, x.j.2.2.1)])), .blk g1 #[.int .i64 r, .int .i64 s, .int .i64 b, .int .i64 o, .int .i64 c, .int .i64 y, .int .i64 z, lv, u1, g.kv, .int .i64 ((x.pu : Nat) : Int), .int .i64 ((x.ru : Nat) : Int), .int .i64 0, .int .i64 0, .int .i64 0, .int .i64 0, .slice g.ad g.n g.c] 39, .row (lv) 3 1 pg (List.map (Value.int .i64) (layL y r b o pg)), .row (u1) 142 2 (List.length (g.Pg ++ [(x.j.2.1, x.j.2.2.1)])) (List.flatMap entL (g.Pg ++ [(x.j.2.1, x.j.2.2.1)])), .row (g.kv) 142 2 (List.length g.Rk) (List.flatMap entL g.Rk), .row (g.fv) 80 2 (List.length g.F) (List.flatMap entL g.F), .blk g2 #[.int .i64 0, .int .i64 0, .int .i64 0, .int .i64 0, .int .i64 0, .int .i64 0, .int .i64 0, .slice none 0 0, .slice none 0 0, .slice none 0 0, .int .i64 0, .int .i64 0, .int .i64 0, .int .i64 0, .int .i64 0, .int .i64 0, .slice none 0 0] 39]) (by kernel_rfl)
    replace H := hsCast H (L2 := [.row (.slice (some ⟨g10, 0, none⟩) 1 1) 114 3 (List.length ([(6, x.j.2.1, x.j.2.2.1)])) (List.flatMap int3L ([(6, x.j.2.1, x.j.2.2.1)])), .blk g1 #[.int .i64 r, .int .i64 s, .int .i64 b, .int .i64 o, .int .i64 c, .int .i64 y, .int .i64 z, lv, u1, g.kv, .int .i64 (((Rp.done r sn pg ns x).pu : Nat) : Int), .int .i64 (((Rp.done r sn pg ns x).ru : Nat) : Int), .int .i64 (((Rp.done r sn pg ns x).j).1), .int .i64 (((Rp.done r sn pg ns x).j).2.1), .int .i64 (((Rp.done r sn pg ns x).j).2.2.1), .int .i64 (((Rp.done r sn pg ns x).j).2.2.2), .slice g.ad g.n g.c] 39, .row (lv) 3 1 pg (List.map (Value.int .i64) (layL y r b o pg)), .row (u1) 142 2 (List.length (g.Pg ++ [(x.j.2.1, x.j.2.2.1)])) (List.flatMap entL (g.Pg ++ [(x.j.2.1, x.j.2.2.1)])), .row (g.kv) 142 2 (List.length g.Rk) (List.flatMap entL g.Rk), .row (g.fv) 80 2 (List.length g.F) (List.flatMap entL g.F), .blk g2 #[.int .i64 0, .int .i64 0, .int .i64 0, .int .i64 0, .int .i64 0, .int .i64 0, .int .i64 0, .slice none 0 0, .slice none 0 0, .slice none 0 0, .int .i64 0, .int .i64 0, .int .i64 0, .int .i64 0, .int .i64 0, .int .i64 0, .slice none 0 0] 39]) (by first | (rw [ed]; done) | (rw [ed]; rfl))
    have hp2 : List.length (g.Pg ++ [(x.j.2.1, x.j.2.2.1)]) ≤ 4000 := by first | omega | (simp; omega)
    have hr2 : List.length g.Rk ≤ 4000 := by first | omega | (simp; omega)
    have hd0 : DocM pg sn ns (Rp.done r sn pg ns x).L (Rp.done r sn pg ns x).D (Rp.done r sn pg ns x).S (g.Pg ++ [(x.j.2.1, x.j.2.2.1)]) g.Rk := by rw [ed]; exact hg.d.retire hx.v (by omega) (hx.reE0 hL (by omega))
    refine x_loop (G := Rp × Option Addr × Nat × Nat × Value × List Int3) (fun gh a w' => match gh with | (rq, ad2, n2, c2, ov, acc) => ∃ uf5 : Nat → Value, a = frm 92 uf5 [(1, .pointer (some ⟨g1, 0, none⟩)), (2, .pointer (some ⟨g2, 0, none⟩)), (5, ov)] [] ∧ Hs M w0 w' [.row (ov) 114 3 (List.length acc) (List.flatMap int3L acc), .blk g1 #[.int .i64 r, .int .i64 s, .int .i64 b, .int .i64 o, .int .i64 c, .int .i64 y, .int .i64 z, lv, u1, g.kv, .int .i64 ((rq.pu : Nat) : Int), .int .i64 ((rq.ru : Nat) : Int), .int .i64 rq.j.1, .int .i64 rq.j.2.1, .int .i64 rq.j.2.2.1, .int .i64 rq.j.2.2.2, .slice ad2 n2 c2] 39, .row (lv) 3 1 pg (List.map (Value.int .i64) (layL y r b o pg)), .row (u1) 142 2 (List.length (g.Pg ++ [(x.j.2.1, x.j.2.2.1)])) (List.flatMap entL (g.Pg ++ [(x.j.2.1, x.j.2.2.1)])), .row (g.kv) 142 2 (List.length g.Rk) (List.flatMap entL g.Rk), .row (g.fv) 80 2 (List.length g.F) (List.flatMap entL g.F), .blk g2 #[.int .i64 0, .int .i64 0, .int .i64 0, .int .i64 0, .int .i64 0, .int .i64 0, .int .i64 0, .slice none 0 0, .slice none 0 0, .slice none 0 0, .int .i64 0, .int .i64 0, .int .i64 0, .int .i64 0, .int .i64 0, .int .i64 0, .slice none 0 0] 39] ∧ (RpOk r s b o c z sn pg ns rq) ∧ (AskAt g.fv g.F ad2 n2 c2 rq.Q) ∧ (acc ++ (Rp.drain r s z sn ns rq rq.Q).2 = (Rp.fin r s z sn pg ns x).2) ∧ ((Rp.drain r s z sn ns rq rq.Q).1 = (Rp.fin r s z sn pg ns x).1) ∧ (DocM pg sn ns rq.L rq.D rq.S (g.Pg ++ [(x.j.2.1, x.j.2.2.1)]) g.Rk) ∧ (acc.length + n2 ≤ 257)) (fun gh => match gh with | (rq, ad2, n2, c2, ov, acc) => n2) ((Rp.done r sn pg ns x), g.ad, g.n, g.c, .slice (some ⟨g10, 0, none⟩) 1 1, [(6, x.j.2.1, x.j.2.2.1)]) ⟨_, frm_of, H, (hx.done hL), (by rw [Rp.done_Q]; exact hg.a), (by rw [Rp.done_Q]; rfl), (by rw [Rp.done_Q]; rfl), hd0, (by simp; omega)⟩ ?_
    clear H
    rintro ⟨rq, ad2, n2, c2, ov, acc⟩ _ v29 ⟨uf5, rfl, H, r1, r2, r3, r4, r5, r6⟩
    have hq1 := r2.1
    have hq2 := r2.2.1
    refine x_seq <| x_seq <| x_region <| x_b H [.m, .m, .l 1 12, .v (.bool (decide (rq.j.1 = 0))), .v (.bool (decide (rq.j.1 = 0)))] ?_
    cases h24 : decide (rq.j.1 = 0)
    · skip
      have h24p := of_decide_eq_false h24
      refine x_b H [.k, .k, .k, .k, .m] <| x_nil <| x_then <| x_f (by kernel_rfl) <| x_exit <| x_then_exit <| x_then_exit ?_
      refine x_blk_exit <| x_then <| x_seq <| x_region <| x_b H [.n 1 0 17 39, .m] ?_
      have h25o := H.rowOne 2 rfl
      have h26o := H.rowOne 3 rfl
      have h27o := H.rowOne 4 rfl
      refine z_store H 6 0 [.int .i64 r, .int .i64 s, .int .i64 b, .int .i64 o, .int .i64 c, .int .i64 y, .int .i64 z, lv, u1, g.kv, .int .i64 ((rq.pu : Nat) : Int), .int .i64 ((rq.ru : Nat) : Int), .int .i64 rq.j.1, .int .i64 rq.j.2.1, .int .i64 rq.j.2.2.1, .int .i64 rq.j.2.2.2, .slice ad2 n2 c2] (fun v30 H => ?_) (h1 := (by simp only [List.all_cons, List.all_nil, h25o, h26o, h27o, Bool.and_true, Bool.true_and] <;> rfl))
      refine x_b H [.m] <| x_nil <| x_then <| x_retc <| x_ret (.tuple #[.agg #[.int .i64 r, .int .i64 s, .int .i64 b, .int .i64 o, .int .i64 c, .int .i64 y, .int .i64 z, lv, u1, g.kv, .int .i64 ((rq.pu : Nat) : Int), .int .i64 ((rq.ru : Nat) : Int), .int .i64 rq.j.1, .int .i64 rq.j.2.1, .int .i64 rq.j.2.2.1, .int .i64 rq.j.2.2.2, .slice ad2 n2 c2], ov]) (by kernel_rfl) (x_results [.cell 2 39, .tmp 3] [.agg #[.int .i64 r, .int .i64 s, .int .i64 b, .int .i64 o, .int .i64 c, .int .i64 y, .int .i64 z, lv, u1, g.kv, .int .i64 ((rq.pu : Nat) : Int), .int .i64 ((rq.ru : Nat) : Int), .int .i64 rq.j.1, .int .i64 rq.j.2.1, .int .i64 rq.j.2.2.1, .int .i64 rq.j.2.2.2, .slice ad2 n2 c2], ov] _ rfl (AllR.cell (by kernel_rfl) (ldR H 6 g2 0 #[.int .i64 r, .int .i64 s, .int .i64 b, .int .i64 o, .int .i64 c, .int .i64 y, .int .i64 z, lv, u1, g.kv, .int .i64 ((rq.pu : Nat) : Int), .int .i64 ((rq.ru : Nat) : Int), .int .i64 rq.j.1, .int .i64 rq.j.2.1, .int .i64 rq.j.2.2.1, .int .i64 rq.j.2.2.2, .slice ad2 n2 c2] 39 [.int .i64 r, .int .i64 s, .int .i64 b, .int .i64 o, .int .i64 c, .int .i64 y, .int .i64 z, lv, u1, g.kv, .int .i64 ((rq.pu : Nat) : Int), .int .i64 ((rq.ru : Nat) : Int), .int .i64 rq.j.1, .int .i64 rq.j.2.1, .int .i64 rq.j.2.2.1, .int .i64 rq.j.2.2.2, .slice ad2 n2 c2] (by kernel_rfl) (by kernel_rfl) (by kernel_rfl)) (AllR.tmp (by kernel_rfl) AllR.nil)) (by kernel_rfl)) ?_
      have e1 : (Rp.step r s z sn pg ns b o c x) = Rp.fin r s z sn pg ns x := by unfold Rp.step; rw [if_neg hj, if_pos (by omega)]; rfl
      rw [Rp.drain_busy rq h24p] at r3 r4
      have e4 : (Rp.fin r s z sn pg ns x).1 = rq := r4.symm
      have e3 : (Rp.fin r s z sn pg ns x).2 = acc := by rw [← r3]; simp
      rw [e1, e3, e4]
      replace H := H.pk [2, 3, 4, 5, 0]
      exact ⟨({ pv := u1, kv := g.kv, fv := g.fv, Pg := (g.Pg ++ [(x.j.2.1, x.j.2.2.1)]), Rk := g.Rk, F := g.F, ad := ad2, n := n2, c := c2 }, ov), rfl, H, ⟨r5, r2⟩, by first | exact Nat.le_succ _ | (simp; done) | (simp; omega), by first | exact Nat.le_succ _ | (simp; done) | (simp; omega)⟩
    have h24p := of_decide_eq_true h24
    refine x_b H [.m, .l 1 16, .m, .v (.bool (decide (0 < (n2 : Int)))), .v (.bool (decide (0 < (n2 : Int))))] <| x_nil <| x_then ?_
    cases h28 : decide (0 < (n2 : Int))
    · skip
      have h28p := of_decide_eq_false h28
      refine x_f (by kernel_rfl) <| x_exit <| x_then_exit <| x_then_exit <| x_blk_exit <| x_then <| x_seq ?_
      refine x_region <| x_b H [.n 1 0 17 39, .m] ?_
      have h29o := H.rowOne 2 rfl
      have h30o := H.rowOne 3 rfl
      have h31o := H.rowOne 4 rfl
      refine z_store H 6 0 [.int .i64 r, .int .i64 s, .int .i64 b, .int .i64 o, .int .i64 c, .int .i64 y, .int .i64 z, lv, u1, g.kv, .int .i64 ((rq.pu : Nat) : Int), .int .i64 ((rq.ru : Nat) : Int), .int .i64 rq.j.1, .int .i64 rq.j.2.1, .int .i64 rq.j.2.2.1, .int .i64 rq.j.2.2.2, .slice ad2 n2 c2] (fun v31 H => ?_) (h1 := (by simp only [List.all_cons, List.all_nil, h29o, h30o, h31o, Bool.and_true, Bool.true_and] <;> rfl))
      refine x_b H [.m] <| x_nil <| x_then <| x_retc <| x_ret (.tuple #[.agg #[.int .i64 r, .int .i64 s, .int .i64 b, .int .i64 o, .int .i64 c, .int .i64 y, .int .i64 z, lv, u1, g.kv, .int .i64 ((rq.pu : Nat) : Int), .int .i64 ((rq.ru : Nat) : Int), .int .i64 rq.j.1, .int .i64 rq.j.2.1, .int .i64 rq.j.2.2.1, .int .i64 rq.j.2.2.2, .slice ad2 n2 c2], ov]) (by kernel_rfl) (x_results [.cell 2 39, .tmp 3] [.agg #[.int .i64 r, .int .i64 s, .int .i64 b, .int .i64 o, .int .i64 c, .int .i64 y, .int .i64 z, lv, u1, g.kv, .int .i64 ((rq.pu : Nat) : Int), .int .i64 ((rq.ru : Nat) : Int), .int .i64 rq.j.1, .int .i64 rq.j.2.1, .int .i64 rq.j.2.2.1, .int .i64 rq.j.2.2.2, .slice ad2 n2 c2], ov] _ rfl (AllR.cell (by kernel_rfl) (ldR H 6 g2 0 #[.int .i64 r, .int .i64 s, .int .i64 b, .int .i64 o, .int .i64 c, .int .i64 y, .int .i64 z, lv, u1, g.kv, .int .i64 ((rq.pu : Nat) : Int), .int .i64 ((rq.ru : Nat) : Int), .int .i64 rq.j.1, .int .i64 rq.j.2.1, .int .i64 rq.j.2.2.1, .int .i64 rq.j.2.2.2, .slice ad2 n2 c2] 39 [.int .i64 r, .int .i64 s, .int .i64 b, .int .i64 o, .int .i64 c, .int .i64 y, .int .i64 z, lv, u1, g.kv, .int .i64 ((rq.pu : Nat) : Int), .int .i64 ((rq.ru : Nat) : Int), .int .i64 rq.j.1, .int .i64 rq.j.2.1, .int .i64 rq.j.2.2.1, .int .i64 rq.j.2.2.2, .slice ad2 n2 c2] (by kernel_rfl) (by kernel_rfl) (by kernel_rfl)) (AllR.tmp (by kernel_rfl) AllR.nil)) (by kernel_rfl)) ?_
      have e1 : (Rp.step r s z sn pg ns b o c x) = Rp.fin r s z sn pg ns x := by unfold Rp.step; rw [if_neg hj, if_pos (by omega)]; rfl
      have hQ0 : rq.Q = [] := List.eq_nil_of_length_eq_zero (by omega)
      rw [hQ0, Rp.drain] at r3 r4
      rw [hQ0] at r2
      have e4 : (Rp.fin r s z sn pg ns x).1 = (Rp.setQ rq []) := r4.symm
      have e3 : (Rp.fin r s z sn pg ns x).2 = acc := by rw [← r3]; simp
      rw [e1, e3, e4]
      replace H := H.pk [2, 3, 4, 5, 0]
      exact ⟨({ pv := u1, kv := g.kv, fv := g.fv, Pg := (g.Pg ++ [(x.j.2.1, x.j.2.2.1)]), Rk := g.Rk, F := g.F, ad := ad2, n := n2, c := c2 }, ov), rfl, H, ⟨r5, r2⟩, by first | exact Nat.le_succ _ | (simp; done) | (simp; omega), by first | exact Nat.le_succ _ | (simp; done) | (simp; omega)⟩
    have h28p := of_decide_eq_true h28
    obtain ⟨ga, oa, had, hcell⟩ := r2.at (by omega)
    have hQ : rq.Q = (rq.Q.getD 0 (0, 0)) :: rq.Q.tail := by cases e : rq.Q with | nil => rw [e] at hq1; simp at hq1; omega | cons a q => rfl
    refine x_t (by kernel_rfl) <| x_skipc <| x_then <| x_block <| x_seq <| x_region <| x_b H [.m, .l 1 16] ?_
    refine x_ixO (t := 37) had 0 n2 c2 80 2 (oa + 0 * 2) (by omega) (by omega) (by kernel_rfl) (by kernel_rfl) (by kernel_rfl) rfl (by kernel_rfl) <| x_loadcn (t := 80) ga (oa + 0 * 2) [.int .i64 ((rq.Q.getD 0 (0, 0)).1), .int .i64 ((rq.Q.getD 0 (0, 0)).2)] (hcell _ _ ((H.ok 5 _ rfl : Go.World.ownsRow _ 0 80 2 _ _ _)) 0 (by omega)) (by kernel_rfl) rfl (by kernel_rfl) (by kernel_rfl) <| z_box H #[.int .i64 0, .int .i64 0] 80 (fun v32 g11 H => ?_)
    refine z_store H 0 0 [.int .i64 ((rq.Q.getD 0 (0, 0)).1), .int .i64 ((rq.Q.getD 0 (0, 0)).2)] (fun v33 H => ?_)
    refine x_nil <| x_then <| x_seq <| x_region <| x_b H [.m, .l 2 16] <| x_val (.slice (sufA ad2 c2 1 2) (n2 - 1) (c2 - 1)) (by kernel_rfl) rfl (Eq.trans (by kernel_rfl) (slcL (P := Tryz.prog) (t := 37) (b := ad2) (n := n2) (c := c2) (l := 1) (sz := 2) (by kernel_rfl) (by kernel_rfl) (by omega))) <| x_b H [.m] ?_
    refine z_store H 2 16 [.slice (sufA ad2 c2 1 2) (n2 - 1) (c2 - 1)] (fun v34 H => ?_)
    refine x_nil <| x_then <| x_seq <| x_region <| x_b H [.n 2 0 17 39, .n 0 0 2 80] <| z_callB (v := .bool (Rp.void sn ns rq (rq.Q.getD 0 (0, 0)))) H (Void21 (ad := (sufA ad2 c2 1 2)) (n := (n2 - 1)) (ca := (c2 - 1)) hL r1 r5 hp2 hr2 (rq.Q.getD 0 (0, 0)) _ (H.ro1 [3, 4, 5])) fun v35 H => x_b H [.v (.bool (!(Rp.void sn ns rq (rq.Q.getD 0 (0, 0)))))] ?_
    refine x_nil <| x_then ?_
    cases h32 : Rp.void sn ns rq (rq.Q.getD 0 (0, 0))
    · skip
      refine x_t (by kernel_rfl) <| x_seq <| x_region <| x_b H [.n 2 0 17 39, .n 0 0 2 80] <| z_callB H (Start21 (ad := (sufA ad2 c2 1 2)) (n := (n2 - 1)) (ca := (c2 - 1)) hL r1 r5 hp2 hr2 (rq.Q.getD 0 (0, 0)) _ (H.ro1 [3, 4, 5])) fun v36 H => x_b H [.m, .m, .m] <| z_box H #[.int .i64 0, .int .i64 0, .int .i64 0, .int .i64 0, .int .i64 0, .int .i64 0, .int .i64 0, .slice none 0 0, .slice none 0 0, .slice none 0 0, .int .i64 0, .int .i64 0, .int .i64 0, .int .i64 0, .int .i64 0, .int .i64 0, .slice none 0 0] 39 (fun v37 g12 H => ?_)
      refine z_box H #[.int .i64 0, .int .i64 0, .int .i64 0] 114 (fun v38 g13 H => ?_)
      have h33o := H.rowOne 5 rfl
      have h34o := H.rowOne 6 rfl
      have h35o := H.rowOne 7 rfl
      refine z_store H 1 0 [.int .i64 r, .int .i64 s, .int .i64 b, .int .i64 o, .int .i64 c, .int .i64 y, .int .i64 z, lv, u1, g.kv, .int .i64 (((Rp.start r s z sn rq (rq.Q.getD 0 (0, 0))).pu : Nat) : Int), .int .i64 (((Rp.start r s z sn rq (rq.Q.getD 0 (0, 0))).ru : Nat) : Int), .int .i64 (((Rp.start r s z sn rq (rq.Q.getD 0 (0, 0))).j).1), .int .i64 (((Rp.start r s z sn rq (rq.Q.getD 0 (0, 0))).j).2.1), .int .i64 (((Rp.start r s z sn rq (rq.Q.getD 0 (0, 0))).j).2.2.1), .int .i64 (((Rp.start r s z sn rq (rq.Q.getD 0 (0, 0))).j).2.2.2), .slice (sufA ad2 c2 1 2) (n2 - 1) (c2 - 1)] (fun v39 H => ?_) (h1 := (by simp only [List.all_cons, List.all_nil, h33o, h34o, h35o, Bool.and_true, Bool.true_and] <;> rfl))
      refine z_store H 0 0 [.int .i64 ((Rp.startV r s z sn rq (rq.Q.getD 0 (0, 0))).1), .int .i64 ((Rp.startV r s z sn rq (rq.Q.getD 0 (0, 0))).2.1), .int .i64 ((Rp.startV r s z sn rq (rq.Q.getD 0 (0, 0))).2.2)] (fun v40 H => ?_)
      refine x_nil <| x_then <| x_seq <| x_region <| x_b H [.n 1 0 17 39] ?_
      have h36o := H.rowOne 5 rfl
      have h37o := H.rowOne 6 rfl
      have h38o := H.rowOne 7 rfl
      refine z_store H 4 0 [.int .i64 r, .int .i64 s, .int .i64 b, .int .i64 o, .int .i64 c, .int .i64 y, .int .i64 z, lv, u1, g.kv, .int .i64 (((Rp.start r s z sn rq (rq.Q.getD 0 (0, 0))).pu : Nat) : Int), .int .i64 (((Rp.start r s z sn rq (rq.Q.getD 0 (0, 0))).ru : Nat) : Int), .int .i64 (((Rp.start r s z sn rq (rq.Q.getD 0 (0, 0))).j).1), .int .i64 (((Rp.start r s z sn rq (rq.Q.getD 0 (0, 0))).j).2.1), .int .i64 (((Rp.start r s z sn rq (rq.Q.getD 0 (0, 0))).j).2.2.1), .int .i64 (((Rp.start r s z sn rq (rq.Q.getD 0 (0, 0))).j).2.2.2), .slice (sufA ad2 c2 1 2) (n2 - 1) (c2 - 1)] (fun v41 H => ?_) (h1 := (by simp only [List.all_cons, List.all_nil, h36o, h37o, h38o, Bool.and_true, Bool.true_and] <;> rfl))
      refine x_nil <| x_then <| x_region <| x_b H [.m, .n 0 0 3 114] <| x_box' H #[.int .i64 ((Rp.startV r s z sn rq (rq.Q.getD 0 (0, 0))).1), .int .i64 ((Rp.startV r s z sn rq (rq.Q.getD 0 (0, 0))).2.1), .int .i64 ((Rp.startV r s z sn rq (rq.Q.getD 0 (0, 0))).2.2)] 114 1 (by kernel_rfl) rfl (by kernel_rfl) ?_
      clear H
      intro v42 g14 H
      refine x_append H 4 (ov) 77 114 3 24 (List.length acc) (.agg #[.int .i64 0, .int .i64 0, .int .i64 0]) (List.flatMap int3L acc) ⟨g14, 0, none⟩ 1 1 [.int .i64 ((Rp.startV r s z sn rq (rq.Q.getD 0 (0, 0))).1), .int .i64 ((Rp.startV r s z sn rq (rq.Q.getD 0 (0, 0))).2.1), .int .i64 ((Rp.startV r s z sn rq (rq.Q.getD 0 (0, 0))).2.2)] rfl (by kernel_rfl) (by kernel_rfl) rfl (by decide) (by decide) rfl (fun j u hj => by rw [add_none]; exact cellOf (H.blk 0 rfl) (by simpa using hj)) (List.all_eq_true.1 (by kernel_rfl)) (by unfold maxLen; omega) (by omega) (by kernel_rfl) rfl (by kernel_rfl) ?_
      clear H
      intro v43 g15 c15 hc15 H
      rw [show (((List.length acc) + 1) : Nat) = (List.length (acc ++ [(Rp.startV r s z sn rq (rq.Q.getD 0 (0, 0)))])) from (by simp)] at H ⊢
      rw [show (List.flatMap int3L acc) ++ [.int .i64 ((Rp.startV r s z sn rq (rq.Q.getD 0 (0, 0))).1), .int .i64 ((Rp.startV r s z sn rq (rq.Q.getD 0 (0, 0))).2.1), .int .i64 ((Rp.startV r s z sn rq (rq.Q.getD 0 (0, 0))).2.2)] = (List.flatMap int3L (acc ++ [(Rp.startV r s z sn rq (rq.Q.getD 0 (0, 0)))])) from (by rw [List.flatMap_append]; rfl)] at H
      replace H := H.pk [1, 2, 3, 4, 5, 6, 7, 8, 9, 10]
      refine x_b H [.m] <| x_nil <| z_fr 92 [(1, .pointer (some ⟨g1, 0, none⟩)), (2, .pointer (some ⟨g2, 0, none⟩)), (5, .slice (some ⟨g15, 0, none⟩) (List.length (acc ++ [(Rp.startV r s z sn rq (rq.Q.getD 0 (0, 0)))])) c15)] [] fun uf6 => x_blk <| x_then ?_
      rw [hQ] at r3 r4
      rw [Rp.drain_start rq h24p _ _ h32] at r3 r4
      have hyt : ∀ a ∈ rq.Q.tail, a.1 = 1 ∨ a.1 = 2 := fun a ha => r1.qk a (List.mem_of_mem_tail ha)
      have hyl := r1.ql
      have hyn := r2.1
      replace H := hsCast (H.pk [3, 4, 5, 6, 7, 8, 9]) (L2 := [.row (.slice (some ⟨g15, 0, none⟩) (List.length (acc ++ [(Rp.startV r s z sn rq (rq.Q.getD 0 (0, 0)))])) c15) 114 3 (List.length (acc ++ [(Rp.startV r s z sn rq (rq.Q.getD 0 (0, 0)))])) (List.flatMap int3L (acc ++ [(Rp.startV r s z sn rq (rq.Q.getD 0 (0, 0)))])), .blk g1 #[.int .i64 r, .int .i64 s, .int .i64 b, .int .i64 o, .int .i64 c, .int .i64 y, .int .i64 z, lv, u1, g.kv, .int .i64 (((Rp.setQ (Rp.start r s z sn rq (rq.Q.getD 0 (0, 0))) rq.Q.tail).pu : Nat) : Int), .int .i64 (((Rp.setQ (Rp.start r s z sn rq (rq.Q.getD 0 (0, 0))) rq.Q.tail).ru : Nat) : Int), .int .i64 (((Rp.setQ (Rp.start r s z sn rq (rq.Q.getD 0 (0, 0))) rq.Q.tail).j).1), .int .i64 (((Rp.setQ (Rp.start r s z sn rq (rq.Q.getD 0 (0, 0))) rq.Q.tail).j).2.1), .int .i64 (((Rp.setQ (Rp.start r s z sn rq (rq.Q.getD 0 (0, 0))) rq.Q.tail).j).2.2.1), .int .i64 (((Rp.setQ (Rp.start r s z sn rq (rq.Q.getD 0 (0, 0))) rq.Q.tail).j).2.2.2), .slice (sufA ad2 c2 1 2) (n2 - 1) (c2 - 1)] 39, .row (lv) 3 1 pg (List.map (Value.int .i64) (layL y r b o pg)), .row (u1) 142 2 (List.length (g.Pg ++ [(x.j.2.1, x.j.2.2.1)])) (List.flatMap entL (g.Pg ++ [(x.j.2.1, x.j.2.2.1)])), .row (g.kv) 142 2 (List.length g.Rk) (List.flatMap entL g.Rk), .row (g.fv) 80 2 (List.length g.F) (List.flatMap entL g.F), .blk g2 #[.int .i64 0, .int .i64 0, .int .i64 0, .int .i64 0, .int .i64 0, .int .i64 0, .int .i64 0, .slice none 0 0, .slice none 0 0, .slice none 0 0, .int .i64 0, .int .i64 0, .int .i64 0, .int .i64 0, .int .i64 0, .int .i64 0, .slice none 0 0] 39]) (by kernel_rfl)
      exact ⟨((Rp.setQ (Rp.start r s z sn rq (rq.Q.getD 0 (0, 0))) rq.Q.tail), (sufA ad2 c2 1 2), (n2 - 1), (c2 - 1), .slice (some ⟨g15, 0, none⟩) (List.length (acc ++ [(Rp.startV r s z sn rq (rq.Q.getD 0 (0, 0)))])) c15, (acc ++ [(Rp.startV r s z sn rq (rq.Q.getD 0 (0, 0)))])), (by dsimp only; omega), _, frm_of, H, ((r1.start hL h24p h32).setQ hyt (by rw [List.length_tail]; omega)), (r2.tail (by omega)), ((List.append_assoc _ _ _).trans r3), r4, (DocM.start r5), (by simp only [List.length_append, List.length_cons, List.length_nil]; omega)⟩
    refine x_f (by kernel_rfl) <| x_skipc <| x_blk <| x_then ?_
    rw [hQ] at r3 r4
    rw [Rp.drain_void rq h24p _ _ h32] at r3 r4
    have hyt : ∀ a ∈ rq.Q.tail, a.1 = 1 ∨ a.1 = 2 := fun a ha => r1.qk a (List.mem_of_mem_tail ha)
    have hyl := r1.ql
    have hyn := r2.1
    replace H := hsCast (H.pk [1, 2, 3, 4, 5, 6, 7]) (L2 := [.row (ov) 114 3 (List.length acc) (List.flatMap int3L acc), .blk g1 #[.int .i64 r, .int .i64 s, .int .i64 b, .int .i64 o, .int .i64 c, .int .i64 y, .int .i64 z, lv, u1, g.kv, .int .i64 (((Rp.setQ rq rq.Q.tail).pu : Nat) : Int), .int .i64 (((Rp.setQ rq rq.Q.tail).ru : Nat) : Int), .int .i64 (((Rp.setQ rq rq.Q.tail).j).1), .int .i64 (((Rp.setQ rq rq.Q.tail).j).2.1), .int .i64 (((Rp.setQ rq rq.Q.tail).j).2.2.1), .int .i64 (((Rp.setQ rq rq.Q.tail).j).2.2.2), .slice (sufA ad2 c2 1 2) (n2 - 1) (c2 - 1)] 39, .row (lv) 3 1 pg (List.map (Value.int .i64) (layL y r b o pg)), .row (u1) 142 2 (List.length (g.Pg ++ [(x.j.2.1, x.j.2.2.1)])) (List.flatMap entL (g.Pg ++ [(x.j.2.1, x.j.2.2.1)])), .row (g.kv) 142 2 (List.length g.Rk) (List.flatMap entL g.Rk), .row (g.fv) 80 2 (List.length g.F) (List.flatMap entL g.F), .blk g2 #[.int .i64 0, .int .i64 0, .int .i64 0, .int .i64 0, .int .i64 0, .int .i64 0, .int .i64 0, .slice none 0 0, .slice none 0 0, .slice none 0 0, .int .i64 0, .int .i64 0, .int .i64 0, .int .i64 0, .int .i64 0, .int .i64 0, .slice none 0 0] 39]) (by kernel_rfl)
    exact ⟨((Rp.setQ rq rq.Q.tail), (sufA ad2 c2 1 2), (n2 - 1), (c2 - 1), ov, acc), (by dsimp only; omega), _, frm_of, H, (r1.setQ hyt (by rw [List.length_tail]; omega)), (r2.tail (by omega)), r3, r4, r5, (by omega)⟩
  have h1p := of_decide_eq_true h1
  refine x_t (by kernel_rfl) <| x_seq <| x_region <| x_b H [.n 1 0 17 39] ?_
  have h39o := H.rowOne 2 rfl
  have h40o := H.rowOne 3 rfl
  have h41o := H.rowOne 4 rfl
  refine z_store H 0 0 [.int .i64 r, .int .i64 s, .int .i64 b, .int .i64 o, .int .i64 c, .int .i64 y, .int .i64 z, lv, g.pv, g.kv, .int .i64 ((x.pu : Nat) : Int), .int .i64 ((x.ru : Nat) : Int), .int .i64 x.j.1, .int .i64 x.j.2.1, .int .i64 x.j.2.2.1, .int .i64 (x.j.2.2.2 + 1), .slice g.ad g.n g.c] (fun v44 H => ?_) (h1 := (by simp only [List.all_cons, List.all_nil, h39o, h40o, h41o, Bool.and_true, Bool.true_and] <;> rfl))
  refine x_b H [.m] <| x_nil <| x_then <| x_retc <| x_then_ret <| x_ret (.tuple #[.agg #[.int .i64 r, .int .i64 s, .int .i64 b, .int .i64 o, .int .i64 c, .int .i64 y, .int .i64 z, lv, g.pv, g.kv, .int .i64 ((x.pu : Nat) : Int), .int .i64 ((x.ru : Nat) : Int), .int .i64 x.j.1, .int .i64 x.j.2.1, .int .i64 x.j.2.2.1, .int .i64 (x.j.2.2.2 + 1), .slice g.ad g.n g.c], .slice none 0 0]) (by kernel_rfl) (x_results [.cell 2 39, .tmp 3] [.agg #[.int .i64 r, .int .i64 s, .int .i64 b, .int .i64 o, .int .i64 c, .int .i64 y, .int .i64 z, lv, g.pv, g.kv, .int .i64 ((x.pu : Nat) : Int), .int .i64 ((x.ru : Nat) : Int), .int .i64 x.j.1, .int .i64 x.j.2.1, .int .i64 x.j.2.2.1, .int .i64 (x.j.2.2.2 + 1), .slice g.ad g.n g.c], .slice none 0 0] _ rfl (AllR.cell (by kernel_rfl) (ldR H 0 g2 0 #[.int .i64 r, .int .i64 s, .int .i64 b, .int .i64 o, .int .i64 c, .int .i64 y, .int .i64 z, lv, g.pv, g.kv, .int .i64 ((x.pu : Nat) : Int), .int .i64 ((x.ru : Nat) : Int), .int .i64 x.j.1, .int .i64 x.j.2.1, .int .i64 x.j.2.2.1, .int .i64 (x.j.2.2.2 + 1), .slice g.ad g.n g.c] 39 [.int .i64 r, .int .i64 s, .int .i64 b, .int .i64 o, .int .i64 c, .int .i64 y, .int .i64 z, lv, g.pv, g.kv, .int .i64 ((x.pu : Nat) : Int), .int .i64 ((x.ru : Nat) : Int), .int .i64 x.j.1, .int .i64 x.j.2.1, .int .i64 x.j.2.2.1, .int .i64 (x.j.2.2.2 + 1), .slice g.ad g.n g.c] (by kernel_rfl) (by kernel_rfl) (by kernel_rfl)) (AllR.tmp (by kernel_rfl) AllR.nil)) (by kernel_rfl)) ?_
  have e1 : (Rp.step r s z sn pg ns b o c x) = (x.next, []) := by unfold Rp.step; rw [if_neg hj, if_neg (by omega)]
  rw [e1]
  replace H := H.nilRow 114 3
  replace H := H.pk [3, 4, 5, 6, 0]
  exact ⟨(g, .slice none 0 0), rfl, H, ⟨hg.d, hg.a⟩, Nat.le_succ _, Nat.le_succ _⟩
end Go.Proofs.YtpmnnijjohlloaaGreat
