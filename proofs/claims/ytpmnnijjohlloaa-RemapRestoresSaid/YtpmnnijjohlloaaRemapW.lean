/- A step of a map and of the document's. -/
import Derived.Test.YtpmnnijjohlloaaRemapU
import Derived.Test.YtpmnnijjohlloaaPxZ
namespace Go.Proofs.Ytpmnnijjohlloaa
open Go Go.RowKit
set_option linter.unusedVariables false
set_option linter.unusedSimpArgs false

abbrev Op3 := Int × Int × Int
def mvPu (z : Int) (pu : Nat) (o : Op3) : Nat := if o.1 = 1 then tkN z pu else pu
def mvRu (s : Int) (ru : Nat) (o : Op3) : Nat := if o.1 = 2 then tkN s ru else ru
def mvL (sn pg pu : Nat) (D : List Bool) (L : List Int) (o : Op3) : List Int := if o.1 = 3 then reL sn pg pu D o.2.1 o.2.2 L else L
def mvD (sn pg pu : Nat) (D : List Bool) (o : Op3) : List Bool := if o.1 = 3 then reD sn pg pu D o.2.1 o.2.2 else D
def mvS (r : Int) (ns ru : Nat) (S : List Int) (o : Op3) : List Int := if o.1 = 4 then rpS r ns ru S o.2.1 o.2.2 else S
def mvPg (sn pg pu : Nat) (D : List Bool) (Pg : List Ent) (o : Op3) : List Ent := if o.1 = 3 ∧ reE sn pg pu D o.2.1 o.2.2 = 0 then Pg ++ [(o.2.1, o.2.2)] else Pg
def mvRk (r : Int) (ns ru : Nat) (S : List Int) (Rk : List Ent) (o : Op3) : List Ent := if o.1 = 4 ∧ rpE r ns ru S o.2.1 o.2.2 = 0 then Rk ++ [(o.2.1, o.2.2)] else Rk
section
variable {r s b o c y z : Int} {pg sn ns : Nat} {L : List Int} {D : List Bool} {S : List Int} {pu ru : Nat} {Pg Rk : List Ent}
theorem MapV.step (hL : Lay r s b o c y z pg sn ns) (hV : MapV r s z sn pg ns L D S pu ru) (q : Op3) : MapV r s z sn pg ns (mvL sn pg pu D L q) (mvD sn pg pu D q) (mvS r ns ru S q) (mvPu z pu q) (mvRu s ru q) := by
  unfold mvL mvD mvS mvPu mvRu
  by_cases h1 : q.1 = 1
  · rw [if_neg (by omega), if_neg (by omega), if_neg (by omega), if_pos h1, if_neg (by omega)]; exact hV.take
  · by_cases h2 : q.1 = 2
    · rw [if_neg (by omega), if_neg (by omega), if_neg (by omega), if_neg (by omega), if_pos h2]; exact hV.takeS
    · by_cases h3 : q.1 = 3
      · rw [if_pos h3, if_pos h3, if_neg (by omega), if_neg (by omega), if_neg (by omega)]; exact hV.retire hL _ _
      · by_cases h4 : q.1 = 4
        · rw [if_neg (by omega), if_neg (by omega), if_pos h4, if_neg (by omega), if_neg (by omega)]; exact hV.replace _ _
        · rw [if_neg (by omega), if_neg (by omega), if_neg (by omega), if_neg (by omega), if_neg (by omega)]; exact hV
theorem DocM.step (hL : Lay r s b o c y z pg sn ns) (hV : MapV r s z sn pg ns L D S pu ru) (hd : DocM pg sn ns L D S Pg Rk) (q : Op3) : DocM pg sn ns (mvL sn pg pu D L q) (mvD sn pg pu D q) (mvS r ns ru S q) (mvPg sn pg pu D Pg q) (mvRk r ns ru S Rk q) := by
  unfold mvL mvD mvS mvPg mvRk
  have hp := hV.m.hp
  have hsn := hL.hsn
  have hr1 := hL.r1
  have hs8 := hL.s8
  by_cases h3 : q.1 = 3
  · rw [if_pos h3, if_pos h3, if_neg (by omega), if_neg (show ¬ (q.1 = 4 ∧ _) by omega)]
    by_cases e : reE sn pg pu D q.2.1 q.2.2 = 0
    · rw [if_pos ⟨h3, e⟩]; exact hd.retire hV (by omega) e
    · rw [if_neg (fun z => e z.2)]
      have e1 : reL sn pg pu D q.2.1 q.2.2 L = L := by unfold reL; rw [if_neg e]
      have e2 : reD sn pg pu D q.2.1 q.2.2 = D := by unfold reD; rw [if_neg e]
      rw [e1, e2]; exact hd
  · rw [if_neg h3, if_neg h3, if_neg (show ¬ (q.1 = 3 ∧ _) from fun z => h3 z.1)]
    by_cases h4 : q.1 = 4
    · rw [if_pos h4]
      by_cases e : rpE r ns ru S q.2.1 q.2.2 = 0
      · rw [if_pos ⟨h4, e⟩]; exact hd.replace hV hr1 (by omega) e
      · rw [if_neg (fun z => e z.2)]
        have e1 : rpS r ns ru S q.2.1 q.2.2 = S := by unfold rpS; rw [if_neg e]
        rw [e1]; exact hd
    · rw [if_neg h4, if_neg (fun z => h4 z.1)]; exact hd
theorem mvPg_len (q : Op3) : (mvPg sn pg pu D Pg q).length ≤ Pg.length + 1 := by unfold mvPg; split <;> simp
theorem mvRk_len (q : Op3) : (mvRk r ns ru S Rk q).length ≤ Rk.length + 1 := by unfold mvRk; split <;> simp
end

set_option maxRecDepth 100000 in
set_option maxHeartbeats 4000000 in
theorem rstep {M : List Nat} {r s b o c y z : Int} {pg sn ns : Nat} (hL : Lay r s b o c y z pg sn ns) {p gl cl gd cd gs cs : Nat} {L : List Int} {D : List Bool} {S : List Int} {pu ru : Nat} (hV : MapV r s z sn pg ns L D S pu ru) {Pg Rk : List Ent} {lv pv kv : Value} (hd : DocM pg sn ns L D S Pg Rk) (hp8 : Pg.length ≤ 4000) (hr8 : Rk.length ≤ 4000) (op : Op3) (ho1 : -9223372036854775808 ≤ op.2.2 ∧ op.2.2 ≤ 9223372036854775807) (w0 : World) (H0 : Hs M w0 w0 [.blk p #[.int .i64 r, .int .i64 s, .int .i64 b, .int .i64 o, .int .i64 c, .int .i64 y, .int .i64 z, .slice (some ⟨gl, 0, none⟩) sn cl, .slice (some ⟨gd, 0, none⟩) pg cd, .slice (some ⟨gs, 0, none⟩) ns cs, .int .i64 ((pu : Nat) : Int), .int .i64 ((ru : Nat) : Int)] 118, .row (.slice (some ⟨gl, 0, none⟩) sn cl) 3 1 sn (List.map (Value.int .i64) L), .row (.slice (some ⟨gd, 0, none⟩) pg cd) 4 1 pg (List.map Value.bool D), .row (.slice (some ⟨gs, 0, none⟩) ns cs) 3 1 ns (List.map (Value.int .i64) S), .row (lv) 3 1 pg (List.map (Value.int .i64) (layL y r b o pg)), .row (pv) 156 2 (List.length Pg) (List.flatMap entL Pg), .row (kv) 156 2 (List.length Rk) (List.flatMap entL Rk)]) :
    Calls Try.prog 27 #[.pointer (some ⟨p, 0, none⟩), .agg #[.int .i64 r, .int .i64 s, .int .i64 b, .int .i64 o, .int .i64 c, .int .i64 y, .int .i64 z, lv, pv, kv, .int .i64 ((pu : Nat) : Int), .int .i64 ((ru : Nat) : Int)], .agg #[.int .i64 op.1, .int .i64 op.2.1, .int .i64 op.2.2]] w0 fun e w' => ∃ u : Value × Value, e = .returned (.tuple #[.agg #[.int .i64 r, .int .i64 s, .int .i64 b, .int .i64 o, .int .i64 c, .int .i64 y, .int .i64 z, lv, u.1, u.2, .int .i64 (((mvPu z pu op) : Nat) : Int), .int .i64 (((mvRu s ru op) : Nat) : Int)], .bool true]) ∧ Hs M w0 w' [.blk p #[.int .i64 r, .int .i64 s, .int .i64 b, .int .i64 o, .int .i64 c, .int .i64 y, .int .i64 z, .slice (some ⟨gl, 0, none⟩) sn cl, .slice (some ⟨gd, 0, none⟩) pg cd, .slice (some ⟨gs, 0, none⟩) ns cs, .int .i64 (((mvPu z pu op) : Nat) : Int), .int .i64 (((mvRu s ru op) : Nat) : Int)] 118, .row (.slice (some ⟨gl, 0, none⟩) sn cl) 3 1 sn (List.map (Value.int .i64) (mvL sn pg pu D L op)), .row (.slice (some ⟨gd, 0, none⟩) pg cd) 4 1 pg (List.map Value.bool (mvD sn pg pu D op)), .row (.slice (some ⟨gs, 0, none⟩) ns cs) 3 1 ns (List.map (Value.int .i64) (mvS r ns ru S op)), .row (lv) 3 1 pg (List.map (Value.int .i64) (layL y r b o pg)), .row (u.1) 156 2 (List.length (mvPg sn pg pu D Pg op)) (List.flatMap entL (mvPg sn pg pu D Pg op)), .row (u.2) 156 2 (List.length (mvRk r ns ru S Rk op)) (List.flatMap entL (mvRk r ns ru S Rk op))] := by
  refine z_enter Try.func27 rfl ?_
  have H := H0
  have hp := hV.m.hp
  have hru := hV.m.hr
  have hsn := hL.hsn
  have hpg2 := hL.pg2
  have hr8' := hL.r8
  have hs8 := hL.s8
  have hr1 := hL.r1
  have hz0 := hL.z0
  have hz2 := hL.z2
  have hs0 := hL.s0
  refine x_seq <| x_region <| z_box H #[.int .i64 r, .int .i64 s, .int .i64 b, .int .i64 o, .int .i64 c, .int .i64 y, .int .i64 z, lv, pv, kv, .int .i64 (pu : Int), .int .i64 (ru : Int)] 43 (fun v1 g1 H => ?_)
  refine z_box H #[.int .i64 op.1, .int .i64 op.2.1, .int .i64 op.2.2] 47 (fun v2 g2 H => ?_)
  refine z_box H #[.int .i64 0, .int .i64 0, .int .i64 0, .int .i64 0, .int .i64 0, .int .i64 0, .int .i64 0, .slice none 0 0, .slice none 0 0, .slice none 0 0, .int .i64 0, .int .i64 0] 43 (fun v3 g3 H => ?_)
  refine x_b H [.m] <| x_nil <| x_then <| x_seq <| x_seq <| x_region <| x_b H [.m, .l 1 0] ?_
  refine x_nil <| x_then <| x_block <| x_seq <| x_region <| x_b H [.v (.bool (decide (op.1 = 1))), .v (.bool (decide (op.1 = 1)))] <| x_nil ?_
  refine x_then ?_
  cases h1 : decide (op.1 = 1)
  · skip
    have h1p := of_decide_eq_false h1
    refine x_f (by kernel_rfl) <| x_seq <| x_region <| x_b H [.v (.bool (decide (op.1 = 2))), .v (.bool (decide (op.1 = 2)))] <| x_nil <| x_then ?_
    cases h2 : decide (op.1 = 2)
    · skip
      have h2p := of_decide_eq_false h2
      refine x_f (by kernel_rfl) <| x_seq <| x_region <| x_b H [.v (.bool (decide (op.1 = 3))), .v (.bool (decide (op.1 = 3)))] <| x_nil <| x_then ?_
      cases h3 : decide (op.1 = 3)
      · skip
        have h3p := of_decide_eq_false h3
        refine x_f (by kernel_rfl) <| x_seq <| x_region <| x_b H [.v (.bool (decide (op.1 = 4))), .v (.bool (decide (op.1 = 4)))] <| x_nil <| x_then ?_
        cases h4 : decide (op.1 = 4)
        · skip
          have h4p := of_decide_eq_false h4
          refine x_f (by kernel_rfl) <| x_skipc <| x_blk <| x_then <| x_seq <| x_region <| x_b H [.n 2 0 12 43] ?_
          have h5o := H.rowOne 7 rfl
          have h6o := H.rowOne 8 rfl
          have h7o := H.rowOne 9 rfl
          refine z_store H 0 0 [.int .i64 r, .int .i64 s, .int .i64 b, .int .i64 o, .int .i64 c, .int .i64 y, .int .i64 z, lv, pv, kv, .int .i64 (pu : Int), .int .i64 (ru : Int)] (fun v4 H => ?_) (h1 := (by simp only [List.all_cons, List.all_nil, h5o, h6o, h7o, Bool.and_true, Bool.true_and] <;> rfl))
          refine x_b H [.m] <| x_nil <| x_then <| x_retc <| x_ret (.tuple #[.agg #[.int .i64 r, .int .i64 s, .int .i64 b, .int .i64 o, .int .i64 c, .int .i64 y, .int .i64 z, lv, pv, kv, .int .i64 (pu : Int), .int .i64 (ru : Int)], .bool true]) (by kernel_rfl) (x_results [.cell 6 43, .tmp 7] [.agg #[.int .i64 r, .int .i64 s, .int .i64 b, .int .i64 o, .int .i64 c, .int .i64 y, .int .i64 z, lv, pv, kv, .int .i64 (pu : Int), .int .i64 (ru : Int)], .bool true] _ rfl (AllR.cell (by kernel_rfl) (ldR H 0 g3 0 #[.int .i64 r, .int .i64 s, .int .i64 b, .int .i64 o, .int .i64 c, .int .i64 y, .int .i64 z, lv, pv, kv, .int .i64 (pu : Int), .int .i64 (ru : Int)] 43 [.int .i64 r, .int .i64 s, .int .i64 b, .int .i64 o, .int .i64 c, .int .i64 y, .int .i64 z, lv, pv, kv, .int .i64 (pu : Int), .int .i64 (ru : Int)] (by kernel_rfl) (by kernel_rfl) (by kernel_rfl)) (AllR.tmp (by kernel_rfl) AllR.nil)) (by kernel_rfl)) ?_
          replace H := H.pk [3, 4, 5, 6, 7, 8, 9]
          have e_mvL : mvL sn pg pu D L op = L := by unfold mvL; rw [if_neg]; omega
          have e_mvD : mvD sn pg pu D op = D := by unfold mvD; rw [if_neg]; omega
          have e_mvS : mvS r ns ru S op = S := by unfold mvS; rw [if_neg]; omega
          have e_mvPu : mvPu z pu op = pu := by unfold mvPu; rw [if_neg]; omega
          have e_mvRu : mvRu s ru op = ru := by unfold mvRu; rw [if_neg]; omega
          have e_mvPg : mvPg sn pg pu D Pg op = Pg := by unfold mvPg; first | (rw [if_neg (by omega)]) | (rw [if_neg]; omega)
          have e_mvRk : mvRk r ns ru S Rk op = Rk := by unfold mvRk; first | (rw [if_neg (by omega)]) | (rw [if_neg]; omega)
          rw [e_mvL, e_mvD, e_mvS, e_mvPu, e_mvRu, e_mvPg, e_mvRk]
          exact ⟨(pv, kv), rfl, H⟩
        have h4p := of_decide_eq_true h4
        refine x_t (by kernel_rfl) <| x_seq <| x_region <| x_b H [.n 2 0 12 43, .m, .l 1 1, .m, .l 1 2] ?_
        cases h8 : decide ((rpE r ns ru S op.2.1 op.2.2) = 0)
        · skip
          have h8p := of_decide_eq_false h8
          refine z_callB H (Rep19_no hL hd hp8 hr8 hV op.2.1 op.2.2 h8p _ (H.ro1 [7, 8, 9])) fun v5 H => x_b H [.m, .m, .m] <| z_box H #[.int .i64 0, .int .i64 0, .int .i64 0, .int .i64 0, .int .i64 0, .int .i64 0, .int .i64 0, .slice none 0 0, .slice none 0 0, .slice none 0 0, .int .i64 0, .int .i64 0] 43 (fun v6 g4 H => ?_)
          have h9o := H.rowOne 8 rfl
          have h10o := H.rowOne 9 rfl
          have h11o := H.rowOne 10 rfl
          refine z_store H 0 0 [.int .i64 r, .int .i64 s, .int .i64 b, .int .i64 o, .int .i64 c, .int .i64 y, .int .i64 z, lv, pv, kv, .int .i64 (pu : Int), .int .i64 (ru : Int)] (fun v7 H => ?_) (h1 := (by simp only [List.all_cons, List.all_nil, h9o, h10o, h11o, Bool.and_true, Bool.true_and] <;> rfl))
          refine x_b H [.m] <| x_nil <| x_then <| x_seq <| z_region_s H 11 [0, 2, 3, 4, 5, 6, 8, 9, 10] <| s_b [(0, .n 0 0 12 43), (1, .m), (2, .m), (3, .l 1 1), (4, .m), (5, .l 1 2), (7, .m)] 4 <| s_one 6 rfl (by kernel_rfl) rfl ?_
          clear H
          intro v8 H
          refine z_callH (v := .int .i64 (rpE r ns ru S op.2.1 op.2.2)) (H.useI [4, 5, 6, 7] (fun h => Replace_any hL hV op.2.1 op.2.2 (by omega) _ h)) fun v9 H => x_nil <| x_then <| z_next H [0, 1, 2, 3, 4, 6, 7, 8, 9, 10] [4, 5, 6, 0, 1, 2, 7, 8, 9] rfl <| s_y 8 (y_eq (.bool true) (show Value.bool (decide ((rpE r ns ru S op.2.1 op.2.2) = (rpE r ns ru S op.2.1 op.2.2))) = Value.bool true by simp) (by kernel_rfl) (fun _ => by kernel_rfl)) <| s_one 9 rfl (by kernel_rfl) rfl ?_
          clear H
          intro v10 H
          have h12o := H.rowOne 8 rfl
          have h13o := H.rowOne 9 rfl
          have h14o := H.rowOne 10 rfl
          refine z_store H 5 0 [.int .i64 r, .int .i64 s, .int .i64 b, .int .i64 o, .int .i64 c, .int .i64 y, .int .i64 z, lv, pv, kv, .int .i64 (pu : Int), .int .i64 (ru : Int)] (fun v11 H => ?_) (h1 := (by simp only [List.all_cons, List.all_nil, h12o, h13o, h14o, Bool.and_true, Bool.true_and] <;> rfl))
          refine x_nil <| x_then <| z_next H [0, 1, 2, 3, 4, 5, 6, 7, 8, 9, 10] [0, 1, 2, 3, 4, 6, 7, 8, 9, 10] rfl <| s_b [(10, .m)] 0 <| s_done (by kernel_rfl) ?_
          clear H
          intro v12 H
          refine x_then <| x_retc <| x_blk_ret <| x_then_ret <| x_ret (.tuple #[.agg #[.int .i64 r, .int .i64 s, .int .i64 b, .int .i64 o, .int .i64 c, .int .i64 y, .int .i64 z, lv, pv, kv, .int .i64 (pu : Int), .int .i64 (ru : Int)], .bool true]) (by kernel_rfl) (x_results [.cell 6 43, .tmp 7] [.agg #[.int .i64 r, .int .i64 s, .int .i64 b, .int .i64 o, .int .i64 c, .int .i64 y, .int .i64 z, lv, pv, kv, .int .i64 (pu : Int), .int .i64 (ru : Int)], .bool true] _ rfl (AllR.cell (by kernel_rfl) (ldR H 5 g3 0 #[.int .i64 r, .int .i64 s, .int .i64 b, .int .i64 o, .int .i64 c, .int .i64 y, .int .i64 z, lv, pv, kv, .int .i64 (pu : Int), .int .i64 (ru : Int)] 43 [.int .i64 r, .int .i64 s, .int .i64 b, .int .i64 o, .int .i64 c, .int .i64 y, .int .i64 z, lv, pv, kv, .int .i64 (pu : Int), .int .i64 (ru : Int)] (by kernel_rfl) (by kernel_rfl) (by kernel_rfl)) (AllR.tmp (by kernel_rfl) AllR.nil)) (by kernel_rfl)) ?_
          replace H := H.pk [0, 1, 2, 3, 8, 9, 10]
          have e_mvL : mvL sn pg pu D L op = L := by unfold mvL; rw [if_neg]; omega
          have e_mvD : mvD sn pg pu D op = D := by unfold mvD; rw [if_neg]; omega
          have e_mvS : mvS r ns ru S op = rpS r ns ru S op.2.1 op.2.2 := by unfold mvS; rw [if_pos]; omega
          have e_mvPu : mvPu z pu op = pu := by unfold mvPu; rw [if_neg]; omega
          have e_mvRu : mvRu s ru op = ru := by unfold mvRu; rw [if_neg]; omega
          have e_mvPg : mvPg sn pg pu D Pg op = Pg := by unfold mvPg; first | (rw [if_neg (by omega)]) | (rw [if_neg]; omega)
          have e_mvRk : mvRk r ns ru S Rk op = Rk := by unfold mvRk; rw [if_neg (fun z => h8p z.2)]
          rw [e_mvL, e_mvD, e_mvS, e_mvPu, e_mvRu, e_mvPg, e_mvRk]
          exact ⟨(pv, kv), rfl, H⟩
        have h8p := of_decide_eq_true h8
        refine z_call (Rep19_yes hL hd hp8 hr8 hV op.2.1 op.2.2 h8p _ (H.ro1 [7, 8, 9])) ?_
        rintro _ v13 ⟨u1, rfl, hN'⟩
        refine ⟨_, rfl, ?_⟩
        replace H := H.more hN'
        clear hN'
        refine x_b H [.m, .m, .m] <| z_box H #[.int .i64 0, .int .i64 0, .int .i64 0, .int .i64 0, .int .i64 0, .int .i64 0, .int .i64 0, .slice none 0 0, .slice none 0 0, .slice none 0 0, .int .i64 0, .int .i64 0] 43 (fun v14 g5 H => ?_)
        have h15o := H.rowOne 9 rfl
        have h16o := H.rowOne 10 rfl
        have h17o := H.rowOne 1 rfl
        refine z_store H 0 0 [.int .i64 r, .int .i64 s, .int .i64 b, .int .i64 o, .int .i64 c, .int .i64 y, .int .i64 z, lv, pv, u1, .int .i64 (pu : Int), .int .i64 (ru : Int)] (fun v15 H => ?_) (h1 := (by simp only [List.all_cons, List.all_nil, h15o, h16o, h17o, Bool.and_true, Bool.true_and] <;> rfl))
        refine x_b H [.m] <| x_nil <| x_then <| x_seq <| z_region_s H 11 [0, 1, 3, 4, 5, 6, 7, 9, 10, 11] <| s_b [(0, .n 0 0 12 43), (1, .m), (2, .m), (3, .l 2 1), (4, .m), (5, .l 2 2), (7, .m)] 4 <| s_one 6 rfl (by kernel_rfl) rfl ?_
        clear H
        intro v16 H
        refine z_callH (v := .int .i64 (rpE r ns ru S op.2.1 op.2.2)) (H.useI [5, 6, 7, 8] (fun h => Replace_any hL hV op.2.1 op.2.2 (by omega) _ h)) fun v17 H => x_nil <| x_then <| z_next H [0, 1, 2, 3, 4, 5, 7, 8, 9, 10, 11] [4, 5, 6, 7, 0, 1, 2, 8, 9, 10] rfl <| s_b [(8, .v (.bool (decide ((rpE r ns ru S op.2.1 op.2.2) = 0))))] 2 <| s_one 9 rfl (by kernel_rfl) rfl ?_
        clear H
        intro v18 H
        have h18o := H.rowOne 9 rfl
        have h19o := H.rowOne 10 rfl
        have h20o := H.rowOne 5 rfl
        refine z_store H 6 0 [.int .i64 r, .int .i64 s, .int .i64 b, .int .i64 o, .int .i64 c, .int .i64 y, .int .i64 z, lv, pv, u1, .int .i64 (pu : Int), .int .i64 (ru : Int)] (fun v19 H => ?_) (h1 := (by simp only [List.all_cons, List.all_nil, h18o, h19o, h20o, Bool.and_true, Bool.true_and] <;> rfl))
        refine x_nil <| x_then <| z_next H [0, 1, 2, 3, 4, 5, 6, 7, 8, 9, 10, 11] [0, 1, 2, 3, 4, 5, 7, 8, 9, 10, 11] rfl <| s_b [(10, .v (.bool (decide ((rpE r ns ru S op.2.1 op.2.2) = 0))))] 0 <| s_done (by kernel_rfl) ?_
        clear H
        intro v20 H
        refine x_then <| x_retc <| x_blk_ret <| x_then_ret <| x_ret (.tuple #[.agg #[.int .i64 r, .int .i64 s, .int .i64 b, .int .i64 o, .int .i64 c, .int .i64 y, .int .i64 z, lv, pv, u1, .int .i64 (pu : Int), .int .i64 (ru : Int)], .bool (decide ((rpE r ns ru S op.2.1 op.2.2) = 0))]) (by kernel_rfl) (x_results [.cell 6 43, .tmp 7] [.agg #[.int .i64 r, .int .i64 s, .int .i64 b, .int .i64 o, .int .i64 c, .int .i64 y, .int .i64 z, lv, pv, u1, .int .i64 (pu : Int), .int .i64 (ru : Int)], .bool (decide ((rpE r ns ru S op.2.1 op.2.2) = 0))] _ rfl (AllR.cell (by kernel_rfl) (ldR H 6 g3 0 #[.int .i64 r, .int .i64 s, .int .i64 b, .int .i64 o, .int .i64 c, .int .i64 y, .int .i64 z, lv, pv, u1, .int .i64 (pu : Int), .int .i64 (ru : Int)] 43 [.int .i64 r, .int .i64 s, .int .i64 b, .int .i64 o, .int .i64 c, .int .i64 y, .int .i64 z, lv, pv, u1, .int .i64 (pu : Int), .int .i64 (ru : Int)] (by kernel_rfl) (by kernel_rfl) (by kernel_rfl)) (AllR.tmp (by kernel_rfl) AllR.nil)) (by kernel_rfl)) ?_
        replace H := H.pk [0, 1, 2, 3, 9, 10, 5]
        have eb : ((decide ((rpE r ns ru S op.2.1 op.2.2) = 0))) = true := by simp <;> omega
        have e_mvL : mvL sn pg pu D L op = L := by unfold mvL; rw [if_neg]; omega
        have e_mvD : mvD sn pg pu D op = D := by unfold mvD; rw [if_neg]; omega
        have e_mvS : mvS r ns ru S op = rpS r ns ru S op.2.1 op.2.2 := by unfold mvS; rw [if_pos]; omega
        have e_mvPu : mvPu z pu op = pu := by unfold mvPu; rw [if_neg]; omega
        have e_mvRu : mvRu s ru op = ru := by unfold mvRu; rw [if_neg]; omega
        have e_mvPg : mvPg sn pg pu D Pg op = Pg := by unfold mvPg; first | (rw [if_neg (by omega)]) | (rw [if_neg]; omega)
        have e_mvRk : mvRk r ns ru S Rk op = Rk ++ [(op.2.1, op.2.2)] := by unfold mvRk; rw [if_pos ⟨by omega, h8p⟩]
        rw [e_mvL, e_mvD, e_mvS, e_mvPu, e_mvRu, e_mvPg, e_mvRk]
        exact ⟨(pv, u1), by rw [eb] <;> rfl, H⟩
      have h3p := of_decide_eq_true h3
      refine x_t (by kernel_rfl) <| x_seq <| x_region <| x_b H [.n 2 0 12 43, .m, .l 1 1, .m, .l 1 2] ?_
      cases h21 : decide ((reE sn pg pu D op.2.1 op.2.2) = 0)
      · skip
        have h21p := of_decide_eq_false h21
        refine z_callB H (Ret19_no hL hd hp8 hr8 hV op.2.1 op.2.2 h21p _ (H.ro1 [7, 8, 9])) fun v21 H => x_b H [.m, .m, .m] <| z_box H #[.int .i64 0, .int .i64 0, .int .i64 0, .int .i64 0, .int .i64 0, .int .i64 0, .int .i64 0, .slice none 0 0, .slice none 0 0, .slice none 0 0, .int .i64 0, .int .i64 0] 43 (fun v22 g6 H => ?_)
        have h22o := H.rowOne 8 rfl
        have h23o := H.rowOne 9 rfl
        have h24o := H.rowOne 10 rfl
        refine z_store H 0 0 [.int .i64 r, .int .i64 s, .int .i64 b, .int .i64 o, .int .i64 c, .int .i64 y, .int .i64 z, lv, pv, kv, .int .i64 (pu : Int), .int .i64 (ru : Int)] (fun v23 H => ?_) (h1 := (by simp only [List.all_cons, List.all_nil, h22o, h23o, h24o, Bool.and_true, Bool.true_and] <;> rfl))
        refine x_b H [.m] <| x_nil <| x_then <| x_seq <| z_region_s H 11 [0, 2, 3, 4, 7, 8, 9, 10] <| s_b [(0, .n 0 0 12 43), (1, .m), (2, .m), (3, .l 1 1), (4, .m), (5, .l 1 2), (7, .m)] 4 <| s_one 6 rfl (by kernel_rfl) rfl ?_
        clear H
        intro v24 H
        refine z_callH (v := .int .i64 (reE sn pg pu D op.2.1 op.2.2)) (H.useI [4, 5, 6, 7] (fun h => Retire_any hL hV op.2.1 op.2.2 (by omega) _ h)) fun v25 H => x_nil <| x_then <| z_next H [0, 1, 2, 3, 4, 6, 7, 8, 9, 10] [4, 5, 6, 0, 3, 7, 8, 9] rfl <| s_y 8 (y_eq (.bool true) (show Value.bool (decide ((reE sn pg pu D op.2.1 op.2.2) = (reE sn pg pu D op.2.1 op.2.2))) = Value.bool true by simp) (by kernel_rfl) (fun _ => by kernel_rfl)) <| s_one 9 rfl (by kernel_rfl) rfl ?_
        clear H
        intro v26 H
        have h25o := H.rowOne 8 rfl
        have h26o := H.rowOne 9 rfl
        have h27o := H.rowOne 10 rfl
        refine z_store H 5 0 [.int .i64 r, .int .i64 s, .int .i64 b, .int .i64 o, .int .i64 c, .int .i64 y, .int .i64 z, lv, pv, kv, .int .i64 (pu : Int), .int .i64 (ru : Int)] (fun v27 H => ?_) (h1 := (by simp only [List.all_cons, List.all_nil, h25o, h26o, h27o, Bool.and_true, Bool.true_and] <;> rfl))
        refine x_nil <| x_then <| z_next H [0, 1, 2, 3, 4, 5, 6, 7, 8, 9, 10] [0, 1, 2, 3, 4, 6, 7, 8, 9, 10] rfl <| s_b [(10, .m)] 0 <| s_done (by kernel_rfl) ?_
        clear H
        intro v28 H
        refine x_then <| x_retc <| x_blk_ret <| x_then_ret <| x_ret (.tuple #[.agg #[.int .i64 r, .int .i64 s, .int .i64 b, .int .i64 o, .int .i64 c, .int .i64 y, .int .i64 z, lv, pv, kv, .int .i64 (pu : Int), .int .i64 (ru : Int)], .bool true]) (by kernel_rfl) (x_results [.cell 6 43, .tmp 7] [.agg #[.int .i64 r, .int .i64 s, .int .i64 b, .int .i64 o, .int .i64 c, .int .i64 y, .int .i64 z, lv, pv, kv, .int .i64 (pu : Int), .int .i64 (ru : Int)], .bool true] _ rfl (AllR.cell (by kernel_rfl) (ldR H 5 g3 0 #[.int .i64 r, .int .i64 s, .int .i64 b, .int .i64 o, .int .i64 c, .int .i64 y, .int .i64 z, lv, pv, kv, .int .i64 (pu : Int), .int .i64 (ru : Int)] 43 [.int .i64 r, .int .i64 s, .int .i64 b, .int .i64 o, .int .i64 c, .int .i64 y, .int .i64 z, lv, pv, kv, .int .i64 (pu : Int), .int .i64 (ru : Int)] (by kernel_rfl) (by kernel_rfl) (by kernel_rfl)) (AllR.tmp (by kernel_rfl) AllR.nil)) (by kernel_rfl)) ?_
        replace H := H.pk [0, 1, 2, 3, 8, 9, 10]
        have e_mvL : mvL sn pg pu D L op = reL sn pg pu D op.2.1 op.2.2 L := by unfold mvL; rw [if_pos]; omega
        have e_mvD : mvD sn pg pu D op = reD sn pg pu D op.2.1 op.2.2 := by unfold mvD; rw [if_pos]; omega
        have e_mvS : mvS r ns ru S op = S := by unfold mvS; rw [if_neg]; omega
        have e_mvPu : mvPu z pu op = pu := by unfold mvPu; rw [if_neg]; omega
        have e_mvRu : mvRu s ru op = ru := by unfold mvRu; rw [if_neg]; omega
        have e_mvPg : mvPg sn pg pu D Pg op = Pg := by unfold mvPg; rw [if_neg (fun z => h21p z.2)]
        have e_mvRk : mvRk r ns ru S Rk op = Rk := by unfold mvRk; first | (rw [if_neg (by omega)]) | (rw [if_neg]; omega)
        rw [e_mvL, e_mvD, e_mvS, e_mvPu, e_mvRu, e_mvPg, e_mvRk]
        exact ⟨(pv, kv), rfl, H⟩
      have h21p := of_decide_eq_true h21
      refine z_call (Ret19_yes hL hd hp8 hr8 hV op.2.1 op.2.2 h21p _ (H.ro1 [7, 8, 9])) ?_
      rintro _ v29 ⟨u1, rfl, hN'⟩
      refine ⟨_, rfl, ?_⟩
      replace H := H.more hN'
      clear hN'
      refine x_b H [.m, .m, .m] <| z_box H #[.int .i64 0, .int .i64 0, .int .i64 0, .int .i64 0, .int .i64 0, .int .i64 0, .int .i64 0, .slice none 0 0, .slice none 0 0, .slice none 0 0, .int .i64 0, .int .i64 0] 43 (fun v30 g7 H => ?_)
      have h28o := H.rowOne 9 rfl
      have h29o := H.rowOne 1 rfl
      have h30o := H.rowOne 11 rfl
      refine z_store H 0 0 [.int .i64 r, .int .i64 s, .int .i64 b, .int .i64 o, .int .i64 c, .int .i64 y, .int .i64 z, lv, u1, kv, .int .i64 (pu : Int), .int .i64 (ru : Int)] (fun v31 H => ?_) (h1 := (by simp only [List.all_cons, List.all_nil, h28o, h29o, h30o, Bool.and_true, Bool.true_and] <;> rfl))
      refine x_b H [.m] <| x_nil <| x_then <| x_seq <| z_region_s H 11 [0, 1, 3, 4, 5, 8, 9, 10, 11] <| s_b [(0, .n 0 0 12 43), (1, .m), (2, .m), (3, .l 2 1), (4, .m), (5, .l 2 2), (7, .m)] 4 <| s_one 6 rfl (by kernel_rfl) rfl ?_
      clear H
      intro v32 H
      refine z_callH (v := .int .i64 (reE sn pg pu D op.2.1 op.2.2)) (H.useI [5, 6, 7, 8] (fun h => Retire_any hL hV op.2.1 op.2.2 (by omega) _ h)) fun v33 H => x_nil <| x_then <| z_next H [0, 1, 2, 3, 4, 5, 7, 8, 9, 10, 11] [4, 5, 6, 7, 0, 3, 8, 9, 10] rfl <| s_b [(8, .v (.bool (decide ((reE sn pg pu D op.2.1 op.2.2) = 0))))] 2 <| s_one 9 rfl (by kernel_rfl) rfl ?_
      clear H
      intro v34 H
      have h31o := H.rowOne 9 rfl
      have h32o := H.rowOne 5 rfl
      have h33o := H.rowOne 11 rfl
      refine z_store H 6 0 [.int .i64 r, .int .i64 s, .int .i64 b, .int .i64 o, .int .i64 c, .int .i64 y, .int .i64 z, lv, u1, kv, .int .i64 (pu : Int), .int .i64 (ru : Int)] (fun v35 H => ?_) (h1 := (by simp only [List.all_cons, List.all_nil, h31o, h32o, h33o, Bool.and_true, Bool.true_and] <;> rfl))
      refine x_nil <| x_then <| z_next H [0, 1, 2, 3, 4, 5, 6, 7, 8, 9, 10, 11] [0, 1, 2, 3, 4, 5, 7, 8, 9, 10, 11] rfl <| s_b [(10, .v (.bool (decide ((reE sn pg pu D op.2.1 op.2.2) = 0))))] 0 <| s_done (by kernel_rfl) ?_
      clear H
      intro v36 H
      refine x_then <| x_retc <| x_blk_ret <| x_then_ret <| x_ret (.tuple #[.agg #[.int .i64 r, .int .i64 s, .int .i64 b, .int .i64 o, .int .i64 c, .int .i64 y, .int .i64 z, lv, u1, kv, .int .i64 (pu : Int), .int .i64 (ru : Int)], .bool (decide ((reE sn pg pu D op.2.1 op.2.2) = 0))]) (by kernel_rfl) (x_results [.cell 6 43, .tmp 7] [.agg #[.int .i64 r, .int .i64 s, .int .i64 b, .int .i64 o, .int .i64 c, .int .i64 y, .int .i64 z, lv, u1, kv, .int .i64 (pu : Int), .int .i64 (ru : Int)], .bool (decide ((reE sn pg pu D op.2.1 op.2.2) = 0))] _ rfl (AllR.cell (by kernel_rfl) (ldR H 6 g3 0 #[.int .i64 r, .int .i64 s, .int .i64 b, .int .i64 o, .int .i64 c, .int .i64 y, .int .i64 z, lv, u1, kv, .int .i64 (pu : Int), .int .i64 (ru : Int)] 43 [.int .i64 r, .int .i64 s, .int .i64 b, .int .i64 o, .int .i64 c, .int .i64 y, .int .i64 z, lv, u1, kv, .int .i64 (pu : Int), .int .i64 (ru : Int)] (by kernel_rfl) (by kernel_rfl) (by kernel_rfl)) (AllR.tmp (by kernel_rfl) AllR.nil)) (by kernel_rfl)) ?_
      replace H := H.pk [0, 1, 2, 3, 9, 5, 11]
      have eb : ((decide ((reE sn pg pu D op.2.1 op.2.2) = 0))) = true := by simp <;> omega
      have e_mvL : mvL sn pg pu D L op = reL sn pg pu D op.2.1 op.2.2 L := by unfold mvL; rw [if_pos]; omega
      have e_mvD : mvD sn pg pu D op = reD sn pg pu D op.2.1 op.2.2 := by unfold mvD; rw [if_pos]; omega
      have e_mvS : mvS r ns ru S op = S := by unfold mvS; rw [if_neg]; omega
      have e_mvPu : mvPu z pu op = pu := by unfold mvPu; rw [if_neg]; omega
      have e_mvRu : mvRu s ru op = ru := by unfold mvRu; rw [if_neg]; omega
      have e_mvPg : mvPg sn pg pu D Pg op = Pg ++ [(op.2.1, op.2.2)] := by unfold mvPg; rw [if_pos ⟨by omega, h21p⟩]
      have e_mvRk : mvRk r ns ru S Rk op = Rk := by unfold mvRk; first | (rw [if_neg (by omega)]) | (rw [if_neg]; omega)
      rw [e_mvL, e_mvD, e_mvS, e_mvPu, e_mvRu, e_mvPg, e_mvRk]
      exact ⟨(u1, kv), by rw [eb] <;> rfl, H⟩
    have h2p := of_decide_eq_true h2
    refine x_t (by kernel_rfl) <| x_seq <| x_region <| x_b H [.m] ?_
    cases h34 : decide ((ru : Int) = s)
    · skip
      have h34p := of_decide_eq_false h34
      refine z_callB H (FreeSpare_yes hL hV.m h34p _ (H.ro1 [3, 4, 5, 6])) fun v37 H => x_b H [.m, .m, .m, .m, .m] <| x_nil <| x_then <| x_seq <| x_region <| x_b H [.m] ?_
      refine z_callH (H.useI [3, 4, 5, 6] (fun h => TakeSpare_yes hL hV.m h34p _ h)) fun v38 H => x_b H [.m, .m, .m, .m, .m] <| x_nil <| x_then <| x_seq <| x_seq <| x_region ?_
      refine x_b H [.m, .l 6 11, .m, .m, .l 6 1, .v (.bool (decide ((ru : Int) = s)))] <| x_nil <| x_then ?_
      rw [h34]
      refine x_f (by kernel_rfl) <| x_skipc <| x_then <| x_seq <| x_region <| x_b H [.m, .l 6 11] <| z_ar ((ru : Int) + 1) ?_
      refine x_b H [.m] <| z_store H 6 11 [.int .i64 ((ru : Int) + 1)] (fun v39 H => ?_)
      refine x_nil <| x_then <| x_seq <| x_region <| x_b H [.m, .m, .l 6 0, .m, .l 6 11] <| z_ar (r + ((ru : Int) + 1)) <| z_ar ((r + ((ru : Int) + 1)) - 1) ?_
      refine x_b H [.m] <| x_nil <| z_fr 183 [(4, .pointer (some ⟨g1, 0, none⟩)), (6, .pointer (some ⟨g3, 0, none⟩)), (13, .int .i64 (r + (ru : Int))), (14, .bool true), (15, .int .i64 (r + (ru : Int))), (16, .int .i64 0), (17, .int .i64 ((r + ((ru : Int) + 1)) - 1))] [] fun uf1 => x_then <| x_seq <| x_region <| x_b H [.n 6 0 12 43, .m, .m, .m, .m, .v (.bool (decide ((r + (ru : Int)) = ((r + ((ru : Int) + 1)) - 1)))), .v (.bool (decide ((r + (ru : Int)) = ((r + ((ru : Int) + 1)) - 1)))), .v (.bool (decide ((r + (ru : Int)) = ((r + ((ru : Int) + 1)) - 1))))] ?_
      cases h35 : decide ((r + (ru : Int)) = ((r + ((ru : Int) + 1)) - 1))
      · skip
        have h35p := of_decide_eq_false h35
        refine x_b H [.k, .k, .k, .m, .m, .k, .k, .m] ?_
        have h36o := H.rowOne 7 rfl
        have h37o := H.rowOne 8 rfl
        have h38o := H.rowOne 9 rfl
        refine z_store H 4 0 [.int .i64 r, .int .i64 s, .int .i64 b, .int .i64 o, .int .i64 c, .int .i64 y, .int .i64 z, lv, pv, kv, .int .i64 (pu : Int), .int .i64 ((ru : Int) + 1)] (fun v40 H => ?_) (h1 := (by simp only [List.all_cons, List.all_nil, h36o, h37o, h38o, Bool.and_true, Bool.true_and] <;> rfl))
        refine x_b H [.m] <| x_nil <| x_then <| x_retc <| x_blk_ret <| x_then_ret <| x_ret (.tuple #[.agg #[.int .i64 r, .int .i64 s, .int .i64 b, .int .i64 o, .int .i64 c, .int .i64 y, .int .i64 z, lv, pv, kv, .int .i64 (pu : Int), .int .i64 ((ru : Int) + 1)], .bool false]) (by kernel_rfl) (x_results [.cell 6 43, .tmp 7] [.agg #[.int .i64 r, .int .i64 s, .int .i64 b, .int .i64 o, .int .i64 c, .int .i64 y, .int .i64 z, lv, pv, kv, .int .i64 (pu : Int), .int .i64 ((ru : Int) + 1)], .bool false] _ rfl (AllR.cell (by kernel_rfl) (ldR H 4 g3 0 #[.int .i64 r, .int .i64 s, .int .i64 b, .int .i64 o, .int .i64 c, .int .i64 y, .int .i64 z, lv, pv, kv, .int .i64 (pu : Int), .int .i64 ((ru : Int) + 1)] 43 [.int .i64 r, .int .i64 s, .int .i64 b, .int .i64 o, .int .i64 c, .int .i64 y, .int .i64 z, lv, pv, kv, .int .i64 (pu : Int), .int .i64 ((ru : Int) + 1)] (by kernel_rfl) (by kernel_rfl) (by kernel_rfl)) (AllR.tmp (by kernel_rfl) AllR.nil)) (by kernel_rfl)) ?_
        replace H := H.pk [0, 1, 2, 3, 7, 8, 9]
        have eb : (false) = true := by simp <;> omega
        have e_mvL : mvL sn pg pu D L op = L := by unfold mvL; rw [if_neg]; omega
        have e_mvD : mvD sn pg pu D op = D := by unfold mvD; rw [if_neg]; omega
        have e_mvS : mvS r ns ru S op = S := by unfold mvS; rw [if_neg]; omega
        have e_mvPu : mvPu z pu op = pu := by unfold mvPu; rw [if_neg]; omega
        have e_mvRu : mvRu s ru op = tkN s ru := by unfold mvRu; rw [if_pos]; omega
        have f_mvRu : tkN s ru = ru + 1 := by unfold tkN; rw [if_neg h34p]
        have e_mvPg : mvPg sn pg pu D Pg op = Pg := by unfold mvPg; first | (rw [if_neg (by omega)]) | (rw [if_neg]; omega)
        have e_mvRk : mvRk r ns ru S Rk op = Rk := by unfold mvRk; first | (rw [if_neg (by omega)]) | (rw [if_neg]; omega)
        rw [e_mvL, e_mvD, e_mvS, e_mvPu, e_mvRu, e_mvPg, e_mvRk, f_mvRu]
        exact ⟨(pv, kv), by rw [eb] <;> rfl, H⟩
      have h35p := of_decide_eq_true h35
      refine x_b H [.m, .m, .v (.bool (decide ((r + (ru : Int)) = ((r + ((ru : Int) + 1)) - 1)))), .v (.bool (decide ((r + (ru : Int)) = ((r + ((ru : Int) + 1)) - 1)))), .v (.bool (decide ((r + (ru : Int)) = ((r + ((ru : Int) + 1)) - 1))))] ?_
      rw [h35]
      refine x_b H [.m, .m, .m] ?_
      have h39o := H.rowOne 7 rfl
      have h40o := H.rowOne 8 rfl
      have h41o := H.rowOne 9 rfl
      refine z_store H 4 0 [.int .i64 r, .int .i64 s, .int .i64 b, .int .i64 o, .int .i64 c, .int .i64 y, .int .i64 z, lv, pv, kv, .int .i64 (pu : Int), .int .i64 ((ru : Int) + 1)] (fun v41 H => ?_) (h1 := (by simp only [List.all_cons, List.all_nil, h39o, h40o, h41o, Bool.and_true, Bool.true_and] <;> rfl))
      refine x_b H [.m] <| x_nil <| x_then <| x_retc <| x_blk_ret <| x_then_ret <| x_ret (.tuple #[.agg #[.int .i64 r, .int .i64 s, .int .i64 b, .int .i64 o, .int .i64 c, .int .i64 y, .int .i64 z, lv, pv, kv, .int .i64 (pu : Int), .int .i64 ((ru : Int) + 1)], .bool true]) (by kernel_rfl) (x_results [.cell 6 43, .tmp 7] [.agg #[.int .i64 r, .int .i64 s, .int .i64 b, .int .i64 o, .int .i64 c, .int .i64 y, .int .i64 z, lv, pv, kv, .int .i64 (pu : Int), .int .i64 ((ru : Int) + 1)], .bool true] _ rfl (AllR.cell (by kernel_rfl) (ldR H 4 g3 0 #[.int .i64 r, .int .i64 s, .int .i64 b, .int .i64 o, .int .i64 c, .int .i64 y, .int .i64 z, lv, pv, kv, .int .i64 (pu : Int), .int .i64 ((ru : Int) + 1)] 43 [.int .i64 r, .int .i64 s, .int .i64 b, .int .i64 o, .int .i64 c, .int .i64 y, .int .i64 z, lv, pv, kv, .int .i64 (pu : Int), .int .i64 ((ru : Int) + 1)] (by kernel_rfl) (by kernel_rfl) (by kernel_rfl)) (AllR.tmp (by kernel_rfl) AllR.nil)) (by kernel_rfl)) ?_
      replace H := H.pk [0, 1, 2, 3, 7, 8, 9]
      have e_mvL : mvL sn pg pu D L op = L := by unfold mvL; rw [if_neg]; omega
      have e_mvD : mvD sn pg pu D op = D := by unfold mvD; rw [if_neg]; omega
      have e_mvS : mvS r ns ru S op = S := by unfold mvS; rw [if_neg]; omega
      have e_mvPu : mvPu z pu op = pu := by unfold mvPu; rw [if_neg]; omega
      have e_mvRu : mvRu s ru op = tkN s ru := by unfold mvRu; rw [if_pos]; omega
      have f_mvRu : tkN s ru = ru + 1 := by unfold tkN; rw [if_neg h34p]
      have e_mvPg : mvPg sn pg pu D Pg op = Pg := by unfold mvPg; first | (rw [if_neg (by omega)]) | (rw [if_neg]; omega)
      have e_mvRk : mvRk r ns ru S Rk op = Rk := by unfold mvRk; first | (rw [if_neg (by omega)]) | (rw [if_neg]; omega)
      rw [e_mvL, e_mvD, e_mvS, e_mvPu, e_mvRu, e_mvPg, e_mvRk, f_mvRu]
      exact ⟨(pv, kv), rfl, H⟩
    have h34p := of_decide_eq_true h34
    refine z_callB H (FreeSpare_no hL hV.m h34p _ (H.ro1 [3, 4, 5, 6])) fun v42 H => x_b H [.m, .m, .m, .m, .m] <| x_nil <| x_then <| x_seq <| x_region <| x_b H [.m] ?_
    refine z_callH (H.useI [3, 4, 5, 6] (fun h => TakeSpare_no hL hV.m h34p _ h)) fun v43 H => x_b H [.m, .m, .m, .m, .m] <| x_nil <| x_then <| x_seq <| x_seq <| x_region ?_
    refine x_b H [.m, .l 6 11, .m, .m, .l 6 1, .v (.bool (decide ((ru : Int) = s)))] <| x_nil <| x_then ?_
    rw [h34]
    refine x_t (by kernel_rfl) <| x_seq <| x_region <| x_b H [.n 6 0 12 43, .m, .m, .m, .m, .m, .m, .m, .m, .m, .m, .m, .m, .m, .m] ?_
    have h42o := H.rowOne 7 rfl
    have h43o := H.rowOne 8 rfl
    have h44o := H.rowOne 9 rfl
    refine z_store H 4 0 [.int .i64 r, .int .i64 s, .int .i64 b, .int .i64 o, .int .i64 c, .int .i64 y, .int .i64 z, lv, pv, kv, .int .i64 (pu : Int), .int .i64 (ru : Int)] (fun v44 H => ?_) (h1 := (by simp only [List.all_cons, List.all_nil, h42o, h43o, h44o, Bool.and_true, Bool.true_and] <;> rfl))
    refine x_b H [.m] <| x_nil <| z_fr 183 [(6, .pointer (some ⟨g3, 0, none⟩)), (7, .bool true)] [] fun uf2 => x_then <| x_retc <| x_then_ret <| x_blk_ret ?_
    refine x_then_ret <| x_ret (.tuple #[.agg #[.int .i64 r, .int .i64 s, .int .i64 b, .int .i64 o, .int .i64 c, .int .i64 y, .int .i64 z, lv, pv, kv, .int .i64 (pu : Int), .int .i64 (ru : Int)], .bool true]) (by kernel_rfl) (x_results [.cell 6 43, .tmp 7] [.agg #[.int .i64 r, .int .i64 s, .int .i64 b, .int .i64 o, .int .i64 c, .int .i64 y, .int .i64 z, lv, pv, kv, .int .i64 (pu : Int), .int .i64 (ru : Int)], .bool true] _ rfl (AllR.cell (by kernel_rfl) (ldR H 4 g3 0 #[.int .i64 r, .int .i64 s, .int .i64 b, .int .i64 o, .int .i64 c, .int .i64 y, .int .i64 z, lv, pv, kv, .int .i64 (pu : Int), .int .i64 (ru : Int)] 43 [.int .i64 r, .int .i64 s, .int .i64 b, .int .i64 o, .int .i64 c, .int .i64 y, .int .i64 z, lv, pv, kv, .int .i64 (pu : Int), .int .i64 (ru : Int)] (by kernel_rfl) (by kernel_rfl) (by kernel_rfl)) (AllR.tmp (by kernel_rfl) AllR.nil)) (by kernel_rfl)) ?_
    replace H := H.pk [0, 1, 2, 3, 7, 8, 9]
    have e_mvL : mvL sn pg pu D L op = L := by unfold mvL; rw [if_neg]; omega
    have e_mvD : mvD sn pg pu D op = D := by unfold mvD; rw [if_neg]; omega
    have e_mvS : mvS r ns ru S op = S := by unfold mvS; rw [if_neg]; omega
    have e_mvPu : mvPu z pu op = pu := by unfold mvPu; rw [if_neg]; omega
    have e_mvRu : mvRu s ru op = tkN s ru := by unfold mvRu; rw [if_pos]; omega
    have f_mvRu : tkN s ru = ru := by unfold tkN; rw [if_pos h34p]
    have e_mvPg : mvPg sn pg pu D Pg op = Pg := by unfold mvPg; first | (rw [if_neg (by omega)]) | (rw [if_neg]; omega)
    have e_mvRk : mvRk r ns ru S Rk op = Rk := by unfold mvRk; first | (rw [if_neg (by omega)]) | (rw [if_neg]; omega)
    rw [e_mvL, e_mvD, e_mvS, e_mvPu, e_mvRu, e_mvPg, e_mvRk, f_mvRu]
    exact ⟨(pv, kv), rfl, H⟩
  have h1p := of_decide_eq_true h1
  refine x_t (by kernel_rfl) <| x_seq <| x_region <| x_b H [.m] ?_
  cases h45 : decide ((pu : Int) = z)
  · skip
    have h45p := of_decide_eq_false h45
    refine z_callB H (FreePage_yes hL hV.m h45p _ (H.ro1 [3, 4, 5, 6])) fun v45 H => x_b H [.m, .m, .m, .m, .m] <| x_nil <| x_then <| x_seq <| x_region <| x_b H [.m] ?_
    refine z_callH (H.useI [3, 4, 5, 6] (fun h => TakePage_yes hL hV.m h45p _ h)) fun v46 H => x_b H [.m, .m, .m, .m, .m] <| x_nil <| x_then <| x_seq <| x_seq <| x_region ?_
    refine x_b H [.m, .l 6 10, .m, .l 6 6, .v (.bool (decide ((pu : Int) = z)))] <| x_nil <| x_then ?_
    rw [h45]
    refine x_f (by kernel_rfl) <| x_skipc <| x_then <| x_seq <| x_region <| x_b H [.m, .l 6 10] <| x_eq (.int .i64 (((pu + 1) : Nat) : Int)) (show Value.int .i64 (IntKind.i64.wrap ((pu : Int) + 1)) = Value.int .i64 (((pu + 1) : Nat) : Int) from congrArg (Value.int .i64) ((wrap_in (by omega) (by omega)).trans (by omega))) (by kernel_rfl) rfl (by kernel_rfl) ?_
    refine x_b H [.m] <| z_store H 6 10 [.int .i64 (((pu + 1) : Nat) : Int)] (fun v47 H => ?_)
    refine x_nil <| x_then <| x_seq <| z_region_whole H <| q_b [.n 6 0 12 43] <| q_callR (.int .i64 (sn : Int)) (by kernel_rfl) (fun _ => by kernel_rfl) (fun _ H => (Seen19 (pu := (pu + 1)) (ru := ru) (pv := pv) (kv := kv) hL _ (H.ro1 [7]))) <| q_b [.m, .l 6 10] ?_
    refine q_ar ((sn : Int) + (((pu + 1) : Nat) : Int)) ⟨by omega, by omega⟩ (by kernel_rfl) (fun _ => by kernel_rfl) <| q_ar (((sn : Int) + (((pu + 1) : Nat) : Int)) - 1) ⟨by omega, by omega⟩ (by kernel_rfl) (fun _ => by kernel_rfl) <| q_b [.m] <| q_nil ?_
    clear H
    intro v48 H
    refine x_then <| x_seq <| x_region <| x_b H [.n 6 0 12 43, .m, .m, .m, .m, .v (.bool (decide (((sn : Int) + (pu : Int)) = (((sn : Int) + (((pu + 1) : Nat) : Int)) - 1)))), .v (.bool (decide (((sn : Int) + (pu : Int)) = (((sn : Int) + (((pu + 1) : Nat) : Int)) - 1)))), .v (.bool (decide (((sn : Int) + (pu : Int)) = (((sn : Int) + (((pu + 1) : Nat) : Int)) - 1))))] ?_
    cases h46 : decide (((sn : Int) + (pu : Int)) = (((sn : Int) + (((pu + 1) : Nat) : Int)) - 1))
    · skip
      have h46p := of_decide_eq_false h46
      refine x_b H [.k, .k, .k, .m, .m, .k, .k, .m] ?_
      have h47o := H.rowOne 7 rfl
      have h48o := H.rowOne 8 rfl
      have h49o := H.rowOne 9 rfl
      refine z_store H 4 0 [.int .i64 r, .int .i64 s, .int .i64 b, .int .i64 o, .int .i64 c, .int .i64 y, .int .i64 z, lv, pv, kv, .int .i64 (((pu + 1) : Nat) : Int), .int .i64 (ru : Int)] (fun v49 H => ?_) (h1 := (by simp only [List.all_cons, List.all_nil, h47o, h48o, h49o, Bool.and_true, Bool.true_and] <;> rfl))
      refine x_b H [.m] <| x_nil <| z_fr 183 [(6, .pointer (some ⟨g3, 0, none⟩)), (7, .bool false)] [] fun uf3 => x_then <| x_retc <| x_blk_ret <| x_then_ret ?_
      refine x_ret (.tuple #[.agg #[.int .i64 r, .int .i64 s, .int .i64 b, .int .i64 o, .int .i64 c, .int .i64 y, .int .i64 z, lv, pv, kv, .int .i64 (((pu + 1) : Nat) : Int), .int .i64 (ru : Int)], .bool false]) (by kernel_rfl) (x_results [.cell 6 43, .tmp 7] [.agg #[.int .i64 r, .int .i64 s, .int .i64 b, .int .i64 o, .int .i64 c, .int .i64 y, .int .i64 z, lv, pv, kv, .int .i64 (((pu + 1) : Nat) : Int), .int .i64 (ru : Int)], .bool false] _ rfl (AllR.cell (by kernel_rfl) (ldR H 4 g3 0 #[.int .i64 r, .int .i64 s, .int .i64 b, .int .i64 o, .int .i64 c, .int .i64 y, .int .i64 z, lv, pv, kv, .int .i64 (((pu + 1) : Nat) : Int), .int .i64 (ru : Int)] 43 [.int .i64 r, .int .i64 s, .int .i64 b, .int .i64 o, .int .i64 c, .int .i64 y, .int .i64 z, lv, pv, kv, .int .i64 (((pu + 1) : Nat) : Int), .int .i64 (ru : Int)] (by kernel_rfl) (by kernel_rfl) (by kernel_rfl)) (AllR.tmp (by kernel_rfl) AllR.nil)) (by kernel_rfl)) ?_
      replace H := H.pk [0, 1, 2, 3, 7, 8, 9]
      have eb : (false) = true := by simp <;> omega
      have e_mvL : mvL sn pg pu D L op = L := by unfold mvL; rw [if_neg]; omega
      have e_mvD : mvD sn pg pu D op = D := by unfold mvD; rw [if_neg]; omega
      have e_mvS : mvS r ns ru S op = S := by unfold mvS; rw [if_neg]; omega
      have e_mvPu : mvPu z pu op = tkN z pu := by unfold mvPu; rw [if_pos]; omega
      have f_mvPu : tkN z pu = pu + 1 := by unfold tkN; rw [if_neg h45p]
      have e_mvRu : mvRu s ru op = ru := by unfold mvRu; rw [if_neg]; omega
      have e_mvPg : mvPg sn pg pu D Pg op = Pg := by unfold mvPg; first | (rw [if_neg (by omega)]) | (rw [if_neg]; omega)
      have e_mvRk : mvRk r ns ru S Rk op = Rk := by unfold mvRk; first | (rw [if_neg (by omega)]) | (rw [if_neg]; omega)
      rw [e_mvL, e_mvD, e_mvS, e_mvPu, e_mvRu, e_mvPg, e_mvRk, f_mvPu]
      exact ⟨(pv, kv), by rw [eb] <;> rfl, H⟩
    have h46p := of_decide_eq_true h46
    refine x_b H [.m, .m, .v (.bool (decide (((sn : Int) + (pu : Int)) = (((sn : Int) + (((pu + 1) : Nat) : Int)) - 1)))), .v (.bool (decide (((sn : Int) + (pu : Int)) = (((sn : Int) + (((pu + 1) : Nat) : Int)) - 1)))), .v (.bool (decide (((sn : Int) + (pu : Int)) = (((sn : Int) + (((pu + 1) : Nat) : Int)) - 1))))] ?_
    rw [h46]
    refine x_b H [.m, .m, .m] ?_
    have h50o := H.rowOne 7 rfl
    have h51o := H.rowOne 8 rfl
    have h52o := H.rowOne 9 rfl
    refine z_store H 4 0 [.int .i64 r, .int .i64 s, .int .i64 b, .int .i64 o, .int .i64 c, .int .i64 y, .int .i64 z, lv, pv, kv, .int .i64 (((pu + 1) : Nat) : Int), .int .i64 (ru : Int)] (fun v50 H => ?_) (h1 := (by simp only [List.all_cons, List.all_nil, h50o, h51o, h52o, Bool.and_true, Bool.true_and] <;> rfl))
    refine x_b H [.m] <| x_nil <| z_fr 183 [(6, .pointer (some ⟨g3, 0, none⟩)), (7, .bool true)] [] fun uf4 => x_then <| x_retc <| x_blk_ret <| x_then_ret ?_
    refine x_ret (.tuple #[.agg #[.int .i64 r, .int .i64 s, .int .i64 b, .int .i64 o, .int .i64 c, .int .i64 y, .int .i64 z, lv, pv, kv, .int .i64 (((pu + 1) : Nat) : Int), .int .i64 (ru : Int)], .bool true]) (by kernel_rfl) (x_results [.cell 6 43, .tmp 7] [.agg #[.int .i64 r, .int .i64 s, .int .i64 b, .int .i64 o, .int .i64 c, .int .i64 y, .int .i64 z, lv, pv, kv, .int .i64 (((pu + 1) : Nat) : Int), .int .i64 (ru : Int)], .bool true] _ rfl (AllR.cell (by kernel_rfl) (ldR H 4 g3 0 #[.int .i64 r, .int .i64 s, .int .i64 b, .int .i64 o, .int .i64 c, .int .i64 y, .int .i64 z, lv, pv, kv, .int .i64 (((pu + 1) : Nat) : Int), .int .i64 (ru : Int)] 43 [.int .i64 r, .int .i64 s, .int .i64 b, .int .i64 o, .int .i64 c, .int .i64 y, .int .i64 z, lv, pv, kv, .int .i64 (((pu + 1) : Nat) : Int), .int .i64 (ru : Int)] (by kernel_rfl) (by kernel_rfl) (by kernel_rfl)) (AllR.tmp (by kernel_rfl) AllR.nil)) (by kernel_rfl)) ?_
    replace H := H.pk [0, 1, 2, 3, 7, 8, 9]
    have e_mvL : mvL sn pg pu D L op = L := by unfold mvL; rw [if_neg]; omega
    have e_mvD : mvD sn pg pu D op = D := by unfold mvD; rw [if_neg]; omega
    have e_mvS : mvS r ns ru S op = S := by unfold mvS; rw [if_neg]; omega
    have e_mvPu : mvPu z pu op = tkN z pu := by unfold mvPu; rw [if_pos]; omega
    have f_mvPu : tkN z pu = pu + 1 := by unfold tkN; rw [if_neg h45p]
    have e_mvRu : mvRu s ru op = ru := by unfold mvRu; rw [if_neg]; omega
    have e_mvPg : mvPg sn pg pu D Pg op = Pg := by unfold mvPg; first | (rw [if_neg (by omega)]) | (rw [if_neg]; omega)
    have e_mvRk : mvRk r ns ru S Rk op = Rk := by unfold mvRk; first | (rw [if_neg (by omega)]) | (rw [if_neg]; omega)
    rw [e_mvL, e_mvD, e_mvS, e_mvPu, e_mvRu, e_mvPg, e_mvRk, f_mvPu]
    exact ⟨(pv, kv), rfl, H⟩
  have h45p := of_decide_eq_true h45
  refine z_callB H (FreePage_no hL hV.m h45p _ (H.ro1 [3, 4, 5, 6])) fun v51 H => x_b H [.m, .m, .m, .m, .m] <| x_nil <| x_then <| x_seq <| x_region <| x_b H [.m] ?_
  refine z_callH (H.useI [3, 4, 5, 6] (fun h => TakePage_no hL hV.m h45p _ h)) fun v52 H => x_b H [.m, .m, .m, .m, .m] <| x_nil <| x_then <| x_seq <| x_seq <| x_region ?_
  refine x_b H [.m, .l 6 10, .m, .l 6 6, .v (.bool (decide ((pu : Int) = z)))] <| x_nil <| x_then ?_
  rw [h45]
  refine x_t (by kernel_rfl) <| x_seq <| x_region <| x_b H [.n 6 0 12 43, .m, .m, .m, .m, .m, .m, .m, .m, .m, .m, .m, .m, .m, .m] ?_
  have h53o := H.rowOne 7 rfl
  have h54o := H.rowOne 8 rfl
  have h55o := H.rowOne 9 rfl
  refine z_store H 4 0 [.int .i64 r, .int .i64 s, .int .i64 b, .int .i64 o, .int .i64 c, .int .i64 y, .int .i64 z, lv, pv, kv, .int .i64 (pu : Int), .int .i64 (ru : Int)] (fun v53 H => ?_) (h1 := (by simp only [List.all_cons, List.all_nil, h53o, h54o, h55o, Bool.and_true, Bool.true_and] <;> rfl))
  refine x_b H [.m] <| x_nil <| z_fr 183 [(6, .pointer (some ⟨g3, 0, none⟩)), (7, .bool true)] [] fun uf5 => x_then <| x_retc <| x_then_ret <| x_blk_ret ?_
  refine x_then_ret <| x_ret (.tuple #[.agg #[.int .i64 r, .int .i64 s, .int .i64 b, .int .i64 o, .int .i64 c, .int .i64 y, .int .i64 z, lv, pv, kv, .int .i64 (pu : Int), .int .i64 (ru : Int)], .bool true]) (by kernel_rfl) (x_results [.cell 6 43, .tmp 7] [.agg #[.int .i64 r, .int .i64 s, .int .i64 b, .int .i64 o, .int .i64 c, .int .i64 y, .int .i64 z, lv, pv, kv, .int .i64 (pu : Int), .int .i64 (ru : Int)], .bool true] _ rfl (AllR.cell (by kernel_rfl) (ldR H 4 g3 0 #[.int .i64 r, .int .i64 s, .int .i64 b, .int .i64 o, .int .i64 c, .int .i64 y, .int .i64 z, lv, pv, kv, .int .i64 (pu : Int), .int .i64 (ru : Int)] 43 [.int .i64 r, .int .i64 s, .int .i64 b, .int .i64 o, .int .i64 c, .int .i64 y, .int .i64 z, lv, pv, kv, .int .i64 (pu : Int), .int .i64 (ru : Int)] (by kernel_rfl) (by kernel_rfl) (by kernel_rfl)) (AllR.tmp (by kernel_rfl) AllR.nil)) (by kernel_rfl)) ?_
  replace H := H.pk [0, 1, 2, 3, 7, 8, 9]
  have e_mvL : mvL sn pg pu D L op = L := by unfold mvL; rw [if_neg]; omega
  have e_mvD : mvD sn pg pu D op = D := by unfold mvD; rw [if_neg]; omega
  have e_mvS : mvS r ns ru S op = S := by unfold mvS; rw [if_neg]; omega
  have e_mvPu : mvPu z pu op = tkN z pu := by unfold mvPu; rw [if_pos]; omega
  have f_mvPu : tkN z pu = pu := by unfold tkN; rw [if_pos h45p]
  have e_mvRu : mvRu s ru op = ru := by unfold mvRu; rw [if_neg]; omega
  have e_mvPg : mvPg sn pg pu D Pg op = Pg := by unfold mvPg; first | (rw [if_neg (by omega)]) | (rw [if_neg]; omega)
  have e_mvRk : mvRk r ns ru S Rk op = Rk := by unfold mvRk; first | (rw [if_neg (by omega)]) | (rw [if_neg]; omega)
  rw [e_mvL, e_mvD, e_mvS, e_mvPu, e_mvRu, e_mvPg, e_mvRk, f_mvPu]
  exact ⟨(pv, kv), rfl, H⟩

end Go.Proofs.Ytpmnnijjohlloaa
