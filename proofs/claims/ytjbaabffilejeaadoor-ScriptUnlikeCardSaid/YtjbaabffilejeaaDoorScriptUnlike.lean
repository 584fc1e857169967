/- Two unlike steps that may be have unlike lines, and no line has a newline: for every input the Go function ScriptUnlike returns true. The card ties the listed variables to the program's text. -/
import Derived.Test.YtjbaabffilejeaaDoorDrZ
import Derived.Test.YtjbaabffilejeaaDoorDrRowS
import Derived.Test.YtjbaabffilejeaaDoorOpenA
import Derived.Test.YtjbaabffilejeaaDoorCards
import Derived.Test.YtjbaabffilejeaaDoorTie
namespace Go.Proofs.YtjbaabffilejeaaDoor.scriptUnlike
open Go.ChangeShapes Go.WideShapes Go.ChangeAt Go.RowKit
open Go.ChangeMaps (open_string shut_string)
set_option linter.unusedVariables false
theorem met (os : Os) (args : Array Value) : laidMetH Tryd.prog Rows.scriptUnlikeRow.laid ((startW os).forCall (fun _ _ => 0) ⟨#[], args, []⟩).memory :=
  laidMetH_of_parts3 (fuel := 8) (laidMet_of_run' 8 (by kernel_rfl) (by kernel_rfl)) (by kernel_rfl) (by kernel_rfl)
theorem env {W : World} (hsh : W.ShapedOpen Tryd.prog) (h : laidMetH Tryd.prog Rows.scriptUnlikeRow.laid W) : EnvS W := by
  rw [MakeChecks.laidMetH_plain _ _ _ (by kernel_rfl)] at h
  exact envS_list hsh h
set_option maxRecDepth 100000 in
theorem lifted (os : Os) (started : os.Started) (H : Type) (enc : TypeId × Value → H) :
    ReturnsInHanded {} Tryd.checked os 6 .any (fun w args => (Rows.scriptUnlikeSpec.pre enc Tryd.prog Tryd.f6 Rows.scriptUnlikeRow.domain false w args ∧ laidMetH Tryd.prog Rows.scriptUnlikeRow.laid w) ∧ sizedMet enc Tryd.prog Tryd.f6 (OpenSpec.ofChange Rows.scriptUnlikeSpec) false w args)
      (Rows.scriptUnlikeSpec.post enc Tryd.prog Tryd.f6 false true false false) := by
  refine shapedAnd (X := fun w _ => laidMetH Tryd.prog Rows.scriptUnlikeRow.laid w) (fun _ _ _ hh h => h.of_heap hh) started (by kernel_rfl) Tryd.func6
    (ChangeSpec.witness_shaped (enc := enc) (C := Tryd.checked) (os := os) (X := fun w _ => laidMetH Tryd.prog Rows.scriptUnlikeRow.laid w) false (startW os) #[.agg (stepA zeroS), .agg (stepA zeroS)] 8 rfl (World.shaped_of_RefB (by kernel_rfl) (by kernel_rfl)) (by kernel_rfl) (by kernel_rfl) (by kernel_rfl) (met os _)) ?_
  intro W base args ds gs before hval0 hW hL hsh
  have hval : ∀ (j : Nat) t v, Tryd.f6.params[j]? = some t → args[j]? = some v → Value.okWide Tryd.prog W .any base t v := hval0
  have hW' := hW
  obtain ⟨p, q, hA0, hV, rfl, hfz, hnd⟩ := hW
  have hA : DataW.TrodAll enc Tryd.prog W 0 (fun _ => true) true Tryd.f6.params.toList args.toList ds p := hA0
  rw [Tryd.params6] at hA hval
  obtain ⟨v0, v1, d0, d1, p0, p1, rfl, rfl, rfl, h0, h1⟩ := trodAll_two hA
  obtain ⟨rfl, rfl⟩ := trodVars_none hV
  have k0 := h0
  have lt0 : ∀ x ∈ p0, x.block < W.heap.size := by obtain ⟨m, hm⟩ := k0; exact DataW.trod_lt m _ _ _ hm
  obtain ⟨cs0, rfl, hf0⟩ := open_structA 6 plStep Tryd.underlying41 (hval 0 41 v0 rfl rfl) h0
  obtain ⟨x0, rfl, hx0⟩ := step_of_fits hf0
  have k1 := h1
  have lt1 : ∀ x ∈ p1, x.block < W.heap.size := by obtain ⟨m, hm⟩ := k1; exact DataW.trod_lt m _ _ _ hm
  obtain ⟨cs1, rfl, hf1⟩ := open_structA 6 plStep Tryd.underlying41 (hval 1 41 v1 rfl rfl) h1
  obtain ⟨x1, rfl, hx1⟩ := step_of_fits hf1
  clear hA0 hval0
  refine (ScriptUnlike_walk hx0 hx1 W (env hsh hL)).mono fun e W' ⟨he, bel⟩ => ?_
  subst he
  exact ⟨_, rfl, _, _, _, [], _, [], hW', trodAll_mk1 (shut_bool Tryd.underlying4 _), (trodAll_cons_mk (Below.trod Tryd.laidOut (by kernel_rfl) (of_decide_eq_true (by kernel_rfl)) k0 bel lt0) (trodAll_cons_mk (Below.trod Tryd.laidOut (by kernel_rfl) (of_decide_eq_true (by kernel_rfl)) k1 bel lt1) trodAll_mk0)), rfl, bel.frame _, fun h => by cases h⟩
theorem over : Rows.ScriptUnlikeSaid :=
  OpenClaim.holds_of_wide 6 Tryd.f6 rfl rfl rfl rfl rfl rfl rfl ⟨rfl, rfl, rfl, rfl, rfl⟩ rfl rfl rfl rfl rfl (by kernel_rfl) Tryd.func6 (by kernel_rfl)
    (of_decide_eq_true (by kernel_rfl)) (by unfold Func.isWrapper; first | (rw [if_pos (by decide +kernel)]; kernel_rfl) | (rw [if_neg (by decide +kernel)]; exact ⟨rfl, rfl⟩))
    (fun os started H enc _ => lifted os started H enc)
/-- The statement: the tied card. -/
theorem proved : Rows.ScriptUnlikeCardSaid :=
  Claim7.holds_tied_plain_at .later [] [.data, .data, .data, .data, .sentinel, .sentinel, .widerDeep, .widerDeep, .pinned] true _ true
    over (fun _ h => by cases h) (by kernel_rfl) (fun _ h => by cases h) scriptUnlike_row_tie rfl ⟨rfl, rfl⟩ (by kernel_rfl) rfl
    (fun f fn hf hfn => by
      obtain rfl : f = 6 := Option.some.inj ((show Tryd.prog.funcNamed "cuirass/cuirasslaw23.ScriptUnlike" = some 6 by kernel_rfl).symm.trans hf) |>.symm
      obtain rfl : fn = Tryd.f6 := (Option.some.inj (Tryd.func6.symm.trans hfn)).symm
      exact ⟨by kernel_rfl, fun j t ht => by
        rw [Tryd.params6] at ht
        have hm : t ∈ [41, 41] := by simpa using Array.mem_of_getElem? ht
        have hall : ([41, 41].all fun u => !Tryd.prog.wantsStandIn u) = true := by kernel_rfl
        exact (show Tryd.prog.wantsStandIn t = false by simpa using List.all_eq_true.1 hall t hm)⟩)
    (by kernel_rfl)
#print axioms proved
end Go.Proofs.YtjbaabffilejeaaDoor.scriptUnlike
