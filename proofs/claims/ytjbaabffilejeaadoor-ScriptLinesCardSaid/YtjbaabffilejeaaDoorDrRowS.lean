/- From what a script's row lists to what the walks ask. -/
import Derived.Test.YtjbaabffilejeaaDoorDrRow
import Derived.Test.YtjbaabffilejeaaDoorDrS
import Derived.OpenShut
namespace Go.Proofs.YtjbaabffilejeaaDoor
open Go Go.RowKit Go.ChangeShapes
set_option linter.unusedVariables false
set_option maxRecDepth 100000 in
/-- A listed table of texts. -/
theorem strs_of_head {W : World} {name : String} {ds : List (List UInt8)} {rest : List (String × DataW Unit)} {g : Nat} {t e : TypeId} {n : Nat} (hg : Tryd.prog.globalNamed name = some g) (hty : (Tryd.prog.globals[g]?).map (·.type) = some t)
    (ht : Tryd.prog.underlying t = some (.array n e)) (he : Tryd.prog.underlying e = some .string) (hce : Tryd.prog.cellsOf e = 1) (hct : Tryd.prog.cellsOf t = n)
    (h : laidMet Tryd.prog ((name, .agg (ds.map fun b => .lit (.string b))) :: rest) W) : W.var? Tryd.prog name = some (ds.map S).toArray := by
  obtain ⟨ps, ⟨g', t', cs, fuel, p, q, hg', ht', hvar, hd, _, _⟩, _⟩ := h
  obtain rfl := Option.some.inj (hg.symm.trans hg')
  obtain rfl := Option.some.inj (hty.symm.trans ht')
  obtain ⟨xs, m, _, hx, hl, hn, hel⟩ := DataW.trod_array ht hd
  rw [hvar]
  have hxs : xs.map (·.1) = ds.map fun b => (DataW.lit (.string b) : DataW Unit) := by
    have := congrArg Prod.fst hx
    simpa using this.symm
  have hdl : ds.length = n := by have := congrArg List.length hxs; simp at this; omega
  congr 1
  apply Array.ext'
  apply List.ext_getElem?
  intro i
  by_cases hi : i < n
  · have h1 := hel i hi
    rw [hce, Nat.mul_one] at h1
    obtain ⟨b, hb⟩ : ∃ b, xs[i]? = some b := ⟨_, List.getElem?_eq_getElem (by omega)⟩
    rw [hb] at h1
    obtain ⟨s, hc, hbe, _⟩ := DataW.trod_string he h1
    have h2 : cs.toList[i]? = some (.string s) := by
      have := congrArg (·[0]?) hc
      simpa [List.getElem?_take, List.getElem?_drop] using this
    have h3 := congrArg (·[i]?) hxs
    simp only [List.getElem?_map, hb, Option.map_some] at h3
    cases hd' : ds[i]? with
    | none => rw [hd'] at h3; cases h3
    | some y =>
      rw [hd', hbe] at h3
      simp only [Option.map_some, Option.some.injEq, DataW.lit.injEq, Lit.string.injEq] at h3
      rw [h2]
      simp only [List.getElem?_map, hd', Option.map_some, Option.some.injEq]
      rw [← h3]
  · rw [List.getElem?_eq_none (by omega), List.getElem?_eq_none (by simp; omega)]
set_option maxRecDepth 100000 in
theorem envS_list {W : World} {r : List (String × DataW Unit)} (hsh : W.ShapedOpen Tryd.prog) (h : laidMet Tryd.prog (("math/bits.deBruijn32tab", Rows.laid_math_bits_deBruijn32tab) :: ("math/bits.deBruijn64tab", Rows.laid_math_bits_deBruijn64tab) :: ("internal/strconv.uint64pow10", Rows.laid_internal_strconv_uint64pow10) :: ("unicode/utf8.acceptRanges", Rows.laid_unicode_utf8_acceptRanges) :: ("strconv.ErrRange", Rows.laid_strconv_ErrRange) :: ("strconv.ErrSyntax", Rows.laid_strconv_ErrSyntax) :: ("cuirass/script.words", Rows.laid_cuirass_script_words) :: ("cuirass/script.faults", Rows.laid_cuirass_script_faults) :: r) W) : EnvS W := by
  have hw := h.tail.tail.tail.tail.tail.tail
  have h1 := strs_of_head (ds := [wordB 0, wordB 1, wordB 2, wordB 3, wordB 4, wordB 5, wordB 6, wordB 7]) (g := 1) (t := 76) (e := 9) (n := 8) (by kernel_rfl) (by kernel_rfl) (by kernel_rfl) (by kernel_rfl) (by kernel_rfl) (by kernel_rfl) hw
  have h2 := strs_of_head (ds := [faultB 0, faultB 1, faultB 2, faultB 3, faultB 4, faultB 5, faultB 6, faultB 7]) (g := 0) (t := 76) (e := 9) (n := 8) (by kernel_rfl) (by kernel_rfl) (by kernel_rfl) (by kernel_rfl) (by kernel_rfl) (by kernel_rfl) hw.tail
  exact ⟨env_list h, h1, h2, Tryd.laysM146.s1_3 W hsh⟩
set_option maxRecDepth 100000 in
/-- The builder of a row that lists variables, the world's shape handed on. -/
theorem shapedAnd {H : Type} {enc : TypeId × Value → H} {os : Os} {f : FuncId} {fn : Func} {s : ChangeSpec} {conds : List PathCond} {X : World → Array Value → Prop}
    (hX : ∀ (w w' : World) (args : Array Value), w.heap = w'.heap → X w args → X w' args) (started : os.Started) (noInit : Tryd.checked.prog.inits.idxOf? f = none) (hfn : Tryd.checked.prog.funcs[f]? = some fn)
    (witness : ∃ (w : World) (tape : Tape) (i : Input), w.os = os ∧ (w.forCall tape i).Shaped Tryd.checked.prog ∧ i.vars = [] ∧ Input.okWide Tryd.checked.prog (w.forCall tape i) .any w.heap.size f i ∧
      ((s.pre enc Tryd.checked.prog fn conds false (w.forCall tape i).memory i.args ∧ X (w.forCall tape i).memory i.args) ∧ sizedMet enc Tryd.checked.prog fn (OpenSpec.ofChange s) false (w.forCall tape i).memory i.args) ∧ ({} : Assume).holds Tryd.checked.prog (lone (Frame.enter Tryd.checked.prog f i.args .normal) [] (w.forCall tape i)))
    (contract : ∀ (W : World) (base : Nat) (args : Array Value) (ds gs : List (DataW H)) (before : List MemPlace),
      (∀ (j : Nat) t v, fn.params[j]? = some t → args[j]? = some v → Value.okWide Tryd.checked.prog W .any base t v) → DataW.Whole enc Tryd.checked.prog fn.params.toList s.vars false W args.toList ds gs before → X W args → W.ShapedOpen Tryd.checked.prog →
      Calls Tryd.checked.prog f args W fun e W' => ∃ v, e = .returned v ∧ s.post enc Tryd.checked.prog fn false true false false W args v W') :
    ReturnsInHanded {} Tryd.checked os f .any (fun w args => (s.pre enc Tryd.checked.prog fn conds false w args ∧ X w args) ∧ sizedMet enc Tryd.checked.prog fn (OpenSpec.ofChange s) false w args) (s.post enc Tryd.checked.prog fn false true false false) := by
  refine returnsInHanded_of_calls (C := Tryd.checked) Tryd.own started noInit witness fun w tape i _ hsh _ hok hpre _ => ?_
  obtain ⟨_, _, _, fn', hfn', _, _, _, _, hval⟩ := hok
  obtain rfl : fn' = fn := Option.some.inj (hfn'.symm.trans hfn)
  obtain ⟨⟨⟨ds, gs, before, hw, _⟩, hx⟩, _⟩ := hpre
  refine (contract _ w.heap.size i.args ds gs before hval (DataW.Whole.of_heap (w' := w.forCall tape i) (by rfl) hw) (hX (w.forCall tape i).memory (w.forCall tape i) _ (by rfl) hx) hsh).mono fun e W' h => ?_
  obtain ⟨v, rfl, hp⟩ := h
  exact ChangeSpec.post_blind hp
end Go.Proofs.YtjbaabffilejeaaDoor
