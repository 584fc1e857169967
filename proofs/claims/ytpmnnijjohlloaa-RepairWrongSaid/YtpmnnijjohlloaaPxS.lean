/- A region of which three operations may come up. -/
import Derived.Test.YtpmnnijjohlloaaPxZ
namespace Go.Proofs.Ytpmnnijjohlloaa
open Go Go.RowKit
set_option linter.unusedVariables false
theorem s_three {ρ : Option Nat} {P : Program} {ops : Array Oper} {Q : Exit → Act → World → Prop} {a : Act} {K C : World → Prop} {listed : Array Bool} {f : Nat} (i i' i'' : Nat) {o o' o'' : Oper} (hi : ops[i]? = some o) (hi' : ops[i']? = some o') (hi'' : ops[i'']? = some o'') (hr : Region.ready .any ops listed = [i, i', i'']) (hd : opNd o = true) (hd' : opNd o' = true) (hd'' : opNd o'' = true)
    (h : ∀ w, C w → XL ρ P ops (Exit.then (fun a' w' => ∃ K' C' : World → Prop, C' w' ∧ Shut C' ∧ (∀ w, C' w → K' w) ∧ (∀ w, K' w → K w) ∧ XS ρ P ops Q f (listed.setIfInBounds i true) a' K' C') noQ) [o] a w)
    (h' : ∀ w, C w → XL ρ P ops (Exit.then (fun a' w' => ∃ K' C' : World → Prop, C' w' ∧ Shut C' ∧ (∀ w, C' w → K' w) ∧ (∀ w, K' w → K w) ∧ XS ρ P ops Q f (listed.setIfInBounds i' true) a' K' C') noQ) [o'] a w)
    (h'' : ∀ w, C w → XL ρ P ops (Exit.then (fun a' w' => ∃ K' C' : World → Prop, C' w' ∧ Shut C' ∧ (∀ w, C' w → K' w) ∧ (∀ w, K' w → K w) ∧ XS ρ P ops Q f (listed.setIfInBounds i'' true) a' K' C') noQ) [o''] a w) : XS ρ P ops Q (f + 1) listed a K C := by
  refine ⟨⟨by rw [hr]; simp, fun j hj oj hoj => .inr fun w hw => ?_⟩⟩
  rcases (by rw [hr] at hj; simpa using hj : j = i ∨ j = i' ∨ j = i'') with rfl | rfl | rfl
  · obtain rfl : oj = o := Option.some.inj (hoj.symm.trans hi)
    exact opS_mono (fun a' w' ⟨K', C', h1, h2, h3, h4, h5⟩ => ⟨K', C', h1, h2, h3, h4, h5.out⟩) (opS_of_XL hd (h w hw))
  · obtain rfl : oj = o' := Option.some.inj (hoj.symm.trans hi')
    exact opS_mono (fun a' w' ⟨K', C', h1, h2, h3, h4, h5⟩ => ⟨K', C', h1, h2, h3, h4, h5.out⟩) (opS_of_XL hd' (h' w hw))
  · obtain rfl : oj = o'' := Option.some.inj (hoj.symm.trans hi'')
    exact opS_mono (fun a' w' ⟨K', C', h1, h2, h3, h4, h5⟩ => ⟨K', C', h1, h2, h3, h4, h5.out⟩) (opS_of_XL hd'' (h'' w hw))
end Go.Proofs.Ytpmnnijjohlloaa
