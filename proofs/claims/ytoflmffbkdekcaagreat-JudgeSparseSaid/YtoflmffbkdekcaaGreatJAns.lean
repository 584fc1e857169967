import Derived.Test.YtoflmffbkdekcaaGreatFJN
import Derived.Test.YtoflmffbkdekcaaGreatFJR
namespace Go.Proofs.YtoflmffbkdekcaaGreat
open Go Go.RowKit
set_option linter.unusedVariables false
set_option linter.unusedSimpArgs false
theorem boolEq {a b:Bool} (h:a=true ↔ b=true):(a == b)=true:=by
  cases a <;> cases b <;> simp at h ⊢
theorem ff_iff {p:Nat→Bool} {n:Nat}:(bif decide (((ff p n:Nat):Int) < ((n:Nat):Int)) then false else true)=true ↔ ∀ i,i < n→p i=false :=
  ⟨fun h i hi=>ff_end h hi,ff_say⟩
theorem all_iff {p q:Nat→Bool} (h0:q 0=true) {n:Nat} (h:∀ i,i < n→(q (i + 1)=true ↔ q i=true∧p i=false)):q n=true ↔ ∀ i,i < n→p i=false:=by
  induction n with
  | zero=>exact ⟨fun _ i hi=>by omega,fun _=>h0⟩
  | succ n ih =>
    rw [h n (by omega),ih fun i hi=>h i (by omega)]
    constructor
    · rintro ⟨h1,h2⟩ i hi
      rcases Nat.lt_or_ge i n with h3 | h3
      · exact h1 i h3
      · rw [show i=n by omega]; exact h2
    · exact fun h1=>⟨fun i hi=>h1 i (by omega),h1 n (by omega)⟩
end Go.Proofs.YtoflmffbkdekcaaGreat
