/- What a step of a tracker leaves: plain. -/
import Derived.Test.YtgpalgbdacoagaaTrkL
import Derived.Test.YtgpalgbdacoagaaRat
namespace Go.Proofs.Ytgpalgbdacoagaa
open Go Go.RowKit
set_option linter.unusedVariables false
/-- What a step leaves. -/
def stR (ranks : Nat) (rE : Int) (rs : List Buk) (o : Int4) : List Buk := if o.1 = 1 then nRs ranks rs o.2.1 o.2.2.2 else if o.1 = 2 then rs.map (btick rE) else if o.1 = 3 then rset ranks rs o.2.1 else rs
def stX (ranks room : Nat) (pE : Int) (xs : List PairB) (o : Int4) : List PairB := if o.1 = 1 then nXs ranks room xs o.2.1 o.2.2.1 o.2.2.2 else if o.1 = 2 then xs.map (tickX pE) else if o.1 = 4 then dropB xs o.2.2.1 else xs
theorem TOk.step {ranks room : Nat} {rL rE pL pE : Int} {rs : List Buk} {xs : List PairB} (hk : TOk ranks room rE pE rs xs) (hP : TP ranks room rL rE pL pE) (o : Int4) : TOk ranks room rE pE (stR ranks rE rs o) (stX ranks room pE xs o) := by
  unfold stR stX
  split
  · exact hk.note hP _ _ _
  split
  · exact hk.tick hP
  split
  · rw [if_neg (by omega)]; exact hk.reset hP _
  split
  · exact hk.drop _
  · exact hk
theorem UnlB.step {xs : List PairB} (h : UnlB xs) (ranks room : Nat) (pE : Int) (o : Int4) : UnlB (stX ranks room pE xs o) := by
  unfold stX
  split
  · exact h.note _ _ _ _ _
  split
  · exact h.map _
  split
  · exact h.drop _
  · exact h
/-- What a play leaves. -/
def playT (ranks room : Nat) (rE pE : Int) (l : List Int4) (s : List Buk × List PairB) : Nat → List Buk × List PairB
  | 0 => s
  | k + 1 => (stR ranks rE (playT ranks room rE pE l s k).1 (l.getD k (0, 0, 0, 0)), stX ranks room pE (playT ranks room rE pE l s k).2 (l.getD k (0, 0, 0, 0)))
theorem TOk.play {ranks room : Nat} {rL rE pL pE : Int} {rs : List Buk} {xs : List PairB} (hk : TOk ranks room rE pE rs xs) (hP : TP ranks room rL rE pL pE) (l : List Int4) : ∀ k, TOk ranks room rE pE (playT ranks room rE pE l (rs, xs) k).1 (playT ranks room rE pE l (rs, xs) k).2
  | 0 => hk
  | k + 1 => (TOk.play hk hP l k).step hP _
theorem UnlB.play {ranks room : Nat} {rE pE : Int} {rs : List Buk} {xs : List PairB} (h : UnlB xs) (l : List Int4) : ∀ k, UnlB (playT ranks room rE pE l (rs, xs) k).2
  | 0 => h
  | k + 1 => (UnlB.play h l k).step _ _ _ _
end Go.Proofs.Ytgpalgbdacoagaa
