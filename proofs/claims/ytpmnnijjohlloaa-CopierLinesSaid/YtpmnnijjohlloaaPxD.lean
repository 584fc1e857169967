/- Slices of slices, an append in room, clear: rules. -/
import Derived.Test.YtpmnnijjohlloaaPx
namespace Go.Proofs.Ytpmnnijjohlloaa
open Go Go.RowKit
set_option linter.unusedVariables false
set_option linter.unusedSimpArgs false
section
variable {ρ : Option Nat} {P : Program} {ops : Array Oper} {Q : Exit → Act → World → Prop} {Qf : Act → Prop} {a : Act} {w w0 : World} {o : Oper} {rest : List Oper} {M : List Nat} {L : List Res}
/-- A row's value: nil, or a slice at the head of a block. -/
theorem rowForm {ty : TypeId} {sz n : Nat} {v : Value} {xs : List Value} (h : w.ownsRow 0 ty sz v n xs) : (v = .slice none 0 0 ∧ n = 0) ∨ ∃ g cap, v = .slice (some ⟨g, 0, none⟩) n cap ∧ n ≤ cap ∧ cap ≤ maxLen := by
  rcases h.2 with h' | ⟨g, cap, cur, hv, hb, hg, hnc, hcm, hcs, htake⟩
  · exact .inl h'
  · exact .inr ⟨g, cap, hv, hnc, hcm⟩
theorem Hs.rowForm (H : Hs M w0 w L) (i : Nat) {ty : TypeId} {sz n : Nat} {v : Value} {xs : List Value} (hi : L[i]? = some (.row v ty sz n xs)) : (v = .slice none 0 0 ∧ n = 0) ∨ ∃ g cap, v = .slice (some ⟨g, 0, none⟩) n cap ∧ n ≤ cap ∧ cap ≤ maxLen := Go.Proofs.Ytpmnnijjohlloaa.rowForm (H.ok i _ hi)
/-- A result that lies in one cell. -/
theorem x_rescell1 {fn : Func} (H : Hs M w0 w L) (i g off : Nat) (cs : Array Value) (ty : TypeId) (v : Value) (fin : Value → Value) (hi : L[i]? = some (.blk g cs ty)) (hv : cs[off]? = some v)
    (h : (results fn a.tmps).run P w = ((Go.load ⟨g, off, none⟩).bind fun c => .pure (fin c)).run P w) : (results fn a.tmps).run P w = .ok (fin v) w := by
  have hc : w.cell? ⟨g, off, none⟩ = some v := cellOf (H.blk i hi) hv
  rw [h]
  unfold Go.load
  simp only [Sem.bind, Sem.run, hc]
/-- A walk's activation under another spelling. -/
theorem x_at {c : Code} {b : Act} (e : a = b) (h : XC ρ P c Q b w) : XC ρ P c Q a w := e ▸ h
end
theorem x_ixO {ρ : Option Nat} {P : Program} {ops : Array Oper} {Q : Exit → Act → World → Prop} {a : Act} {w : World} {o : Oper} {rest : List Oper} {t : TypeId} {ad : Option Addr} {g off : Nat} (had : ad = some ⟨g, off, none⟩) (k n c : Nat) (el : TypeId) (sz m : Nat) (hk : k < n) (hm : off + k * sz = m) (h2 : (P.info? el).map (·.size) = some sz) (h1 : P.underlying t = some (.slice el)) (hw : Region.wanted o (yielded ops a.tmps) = true) (hd : opNd o = true)
    (h : (execOp a.eval o).run P w = ((Instr.indexAt t (.slice ad n c) (.int .i64 (k : Int))).bind fun v => .pure (.value v)).run P w)
    (kk : XL ρ P ops Q rest (a.put o.dst (.pointer (some ⟨g, m, none⟩))) w) : XL ρ P ops Q (o :: rest) a w := by
  subst had; exact x_ix g off k n c el sz m hk hm h2 h1 hw hd h kk
end Go.Proofs.Ytpmnnijjohlloaa
