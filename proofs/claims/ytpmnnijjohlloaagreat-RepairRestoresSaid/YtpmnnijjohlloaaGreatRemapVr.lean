/- What a map's state holds, and what is restored from it. Plain laws. -/
import Derived.Test.YtpmnnijjohlloaaGreatRemapK
import Derived.Test.YtpmnnijjohlloaaGreatRemapW
namespace Go.Proofs.YtpmnnijjohlloaaGreat
open Go Go.RowKit
set_option linter.unusedVariables false
/-- What lives elsewhere is dead, and lives where nothing is dead. -/
structure LivM (sn pg pu : Nat) (L : List Int) (D : List Bool) : Prop where
  top : ∀ k, k < sn → L.getD k 0 < (sn : Int) + pu
  nd : ∀ k, k < sn → D.getD (L.getD k 0).toNat false = false
  iff : ∀ k, k < sn → (D.getD k false = true ↔ ¬ L.getD k 0 = (k : Int))
section
variable {r s b o c y z : Int} {pg sn ns : Nat} {L : List Int} {D : List Bool} {S : List Int} {pu ru : Nat}
theorem LivM.new (sn pg : Nat) : LivM sn pg 0 (iota sn) (List.replicate pg false) :=
  ⟨fun k hk => by rw [iota_get _ _ _ hk]; omega, fun k hk => by rw [rep_get], fun k hk => by rw [rep_get, iota_get _ _ _ hk]; simp⟩
theorem LivM.step (hL : Lay r s b o c y z pg sn ns) (hV : MapV r s z sn pg ns L D S pu ru) (h : LivM sn pg pu L D) (q : Op3) : LivM sn pg (mvPu z pu q) (mvL sn pg pu D L q) (mvD sn pg pu D q) := by
  unfold mvPu mvL mvD
  by_cases h1 : q.1 = 1
  · rw [if_pos h1, if_neg (by omega), if_neg (by omega)]
    exact ⟨fun k hk => by have := h.top k hk; unfold tkN; split <;> omega, h.nd, h.iff⟩
  · rw [if_neg h1]
    by_cases h3 : q.1 = 3
    · rw [if_pos h3, if_pos h3]
      unfold reL reD
      by_cases e : reE sn pg pu D q.2.1 q.2.2 = 0
      · rw [if_pos e, if_pos e]
        unfold reE at e
        split at e
        · cases e
        rename_i hb
        split at e
        · cases e
        rename_i hc
        have b1 : 0 ≤ q.2.1 ∧ q.2.1 < (pg : Int) := by omega
        have b2 : (sn : Int) ≤ q.2.2 ∧ q.2.2 < (sn : Int) + pu := by omega
        have d1 : D.getD q.2.1.toNat false = false := by cases z : D.getD q.2.1.toNat false with | false => rfl | true => exact absurd (.inl z) hc
        have d2 : D.getD q.2.2.toNat false = false := by cases z : D.getD q.2.2.toNat false with | false => rfl | true => exact absurd (.inr (.inl z)) hc
        have d3 : q.2.1 ≠ q.2.2 := fun z => hc (.inr (.inr z))
        have hp := hV.m.hp
        have hsn := hL.hsn
        have gL : ∀ k, k < sn → (retL q.2.1 q.2.2 L).getD k 0 = if L.getD k 0 = q.2.1 then q.2.2 else L.getD k 0 := fun k hk => getD_retL _ _ _ _ (by rw [hV.m.hL]; exact hk)
        have gD : ∀ k, (D.set q.2.1.toNat true).getD k false = if q.2.1.toNat = k then true else D.getD k false := fun k => getD_setG _ _ _ _ _ (by rw [hV.m.hD]; omega)
        refine ⟨fun k hk => ?_, fun k hk => ?_, fun k hk => ?_⟩
        · rw [gL k hk]; have := h.top k hk; split <;> omega
        · rw [gL k hk, gD]
          have hv := hV.lv k hk
          split
          · rw [if_neg (by omega)]; exact d2
          · rename_i hne; rw [if_neg (by omega)]; exact h.nd k hk
        · rw [gL k hk, gD]
          have hi := h.iff k hk
          by_cases e1 : q.2.1.toNat = k
          · rw [if_pos e1]
            have dk : D.getD k false = false := by rw [← e1]; exact d1
            have lk : L.getD k 0 = (k : Int) := by
              by_cases z : L.getD k 0 = (k : Int)
              · exact z
              · rw [hi.2 z] at dk; cases dk
            rw [if_pos (by omega)]
            simp; omega
          · rw [if_neg e1]
            split
            · rename_i e2
              constructor
              · intro _; omega
              · intro _; exact hi.2 (by omega)
            · exact hi
      · rw [if_neg e, if_neg e]; exact h
    · rw [if_neg h3, if_neg h3]; exact h
/-- The dead ones, in order. -/
def deadL (D : List Bool) : Nat → List Int
  | 0 => []
  | k + 1 => deadL D k ++ (if D.getD k false = true then [((k : Nat) : Int)] else [])
theorem mem_deadL (D : List Bool) : ∀ (k : Nat) (x : Int), x ∈ deadL D k ↔ ∃ j : Nat, j < k ∧ D.getD j false = true ∧ x = (j : Int)
  | 0, x => by simp [deadL]
  | k + 1, x => by
    rw [deadL, List.mem_append, mem_deadL D k x]
    constructor
    · rintro (⟨j, h1, h2, h3⟩ | h)
      · exact ⟨j, by omega, h2, h3⟩
      · split at h
        · rename_i hd; simp at h; exact ⟨k, by omega, hd, h⟩
        · simp at h
    · rintro ⟨j, h1, h2, h3⟩
      by_cases e : j = k
      · subst e; right; rw [if_pos h2]; simp [h3]
      · left; exact ⟨j, by omega, h2, h3⟩
theorem getD_pre {α : Type} (l m : List α) (d : α) {i : Nat} (h : i < l.length) : (l ++ m).getD i d = l.getD i d := by simp only [List.getD, List.getElem?_append_left h]
theorem lastD_pre (l m : List Int) : ∀ {n : Nat}, n ≤ l.length → lastD (l ++ m) n = lastD l n
  | 0, _ => rfl
  | n + 1, h => by rw [lastD, lastD, getD_pre _ _ _ (by omega)]
theorem okD_pre (pg : Nat) (l m : List Int) : ∀ {n : Nat}, n ≤ l.length → okD pg (l ++ m) n = okD pg l n
  | 0, _ => rfl
  | n + 1, h => by rw [okD, okD, okD_pre pg l m (n := n) (by omega), lastD_pre _ _ (by omega), getD_pre _ _ _ (by omega)]
theorem lastD_lt {l : List Int} {x : Int} (h0 : -1 < x) (h : ∀ y ∈ l, y < x) : lastD l l.length < x := by
  cases hl : l.length with
  | zero => exact h0
  | succ n => rw [lastD]; exact h _ (getD_mem (by omega) 0)
theorem okD_deadL (D : List Bool) (pg : Nat) : ∀ k, k ≤ pg → okD pg (deadL D k) (deadL D k).length = true
  | 0, _ => rfl
  | k + 1, h => by
    have ih := okD_deadL D pg k (by omega)
    rw [deadL]
    split
    · rw [List.length_append, List.length_cons, List.length_nil, okD, okD_pre _ _ _ (Nat.le_refl _), ih, lastD_pre _ _ (Nat.le_refl _)]
      have e : (deadL D k ++ [((k : Nat) : Int)]).getD (deadL D k).length 0 = (k : Int) := by simp [List.getD]
      rw [e]
      have := lastD_lt (l := deadL D k) (x := (k : Int)) (by omega) (fun y hy => by obtain ⟨j, h1, -, h3⟩ := (mem_deadL D k y).1 hy; omega)
      simp; omega
    · rw [List.append_nil]; exact ih
theorem hasK_mem {l : List Int} {x : Int} : hasK l l.length x = true ↔ x ∈ l := by
  constructor
  · intro h; obtain ⟨k, hk, e⟩ := hasK_ex h; rw [e]; exact getD_mem hk 0
  · intro h
    obtain ⟨k, hk, e⟩ := List.getElem_of_mem h
    exact hasK_of hk (by simp [List.getD, hk, e])
theorem ext_getD {α : Type} (d : α) {l m : List α} (hl : l.length = m.length) (h : ∀ i, i < l.length → l.getD i d = m.getD i d) : l = m :=
  List.ext_getElem hl fun i h1 h2 => by have := h i h1; simpa [List.getD, h1, h2] using this
theorem marks_dead {D : List Bool} (hD : D.length = pg) : marks pg (deadL D pg) (deadL D pg).length = D := by
  refine ext_getD false (by rw [marks_len, hD]) fun i hi => ?_
  rw [marks_len] at hi
  rw [marks_get (okD_deadL D pg pg (Nat.le_refl _)) hi]
  cases h : D.getD i false with
  | true => exact hasK_mem.2 ((mem_deadL _ _ _).2 ⟨i, hi, h, rfl⟩)
  | false =>
    rw [Bool.eq_false_iff]; intro hb
    obtain ⟨j, h1, h2, h3⟩ := (mem_deadL _ _ _).1 (hasK_mem.1 hb)
    have : j = i := by omega
    subst this; rw [h] at h2; cases h2
theorem deadL_len (D : List Bool) : ∀ k, (deadL D k).length ≤ k
  | 0 => Nat.le_refl _
  | k + 1 => by rw [deadL, List.length_append]; have := deadL_len D k; split <;> simp <;> omega
theorem okS_of (hV : MapV r s z sn pg ns L D S pu ru) (h : LivM sn pg pu L D) : ∀ k, k ≤ sn → okS (((sn : Nat) : Int) + ((pu : Nat) : Int)) D L k = true
  | 0, _ => rfl
  | k + 1, hk => by
    rw [okS, okS_of hV h k (by omega), h.nd k (by omega)]
    have h1 := hV.lv k (by omega)
    have h2 := h.top k (by omega)
    have h3 := h.iff k (by omega)
    rw [decide_eq_true h1.1, decide_eq_true h2]
    by_cases e : L.getD k 0 = (k : Int)
    · have dk : D.getD k false = false := by cases z : D.getD k false with | false => rfl | true => exact absurd e (h3.1 z)
      rw [dk, decide_eq_true e]; rfl
    · rw [h3.2 e, decide_eq_false e]; rfl
theorem setsL_id {L : List Int} (hl : L.length = sn) : setsL L (iota sn) sn = L := by
  refine ext_getD 0 (by rw [setsL_len, iota_len, hl]) fun i hi => ?_
  rw [setsL_len, iota_len] at hi
  rw [setsL_get _ _ _ _ hi (by rw [iota_len]; omega)]
/-- The spares, as a state has them. -/
def spL (S : List Int) : List Int := S.map fun x => max x 0
theorem spL_get {S : List Int} {k : Nat} (h : k < S.length) : (spL S).getD k 0 = max (S.getD k 0) 0 := by simp [spL, List.getD, h]
theorem okT_of (hr1 : 1 ≤ r) (hV : MapV r s z sn pg ns L D S pu ru) : ∀ k, k ≤ ns → okT r ((ru : Nat) : Int) (spL S) k = true
  | 0, _ => rfl
  | k + 1, hk => by
    rw [okT, okT_of hr1 hV k (by omega), spL_get (by rw [hV.m.hS]; omega)]
    rcases hV.sv k (by omega) with e | e
    · rw [e]; rfl
    · rw [show max (S.getD k 0) 0 = S.getD k 0 by omega, decide_eq_true e.1, decide_eq_true e.2]; simp
theorem standL_id (hr1 : 1 ≤ r) (hV : MapV r s z sn pg ns L D S pu ru) : standL (spL S) (List.replicate ns (-1)) ns = S := by
  refine ext_getD 0 (by rw [standL_len, List.length_replicate, hV.m.hS]) fun i hi => ?_
  rw [standL_len, List.length_replicate] at hi
  rw [standL_get _ _ _ _ (by rw [List.length_replicate]; omega), spL_get (by rw [hV.m.hS]; omega)]
  have hr := hV.m.hr
  rcases hV.sv i hi with e | e
  · rw [e, if_neg (fun h => h.2 (by decide))]; simp [List.getD, hi]
  · rw [if_pos ⟨hi, by omega⟩]; omega
end
/-- A row of ints, as a slice that is handed in. -/
theorem intsRow {w : World} {ty : TypeId} {n : Nat} {v : Value} {l : List Int} (h : w.ownsRow 0 ty 1 v n (l.map (Value.int .i64))) : ∃ ad c, v = .slice ad n c ∧ IntsAt w ad n l := by
  have hl : l.length = n := by have := h.1; simpa using this
  rcases h.2 with ⟨rfl, rfl⟩ | ⟨g, cap, cur, rfl, -⟩
  · exact ⟨none, 0, rfl, fun hn => absurd hn (Nat.lt_irrefl _)⟩
  · refine ⟨_, cap, rfl, fun hn => ⟨g, 0, rfl, fun w' hw i hi => ?_⟩⟩
    have c := World.ownsRow.cells h (g := g) rfl i (.int .i64 (l.getD i 0)) (by simp [List.getD, show i < l.length by omega])
    rw [add_none] at c
    exact cellKeep c hw
end Go.Proofs.YtpmnnijjohlloaaGreat
