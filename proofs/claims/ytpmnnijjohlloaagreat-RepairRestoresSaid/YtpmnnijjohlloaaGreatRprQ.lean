/- What a repair does, told by plain functions. -/
import Derived.Test.YtpmnnijjohlloaaGreatRprP
import Derived.Test.YtpmnnijjohlloaaGreatRemapVr
import Derived.Test.YtpmnnijjohlloaaGreatRat3
namespace Go.Proofs.YtpmnnijjohlloaaGreat
open Go Go.RowKit
set_option linter.unusedVariables false
theorem int3Len (x : Int3) : (int3L x).length = 3 := rfl
theorem int3One (x : Int3) : ∀ v ∈ int3L x, v.oneCell' = true := fun v hv => by
  simp only [int3L, List.mem_cons, List.not_mem_nil, or_false] at hv
  rcases hv with rfl | rfl | rfl <;> rfl
/-- What a repair has: a map's parts, a job, what waits. -/
structure Rp where
  L : List Int
  D : List Bool
  S : List Int
  pu : Nat
  ru : Nat
  j : Int × Int × Int × Int
  Q : List Ent
def onE (Q : List Ent) (aq : Ent) : Int := if aq ∈ Q then 15 else if Q.length < 256 then 0 else 14
def onQ (Q : List Ent) (aq : Ent) : List Ent := if aq ∈ Q then Q else if Q.length < 256 then Q ++ [aq] else Q
/-- Nothing is to be done. -/
def voidB (sn ns pu : Nat) (D : List Bool) (S : List Int) (j : Int × Int × Int × Int) (a : Ent) : Bool :=
  if a.1 = 1 then (decide (¬ (0 ≤ a.2 ∧ a.2 < (sn : Int) + pu)) || D.getD a.2.toNat false) || (decide (j.1 = 1) && decide (j.2.1 = a.2))
  else if a.1 = 2 then (decide (¬ (0 ≤ a.2 ∧ a.2 < (ns : Int))) || !(decide (S.getD a.2.toNat 0 = -1))) || (decide (j.1 = 2) && decide (j.2.1 = a.2))
  else true
section
variable (r s z : Int) (sn pg ns : Nat)
def Rp.start (x : Rp) (a : Ent) : Rp :=
  if a.1 = 1 then (if (x.pu : Int) = z then x else { x with pu := x.pu + 1, j := (1, a.2, (sn : Int) + x.pu, 0) })
  else (if (x.ru : Int) = s then x else { x with ru := x.ru + 1, j := (2, a.2, r + x.ru, 0) })
def Rp.startV (x : Rp) (a : Ent) : Int3 :=
  if a.1 = 1 then (if (x.pu : Int) = z then (5, a.2, 0) else (3, a.2, (sn : Int) + x.pu))
  else (if (x.ru : Int) = s then (5, a.2, 1) else (4, a.2, r + x.ru))
def Rp.void (x : Rp) (a : Ent) : Bool := voidB sn ns x.pu x.D x.S x.j a
def Rp.ask (x : Rp) (a : Ent) : Rp := if x.void sn ns a = true then x else if x.j.1 = 0 then x.start r s z sn a else { x with Q := onQ x.Q a }
def Rp.askV (x : Rp) (a : Ent) : List Int3 := if x.void sn ns a = true then [] else if x.j.1 = 0 then [x.startV r s z sn a] else if onE x.Q a = 14 then [(5, a.2, a.1 - 1)] else []
/-- What waits is begun, till something is. -/
def Rp.drain : Rp → List Ent → Rp × List Int3
  | x, [] => ({ x with Q := [] }, [])
  | x, a :: q => if x.j.1 = 0 then (if x.void sn ns a = true then Rp.drain x q else ((Rp.drain (x.start r s z sn a) q).1, x.startV r s z sn a :: (Rp.drain (x.start r s z sn a) q).2)) else ({ x with Q := a :: q }, [])
def Rp.cnt (b o c : Int) (j : Int × Int × Int × Int) : Int := if j.1 = 1 then c else if j.1 = 2 then b * o * c else 0
/-- A job's end: what it moved to stands there. -/
def Rp.done (x : Rp) : Rp :=
  if x.j.1 = 1 then { x with L := reL sn pg x.pu x.D x.j.2.1 x.j.2.2.1 x.L, D := reD sn pg x.pu x.D x.j.2.1 x.j.2.2.1, j := (0, 0, 0, 0) }
  else { x with S := rpS r ns x.ru x.S x.j.2.1 x.j.2.2.1, j := (0, 0, 0, 0) }
def Rp.fin (x : Rp) : Rp × List Int3 := ((Rp.drain r s z sn ns (x.done r sn pg ns) x.Q).1, (6, x.j.2.1, x.j.2.2.1) :: (Rp.drain r s z sn ns (x.done r sn pg ns) x.Q).2)
def Rp.next (x : Rp) : Rp := { x with j := (x.j.1, x.j.2.1, x.j.2.2.1, x.j.2.2.2 + 1) }
def Rp.step (b o c : Int) (x : Rp) : Rp × List Int3 :=
  if x.j.1 = 0 then (x, []) else if x.j.2.2.2 + 1 = Rp.cnt b o c x.j then (x.next).fin r s z sn pg ns else (x.next, [])
end
/-- A job that goes on. -/
def JobOk (r b o c : Int) (sn ns : Nat) (x : Rp) : Prop :=
  x.j = (0, 0, 0, 0) ∨
  (x.j.1 = 1 ∧ (0 ≤ x.j.2.1 ∧ x.j.2.1 < (sn : Int) + x.pu) ∧ x.D.getD x.j.2.1.toNat false = false ∧ ((sn : Int) ≤ x.j.2.2.1 ∧ x.j.2.2.1 < (sn : Int) + x.pu) ∧ x.D.getD x.j.2.2.1.toNat false = false ∧ x.j.2.1 ≠ x.j.2.2.1 ∧ (∀ k, k < sn → x.L.getD k 0 ≠ x.j.2.2.1) ∧ 0 ≤ x.j.2.2.2 ∧ x.j.2.2.2 < c) ∨
  (x.j.1 = 2 ∧ (0 ≤ x.j.2.1 ∧ x.j.2.1 < (ns : Int)) ∧ x.S.getD x.j.2.1.toNat 0 = -1 ∧ (r ≤ x.j.2.2.1 ∧ x.j.2.2.1 < r + x.ru) ∧ (∀ q, q < ns → x.S.getD q 0 ≠ x.j.2.2.1) ∧ 0 ≤ x.j.2.2.2 ∧ x.j.2.2.2 < b * o * c)
/-- What holds of a repair. -/
structure RpOk (r s b o c z : Int) (sn pg ns : Nat) (x : Rp) : Prop where
  v : MapV r s z sn pg ns x.L x.D x.S x.pu x.ru
  liv : LivM sn pg x.pu x.L x.D
  tops : ∀ k, sn + x.pu ≤ k → k < pg → x.D.getD k false = false
  jb : JobOk r b o c sn ns x
  qk : ∀ a ∈ x.Q, a.1 = 1 ∨ a.1 = 2
  ql : x.Q.length ≤ 256
section
variable {r s b o c y z : Int} {sn pg ns : Nat} {x : Rp}
theorem void_kind {sn ns pu : Nat} {D : List Bool} {S : List Int} {j : Int × Int × Int × Int} {a : Ent} (h : voidB sn ns pu D S j a = false) : a.1 = 1 ∨ a.1 = 2 := by
  unfold voidB at h
  split at h
  · exact .inl ‹_›
  · split at h
    · exact .inr ‹_›
    · cases h
theorem void_page {sn ns pu : Nat} {D : List Bool} {S : List Int} {j : Int × Int × Int × Int} {a : Ent} (h : voidB sn ns pu D S j a = false) (h1 : a.1 = 1) : (0 ≤ a.2 ∧ a.2 < (sn : Int) + pu) ∧ D.getD a.2.toNat false = false := by
  unfold voidB at h
  rw [if_pos h1] at h
  simp only [Bool.or_eq_false_iff, decide_eq_false_iff_not, Decidable.not_not] at h
  exact h.1
theorem void_rank {sn ns pu : Nat} {D : List Bool} {S : List Int} {j : Int × Int × Int × Int} {a : Ent} (h : voidB sn ns pu D S j a = false) (h1 : a.1 = 2) : (0 ≤ a.2 ∧ a.2 < (ns : Int)) ∧ S.getD a.2.toNat 0 = -1 := by
  unfold voidB at h
  rw [if_neg (by omega), if_pos h1] at h
  simp only [Bool.or_eq_false_iff, decide_eq_false_iff_not, Decidable.not_not, Bool.not_eq_false', decide_eq_true_eq] at h
  exact h.1
theorem RpOk.new (hL : Lay r s b o c y z pg sn ns) : RpOk r s b o c z sn pg ns ⟨iota sn, List.replicate pg false, List.replicate ns (-1), 0, 0, (0, 0, 0, 0), []⟩ := by
  have hz := hL.z0
  have hs := hL.s0
  refine ⟨⟨⟨iota_len sn, List.length_replicate, List.length_replicate, by omega, by omega⟩, fun k hk => ?_, fun q hq => .inl ?_⟩, LivM.new sn pg, fun k _ hk => rep_get _ _ _, .inl rfl, fun a ha => by simp at ha, Nat.zero_le _⟩
  · have hsn := hL.hsn; rw [iota_get _ _ _ hk]; omega
  · simp [List.getD, hq]
theorem RpOk.start (hL : Lay r s b o c y z pg sn ns) (h : RpOk r s b o c z sn pg ns x) (hj : x.j.1 = 0) {a : Ent} (hv : x.void sn ns a = false) : RpOk r s b o c z sn pg ns (x.start r s z sn a) := by
  have hk := void_kind hv
  have hm := h.v.m
  have hpu := hm.hp
  have hru := hm.hr
  have hsn := hL.hsn
  have hc := hL.c1
  have hb := hL.b1
  have ho := hL.o1
  unfold Rp.start
  by_cases h1 : a.1 = 1
  · rw [if_pos h1]
    obtain ⟨p1, p2⟩ := void_page hv h1
    by_cases h2 : (x.pu : Int) = z
    · rw [if_pos h2]; exact h
    · rw [if_neg h2]
      have nt : x.D.getD (sn + x.pu) false = false := h.tops _ (by omega) (by omega)
      refine ⟨⟨⟨hm.hL, hm.hD, hm.hS, by show ((x.pu + 1 : Nat) : Int) ≤ z; omega, hm.hr⟩, h.v.lv, h.v.sv⟩, ⟨fun k hk2 => by have := h.liv.top k hk2; show x.L.getD k 0 < (sn : Int) + ((x.pu + 1 : Nat) : Int); omega, h.liv.nd, h.liv.iff⟩, fun k q1 q2 => h.tops k (by have : sn + (x.pu + 1) ≤ k := q1; omega) q2, .inr (.inl ⟨rfl, ?_, p2, ?_, ?_, ?_, fun k hk2 => ?_, Int.le_refl _, by show (0 : Int) < c; omega⟩), h.qk, h.ql⟩
      · show 0 ≤ a.2 ∧ a.2 < (sn : Int) + ((x.pu + 1 : Nat) : Int); omega
      · show (sn : Int) ≤ (sn : Int) + x.pu ∧ (sn : Int) + x.pu < (sn : Int) + ((x.pu + 1 : Nat) : Int); omega
      · show x.D.getD ((sn : Int) + x.pu).toNat false = false
        rw [show ((sn : Int) + x.pu).toNat = sn + x.pu by omega]; exact nt
      · show a.2 ≠ (sn : Int) + x.pu; omega
      · have := h.liv.top k hk2; show x.L.getD k 0 ≠ (sn : Int) + x.pu; omega
  · rw [if_neg h1]
    have h1' : a.1 = 2 := by omega
    obtain ⟨p1, p2⟩ := void_rank hv h1'
    by_cases h2 : (x.ru : Int) = s
    · rw [if_pos h2]; exact h
    · rw [if_neg h2]
      have hbo : 0 < b * o * c := Int.mul_pos (Int.mul_pos (by omega) (by omega)) (by omega)
      refine ⟨⟨⟨hm.hL, hm.hD, hm.hS, hm.hp, by show ((x.ru + 1 : Nat) : Int) ≤ s; omega⟩, h.v.lv, fun q hq => ?_⟩, h.liv, h.tops, .inr (.inr ⟨rfl, p1, p2, ?_, fun q hq => ?_, Int.le_refl _, hbo⟩), h.qk, h.ql⟩
      · rcases h.v.sv q hq with e | e
        · exact .inl e
        · exact .inr ⟨e.1, by show x.S.getD q 0 < r + ((x.ru + 1 : Nat) : Int); omega⟩
      · show r ≤ r + (x.ru : Int) ∧ r + (x.ru : Int) < r + ((x.ru + 1 : Nat) : Int); omega
      · show x.S.getD q 0 ≠ r + (x.ru : Int)
        have hr1 := hL.r1
        rcases h.v.sv q hq with e | e <;> omega
theorem onQ_sub {Q : List Ent} {a e : Ent} (h : e ∈ onQ Q a) : e ∈ Q ∨ e = a := by
  unfold onQ at h
  split at h
  · exact .inl h
  · split at h
    · simpa using h
    · exact .inl h
theorem onQ_len {Q : List Ent} {a : Ent} (h : Q.length ≤ 256) : (onQ Q a).length ≤ 256 := by
  unfold onQ
  split
  · exact h
  · split
    · simp; omega
    · exact h
theorem RpOk.ask (hL : Lay r s b o c y z pg sn ns) (h : RpOk r s b o c z sn pg ns x) (a : Ent) : RpOk r s b o c z sn pg ns (x.ask r s z sn ns a) := by
  unfold Rp.ask
  split
  · exact h
  · rename_i hv
    rw [Bool.not_eq_true] at hv
    split
    · rename_i hj; exact h.start hL hj hv
    · exact ⟨h.v, h.liv, h.tops, h.jb, fun e he => by rcases onQ_sub he with q | q; exact h.qk e q; rw [q]; exact void_kind hv, onQ_len h.ql⟩
theorem RpOk.drain (hL : Lay r s b o c y z pg sn ns) : ∀ (Q : List Ent) (x : Rp), RpOk r s b o c z sn pg ns x → Q.length ≤ 256 → (∀ a ∈ Q, a.1 = 1 ∨ a.1 = 2) → RpOk r s b o c z sn pg ns (Rp.drain r s z sn ns x Q).1
  | [], x, h, _, _ => ⟨h.v, h.liv, h.tops, h.jb, fun a ha => by simp [Rp.drain] at ha, Nat.zero_le _⟩
  | a :: q, x, h, hl, hq => by
    rw [Rp.drain]
    split
    · rename_i hj
      split
      · exact RpOk.drain hL q x h (by simp at hl; omega) (fun e he => hq e (List.mem_cons_of_mem _ he))
      · rename_i hv
        rw [Bool.not_eq_true] at hv
        exact RpOk.drain hL q _ (h.start hL hj hv) (by simp at hl; omega) (fun e he => hq e (List.mem_cons_of_mem _ he))
    · exact ⟨h.v, h.liv, h.tops, h.jb, hq, hl⟩
theorem RpOk.done (hL : Lay r s b o c y z pg sn ns) (h : RpOk r s b o c z sn pg ns x) : RpOk r s b o c z sn pg ns (x.done r sn pg ns) := by
  unfold Rp.done
  have hsn := hL.hsn
  have hpu := h.v.m.hp
  by_cases h1 : x.j.1 = 1
  · rw [if_pos h1]
    have q3 := h.v.retire hL x.j.2.1 x.j.2.2.1
    have q4 := LivM.step hL h.v h.liv (3, x.j.2.1, x.j.2.2.1)
    refine ⟨q3, ⟨q4.top, q4.nd, q4.iff⟩, fun k k1 k2 => ?_, .inl rfl, h.qk, h.ql⟩
    show (reD sn pg x.pu x.D x.j.2.1 x.j.2.2.1).getD k false = false
    have k1' : sn + x.pu ≤ k := k1
    unfold reD
    split
    · rw [getD_setG _ _ _ _ _ (by rw [h.v.m.hD]; rename_i e; unfold reE at e; split at e; cases e; omega)]
      rcases h.jb with e | e | e
      · rw [e] at h1; simp at h1
      · rw [if_neg (by omega)]; exact h.tops k k1' k2
      · omega
    · exact h.tops k k1' k2
  · rw [if_neg h1]
    exact ⟨h.v.replace _ _, h.liv, h.tops, .inl rfl, h.qk, h.ql⟩
theorem RpOk.step (hL : Lay r s b o c y z pg sn ns) (h : RpOk r s b o c z sn pg ns x) : RpOk r s b o c z sn pg ns (x.step r s z sn pg ns b o c).1 := by
  unfold Rp.step
  by_cases h0 : x.j.1 = 0
  · rw [if_pos h0]; exact h
  rw [if_neg h0]
  by_cases h1 : x.j.2.2.2 + 1 = Rp.cnt b o c x.j
  · rw [if_pos h1]
    have e : x.next.done r sn pg ns = x.done r sn pg ns := rfl
    exact RpOk.drain hL _ _ (by rw [e]; exact h.done hL) h.ql h.qk
  · rw [if_neg h1]
    refine ⟨h.v, h.liv, h.tops, ?_, h.qk, h.ql⟩
    unfold Rp.cnt at h1
    rcases h.jb with e | e | e
    · rw [e] at h0; exact absurd rfl h0
    · rw [if_pos e.1] at h1
      exact .inr (.inl ⟨e.1, e.2.1, e.2.2.1, e.2.2.2.1, e.2.2.2.2.1, e.2.2.2.2.2.1, e.2.2.2.2.2.2.1, by show 0 ≤ x.j.2.2.2 + 1; omega, by show x.j.2.2.2 + 1 < c; omega⟩)
    · rw [if_neg (by omega), if_pos e.1] at h1
      exact .inr (.inr ⟨e.1, e.2.1, e.2.2.1, e.2.2.2.1, e.2.2.2.2.1, by show 0 ≤ x.j.2.2.2 + 1; omega, by show x.j.2.2.2 + 1 < b * o * c; omega⟩)
end
end Go.Proofs.YtpmnnijjohlloaaGreat
