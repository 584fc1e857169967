import Derived.Test.YtghfannbcopjmaaGreatFGf
import Derived.Test.YtghfannbcopjmaaGreatFxX
namespace Go.Proofs.YtghfannbcopjmaaGreat
open Go Go.RowKit
set_option linter.unusedVariables false
set_option linter.unusedSimpArgs false
set_option maxRecDepth 100000
def dn (x : Int) : Nat → Int
 | 0 => x
 | i + 1 => dn x i - 1
theorem dn_eq (x : Int) : ∀ i, dn x i = x - i
 | 0 => by simp [dn]
 | i + 1 => by rw [dn, dn_eq x i]; omega
theorem degree_sp_0 (l : List Nat) (hl : l.length ≤ 65536) (q1 : (decide (0 ≤ dn (((l.length : Nat) : Int) - 1) (l.length - dl l))) = true) : Sp P 256 [.sl 0] [.ro (.row eB l)] (vi (dn (((l.length : Nat) : Int) - 1) (l.length - dl l))) [.ro (.row eB l)] :=
 Sp.of (fn := Tryz.f256) rfl rfl 3 [.id 0] (.e 6 (aSub (a := ((l.length : Nat) : Int)) (b := 1) (c := ((l.length : Nat) : Int) - 1) (by omega)) (.lp (l.length - dl l) 2 [] [] (fun i => [(3, vi (dn (((l.length : Nat) : Int) - 1) i))]) (fun i => []) (fun i hi => (.t (show (decide (0 ≤ dn (((l.length : Nat) : Int) - 1) i)) = true from decide_eq_true (by rw [dn_eq]; omega)) (.t (show (decide (0 ≤ dn (((l.length : Nat) : Int) - 1) i)) = true from decide_eq_true (by rw [dn_eq]; omega)) (.t (show (decide (0 ≤ dn (((l.length : Nat) : Int) - 1) i)) = true from decide_eq_true (by rw [dn_eq]; omega)) (.ix (n := dn (((l.length : Nat) : Int) - 1) i) (i := (l.length - 1 - i)) (m := l.length) (e := (by rw [dn_eq]; omega)) (by omega) (.t (show (decide (0 ≤ dn (((l.length : Nat) : Int) - 1) i)) = true from decide_eq_true (by rw [dn_eq]; omega)) (.el (e := eB) (gD (l := l) (i := (l.length - 1 - i)) (by omega)) (.t (show (decide (0 ≤ dn (((l.length : Nat) : Int) - 1) i)) = true from decide_eq_true (by rw [dn_eq]; omega)) (.t (show (decide (0 ≤ dn (((l.length : Nat) : Int) - 1) i)) = true from decide_eq_true (by rw [dn_eq]; omega)) (.t (show (decide (((l.getD (l.length - 1 - i) 0 : Nat) : Int) = 0)) = true from decide_eq_true (by rw [dl_zero (by omega) (by omega)]; rfl)) (.e 17 (aSub (a := dn (((l.length : Nat) : Int) - 1) i) (b := 1) (c := (dn (((l.length : Nat) : Int) - 1) i) - 1) (by rw [dn_eq]; omega)) .nil))))))))))) (.t q1 (.t q1 (.t q1 (.ix (n := dn (((l.length : Nat) : Int) - 1) (l.length - dl l)) (i := (dl l - 1)) (m := l.length) (e := (by have h := of_decide_eq_true q1; rw [dn_eq] at h ⊢; have := dl_le l; omega)) (by have h := of_decide_eq_true q1; rw [dn_eq] at h; have := dl_le l; omega) (.t q1 (.el (e := eB) (gD (l := l) (i := (dl l - 1)) (by have h := of_decide_eq_true q1; rw [dn_eq] at h; have := dl_le l; omega)) (.t q1 (.t q1 (.t (show (decide (((l.getD (dl l - 1) 0 : Nat) : Int) = 0)) = false from decide_eq_false (by have h := of_decide_eq_true q1; rw [dn_eq] at h; have := dl_le l; have := dl_last (l := l) (by omega); omega)) .nil))))))))))) (by kernel_rfl) (by kernel_rfl)
theorem degree_sp_1 (l : List Nat) (hl : l.length ≤ 65536) (q1 : (decide (0 ≤ dn (((l.length : Nat) : Int) - 1) (l.length - dl l))) = false) : Sp P 256 [.sl 0] [.ro (.row eB l)] (vi (dn (((l.length : Nat) : Int) - 1) (l.length - dl l))) [.ro (.row eB l)] :=
 Sp.of (fn := Tryz.f256) rfl rfl 3 [.id 0] (.e 6 (aSub (a := ((l.length : Nat) : Int)) (b := 1) (c := ((l.length : Nat) : Int) - 1) (by omega)) (.lp (l.length - dl l) 2 [] [] (fun i => [(3, vi (dn (((l.length : Nat) : Int) - 1) i))]) (fun i => []) (fun i hi => (.t (show (decide (0 ≤ dn (((l.length : Nat) : Int) - 1) i)) = true from decide_eq_true (by rw [dn_eq]; omega)) (.t (show (decide (0 ≤ dn (((l.length : Nat) : Int) - 1) i)) = true from decide_eq_true (by rw [dn_eq]; omega)) (.t (show (decide (0 ≤ dn (((l.length : Nat) : Int) - 1) i)) = true from decide_eq_true (by rw [dn_eq]; omega)) (.ix (n := dn (((l.length : Nat) : Int) - 1) i) (i := (l.length - 1 - i)) (m := l.length) (e := (by rw [dn_eq]; omega)) (by omega) (.t (show (decide (0 ≤ dn (((l.length : Nat) : Int) - 1) i)) = true from decide_eq_true (by rw [dn_eq]; omega)) (.el (e := eB) (gD (l := l) (i := (l.length - 1 - i)) (by omega)) (.t (show (decide (0 ≤ dn (((l.length : Nat) : Int) - 1) i)) = true from decide_eq_true (by rw [dn_eq]; omega)) (.t (show (decide (0 ≤ dn (((l.length : Nat) : Int) - 1) i)) = true from decide_eq_true (by rw [dn_eq]; omega)) (.t (show (decide (((l.getD (l.length - 1 - i) 0 : Nat) : Int) = 0)) = true from decide_eq_true (by rw [dl_zero (by omega) (by omega)]; rfl)) (.e 17 (aSub (a := dn (((l.length : Nat) : Int) - 1) i) (b := 1) (c := (dn (((l.length : Nat) : Int) - 1) i) - 1) (by rw [dn_eq]; omega)) .nil))))))))))) (.t q1 (.t q1 (.t q1 (.t q1 (.t q1 (.t q1 (.n .nil))))))))) (by kernel_rfl) (by kernel_rfl)
theorem degree_sp (l : List Nat) (hl : l.length ≤ 65536) : Sp P 256 [.sl 0] [.ro (.row eB l)] (vi (((dl l : Nat) : Int) - 1)) [.ro (.row eB l)] := by
 cases q1 : decide (0 ≤ dn (((l.length : Nat) : Int) - 1) (l.length - dl l)) with
 | true =>
  have e : (((dl l : Nat) : Int) - 1) = (dn (((l.length : Nat) : Int) - 1) (l.length - dl l)) := by rw [dn_eq]; have := dl_le l; omega
  rw [e]; clear e
  exact degree_sp_0 l hl q1
 | false =>
  have e : (((dl l : Nat) : Int) - 1) = (dn (((l.length : Nat) : Int) - 1) (l.length - dl l)) := by rw [dn_eq]; have := dl_le l; omega
  rw [e]; clear e
  exact degree_sp_1 l hl q1
theorem clone_cons (x : Nat) (l : List Nat) (hl : (x :: l).length ≤ 65536) : Sp P 258 [.sl 0] [.ro (.row eB (x :: l))] (.sl 1) [.ro (.row eB (x :: l)), .row eB (x :: l)] :=
 Sp.of (fn := Tryz.f258) rfl rfl 4 [.id 0, .id 3] (.n (.bs 5 (e := eB) [] (.ap (e := eB) (l := []) (l' := x :: l) .row .row (by simp only [List.length_nil, List.length_cons] at *; omega) .nil))) (by kernel_rfl) (by kernel_rfl)
theorem clone_some (a : Addr) (c : Nat)  : Sp P 258 [.v (.slice (some a) 0 c)] [.ro (.row eB [])] (.sl 1) [.ro (.row eB []), .row eB []] :=
 Sp.of (fn := Tryz.f258) rfl rfl 4 [.id 0, .id 3] (.n (.bs 5 (e := eB) [] (.ap (e := eB) (l := []) (l' := []) .row (.flat [] [] rfl) (by decide) .nil))) (by kernel_rfl) (by kernel_rfl)
theorem clone_nil   : Sp P 258 [nilS] [.ro (.row eB [])] (.sl 1) [.ro (.row eB []), .row eB []] :=
 Sp.of (fn := Tryz.f258) rfl rfl 3 [.id 0, .nil] (.y .nil) (by kernel_rfl) (by kernel_rfl)
theorem clone_sp (l : List Nat) (hl : l.length ≤ 65536) : Sp P 258 [.sl 0] [.ro (.row eB l)] (.sl 1) [.ro (.row eB l), .row eB l] := by
 cases l with
 | cons x l => exact clone_cons x l hl
 | nil =>
  have hA := clone_nil
  refine ⟨⟨rfl, rfl⟩, hA.ln, hA.fr, hA.rs, hA.ro, fun ρ M w h => ?_⟩
  obtain ⟨h1, h2, h3, h4⟩ := h.row (g := 0) rfl rfl
  cases ha : (ρ 0).a with
  | none =>
   cases hea : (ρ 0).ea with
   | none =>
    have e : V.dens ρ [V.sl 0] = V.dens ρ [nilS] := by simp only [V.dens, V.den, Loc.slv_none ha, Loc.emp, hea]
    rw [e]; exact hA.out ρ M w h
   | some A =>
    have e : V.dens ρ [V.sl 0] = V.dens ρ [V.v (.slice (some A) 0 (ρ 0).ec)] := by simp only [V.dens, V.den, Loc.slv_none ha, Loc.emp, hea]
    rw [e]; exact (clone_some _ _).out ρ M w h
  | some a =>
   have e : V.dens ρ [V.sl 0] = V.dens ρ [V.v (.slice (some ((ρ 0).adr 0)) 0 (ρ 0).cap)] := by simp only [V.dens, V.den, slv_some ha, h1, List.length_nil]
   rw [e]; exact (clone_some _ _).out ρ M w h
def tr (l : List Nat) : List Nat := l.take (dl l)
theorem tr_len (l : List Nat) : (tr l).length = dl l := by unfold tr; rw [List.length_take]; have := dl_le l; omega
theorem tr_le (l : List Nat) : (tr l).length ≤ l.length := by rw [tr_len]; exact dl_le l
theorem tr_B8 {l : List Nat} (h : B8 l) : B8 (tr l) := h.take _
theorem trim_sp (l : List Nat) (hl : l.length ≤ 65536) : Sp P 259 [.sl 0] [.ro (.row eB l)] (.sl 1) [.ro (.row eB l), .row eB (tr l)] :=
 Sp.of (fn := Tryz.f259) rfl rfl 3 [.id 0, .id 2] (.c [.id 0] (degree_sp l (by first | assumption | omega)) (.e 6 (aAdd (a := ((dl l : Nat) : Int) - 1) (b := 1) (c := ((dl l : Nat) : Int)) (by have := dl_le l; omega)) (.sl (i := 0) (n := dl l) (m := l.length) (hi := ((dl l : Nat) : Int)) (h2 := by omega) (by have := dl_le l; omega) (.cw [.ss 0 0 1 (dl l)] (clone_sp (l.take (dl l)) (by rw [List.length_take]; have := dl_le l; omega)) _ (congrArg (fun z : Fd => [z]) (vwT eB l (dl l) (dl_le l))) .nil)))) (by kernel_rfl) (by kernel_rfl)
theorem degree_pos (l : List Nat) (hl : l.length ≤ 65536) (h : dl l ≠ 0) : Sp P 256 [.sl 0] [.ro (.row eB l)] (vn (dl l - 1)) [.ro (.row eB l)] := by
 have := degree_sp l hl
 rw [show ((dl l : Nat) : Int) - 1 = ((dl l - 1 : Nat) : Int) by omega] at this
 exact this
def mi (a b o : List Nat) (i : Nat) : Nat → List Nat
 | 0 => o
 | k + 1 => (mi a b o i k).set (i + k) (xr ((mi a b o i k).getD (i + k) 0) (mulF (a.getD i 0) (b.getD k 0)))
def mo (a b : List Nat) : Nat → List Nat
 | 0 => List.replicate (a.length + b.length) 0
 | i + 1 => mi a b (mo a b i) i b.length
theorem mi_len (a b o : List Nat) (i : Nat) : ∀ k, (mi a b o i k).length = o.length
 | 0 => rfl
 | k + 1 => by rw [mi, List.length_set, mi_len a b o i k]
theorem mo_len (a b : List Nat) : ∀ i, (mo a b i).length = a.length + b.length
 | 0 => List.length_replicate
 | i + 1 => by rw [mo, mi_len, mo_len a b i]
theorem mi_B8 {a b o : List Nat} {i : Nat} (h : B8 o) : ∀ k, B8 (mi a b o i k)
 | 0 => h
 | k + 1 => (mi_B8 h k).set (xr_lt (mi_B8 h k _) (mulF_lt _ _))
theorem mo_B8 {a b : List Nat} : ∀ i, B8 (mo a b i)
 | 0 => B8.rep _
 | i + 1 => mi_B8 (mo_B8 i) _
def mulP (a b : List Nat) : List Nat := tr (mo (tr a) (tr b) (tr a).length)
theorem mulP_B8 {a b : List Nat} : B8 (mulP a b) := tr_B8 (mo_B8 _)
theorem mulP_len (a b : List Nat) : (mulP a b).length ≤ a.length + b.length := by
 have h := tr_le (mo (tr a) (tr b) (tr a).length)
 rw [mo_len] at h
 have := tr_le a; have := tr_le b
 unfold mulP; omega
theorem pmul_sp (a : List Nat) (b : List Nat) (ha : a.length ≤ 1000) (hb : b.length ≤ 1000) (ba : B8 a) (bb : B8 b) : Sp P 244 [.pt 0 0, .sl 1, .sl 2] [.ro (gF), .ro (.row eB a), .ro (.row eB b)] (.sl 3) [.ro (gF), .ro (.row eB a), .ro (.row eB b), .row eB (mulP a b)] :=
 Sp.of (fn := Tryz.f244) rfl rfl 7 [.id 0, .id 1, .id 2, .id 7] (.c [.id 1] (trim_sp a (by first | assumption | omega)) (.c [.id 2] (trim_sp b (by first | assumption | omega)) (.e 20 (aAdd (a := (((tr a).length : Nat) : Int)) (b := (((tr b).length : Nat) : Int)) (c := (((tr a).length + (tr b).length : Nat) : Int)) (by have := tr_le a; have := tr_le b; omega)) (.mk (e := eB) (a := 0) (n := (tr a).length + (tr b).length) (by have := tr_le a; have := tr_le b; omega) (.lp (tr a).length 7 [] [] (fun i => [(24, vn i)]) (fun i => [(6, .row eB (mo (tr a) (tr b) i))]) (fun i hi => (.t (show (decide (((i : Nat) : Int) < (((tr a).length : Nat) : Int))) = true from decide_eq_true (by omega)) (.ix (i := i) (m := (tr a).length) (by omega) (.el (e := eB) (gD (l := tr a) (i := i) (by omega)) (.lp (tr b).length 7 [] [] (fun k => [(31, vn k)]) (fun k => [(6, .row eB (mi (tr a) (tr b) (mo (tr a) (tr b) i) i k))]) (fun k hk => (.t (show (decide (((k : Nat) : Int) < (((tr b).length : Nat) : Int))) = true from decide_eq_true (by omega)) (.ix (i := k) (m := (tr b).length) (by omega) (.el (e := eB) (gD (l := tr b) (i := k) (by omega)) (.e 39 (aAdd (a := ((i : Nat) : Int)) (b := ((k : Nat) : Int)) (c := ((i + k : Nat) : Int)) (by have := tr_le a; have := tr_le b; omega)) (.ix (i := i + k) (m := (mi (tr a) (tr b) (mo (tr a) (tr b) i) i k).length) (by rw [mi_len, mo_len]; omega) (.el (e := eB) (gD (l := mi (tr a) (tr b) (mo (tr a) (tr b) i) i k) (i := i + k) (by rw [mi_len, mo_len]; omega)) (.c [.id 0] (mul_sp ((tr a).getD i 0) ((tr b).getD k 0) (tr_B8 ba _) (tr_B8 bb _)) (.e 46 (bXor ((mi (tr a) (tr b) (mo (tr a) (tr b) i) i k).getD (i + k) 0) (mulF ((tr a).getD i 0) ((tr b).getD k 0)) (mi_B8 (mo_B8 _) _ _) (mulF_lt _ _)) (.ix (i := i + k) (m := (mi (tr a) (tr b) (mo (tr a) (tr b) i) i k).length) (by rw [mi_len, mo_len]; omega) (.sw (e := eB) (l := mi (tr a) (tr b) (mo (tr a) (tr b) i) i k) (i := i + k) (a := xr ((mi (tr a) (tr b) (mo (tr a) (tr b) i) i k).getD (i + k) 0) (mulF ((tr a).getD i 0) ((tr b).getD k 0))) (by rw [mi_len, mo_len]; omega) (.e 48 (aAdd (a := ((k : Nat) : Int)) (b := 1) (c := ((k + 1 : Nat) : Int)) (by have := tr_le a; have := tr_le b; omega)) .nil)))))))))))) (.t (show (decide ((((tr b).length : Nat) : Int) < (((tr b).length : Nat) : Int))) = false from decide_eq_false (by omega)) (.e 49 (aAdd (a := ((i : Nat) : Int)) (b := 1) (c := ((i + 1 : Nat) : Int)) (by have := tr_le a; have := tr_le b; omega)) .nil))))))) (.t (show (decide ((((tr a).length : Nat) : Int) < (((tr a).length : Nat) : Int))) = false from decide_eq_false (by omega)) (.c [.id 6] (trim_sp (mo (tr a) (tr b) (tr a).length) (by rw [mo_len]; have := tr_le a; have := tr_le b; omega)) .nil))))))) (by kernel_rfl) (by kernel_rfl)
def mdi (b o : List Nat) (A e : Nat) : Nat → List Nat
 | 0 => o
 | k + 1 => (mdi b o A e k).set (e + k) (xr ((mdi b o A e k).getD (e + k) 0) (mulF A (b.getD k 0)))
def mdo (a b : List Nat) (t : Nat) : Nat → List Nat
 | 0 => a
 | i + 1 => mdi b (mdo a b t i) (mulF ((mdo a b t i).getD (a.length - 1 - i) 0) t) (a.length - 1 - i - (dl b - 1)) (dl b - 1 + 1)
theorem mdi_len (b o : List Nat) (A e : Nat) : ∀ k, (mdi b o A e k).length = o.length
 | 0 => rfl
 | k + 1 => by rw [mdi, List.length_set, mdi_len b o A e k]
theorem mdo_len (a b : List Nat) (t : Nat) : ∀ i, (mdo a b t i).length = a.length
 | 0 => rfl
 | i + 1 => by rw [mdo, mdi_len, mdo_len a b t i]
theorem mdi_B8 {b o : List Nat} {A e : Nat} (h : B8 o) : ∀ k, B8 (mdi b o A e k)
 | 0 => h
 | k + 1 => (mdi_B8 h k).set (xr_lt (mdi_B8 h k _) (mulF_lt _ _))
theorem mdo_B8 {a b : List Nat} {t : Nat} (h : B8 a) : ∀ i, B8 (mdo a b t i)
 | 0 => h
 | i + 1 => mdi_B8 (mdo_B8 h i) _
def topI (b : List Nat) : Nat := divF 1 (b.getD (dl b - 1) 0)
def modP (a b : List Nat) : List Nat := tr (mdo a b (topI b) (a.length + 1 - dl b))
theorem modP_B8 {a b : List Nat} (h : B8 a) : B8 (modP a b) := tr_B8 (mdo_B8 h _)
theorem pmod_sp (a : List Nat) (b : List Nat) (ha : a.length ≤ 1000) (hb : b.length ≤ 1000) (ba : B8 a) (bb : B8 b) (hq : dl b ≠ 0) : Sp P 226 [.pt 0 0, .sl 1, .sl 2] [.ro (gF), .ro (.row eB a), .ro (.row eB b)] (.tu [.sl 3, vn 0]) [.ro (gF), .ro (.row eB a), .ro (.row eB b), .row eB (modP a b)] :=
 Sp.of (fn := Tryz.f226) rfl rfl 5 [.id 0, .id 1, .id 2, .id 5] (.c [.id 2] (degree_pos b (by first | assumption | omega) (by first | assumption | omega)) (.t (show (decide (((dl b - 1 : Nat) : Int) < 0)) = false from decide_eq_false (by omega)) (.ix (n := ((dl b - 1 : Nat) : Int)) (i := (dl b - 1)) (m := b.length) (e := rfl) (by have := dl_le b; omega) (.el (e := eB) (gD (l := b) (i := (dl b - 1)) (by have := dl_le b; omega)) (.c [.id 0] (inv_sp (b.getD (dl b - 1) 0) (bb _)) (.t (congrArg (!·) (show (decide (noI (b.getD (dl b - 1) 0) = 0)) = true from decide_eq_true (by unfold noI; rw [if_neg (dl_last hq)]))) (.c [.id 1] (clone_sp a (by first | assumption | omega)) (.e 35 (aSub (a := ((a.length : Nat) : Int)) (b := 1) (c := ((a.length : Nat) : Int) - 1) (by omega)) (.lp (a.length + 1 - dl b) 5 [] [] (fun i => [(12, vi (dn (((a.length : Nat) : Int) - 1) i))]) (fun i => [(4, .row eB (mdo a b (topI b) i))]) (fun i hi => (.t (show (decide (((dl b - 1 : Nat) : Int) ≤ dn (((a.length : Nat) : Int) - 1) i)) = true from decide_eq_true (by rw [dn_eq]; omega)) (.ix (n := dn (((a.length : Nat) : Int) - 1) i) (i := (a.length - 1 - i)) (m := (mdo a b (topI b) i).length) (e := (by rw [dn_eq]; omega)) (by rw [mdo_len]; omega) (.el (e := eB) (gD (l := mdo a b (topI b) i) (i := (a.length - 1 - i)) (by rw [mdo_len]; omega)) (.c [.id 0] (mul_sp ((mdo a b (topI b) i).getD (a.length - 1 - i) 0) (divF 1 (b.getD (dl b - 1) 0)) (mdo_B8 ba _ _) (divF_lt _ _)) (.e 49 (aAdd (a := ((dl b - 1 : Nat) : Int)) (b := 1) (c := (((dl b - 1) + 1 : Nat) : Int)) (by have := dl_le b; omega)) (.lp (dl b - 1 + 1) 5 [] [] (fun k => [(50, vn k)]) (fun k => [(4, .row eB (mdi b (mdo a b (topI b) i) (mulF ((mdo a b (topI b) i).getD (a.length - 1 - i) 0) (topI b)) (a.length - 1 - i - (dl b - 1)) k))]) (fun k hk => (.t (show (decide (((k : Nat) : Int) < (((dl b - 1) + 1 : Nat) : Int))) = true from decide_eq_true (by omega)) (.e 56 (aSub (a := dn (((a.length : Nat) : Int) - 1) i) (b := ((dl b - 1 : Nat) : Int)) (c := (dn (((a.length : Nat) : Int) - 1) i) - ((dl b - 1 : Nat) : Int)) (by rw [dn_eq]; have := dl_le b; omega)) (.e 58 (aAdd (a := (dn (((a.length : Nat) : Int) - 1) i) - ((dl b - 1 : Nat) : Int)) (b := ((k : Nat) : Int)) (c := ((dn (((a.length : Nat) : Int) - 1) i) - ((dl b - 1 : Nat) : Int)) + ((k : Nat) : Int)) (by rw [dn_eq]; have := dl_le b; omega)) (.ix (n := ((dn (((a.length : Nat) : Int) - 1) i) - ((dl b - 1 : Nat) : Int)) + ((k : Nat) : Int)) (i := (a.length - 1 - i - (dl b - 1) + k)) (m := (mdi b (mdo a b (topI b) i) (mulF ((mdo a b (topI b) i).getD (a.length - 1 - i) 0) (topI b)) (a.length - 1 - i - (dl b - 1)) k).length) (e := (by rw [dn_eq]; have := dl_le b; omega)) (by rw [mdi_len, mdo_len]; have := dl_le b; omega) (.el (e := eB) (gD (l := mdi b (mdo a b (topI b) i) (mulF ((mdo a b (topI b) i).getD (a.length - 1 - i) 0) (topI b)) (a.length - 1 - i - (dl b - 1)) k) (i := (a.length - 1 - i - (dl b - 1) + k)) (by rw [mdi_len, mdo_len]; have := dl_le b; omega)) (.ix (i := k) (m := b.length) (by have := dl_le b; omega) (.el (e := eB) (gD (l := b) (i := k) (by have := dl_le b; omega)) (.c [.id 0] (mul_sp (mulF ((mdo a b (topI b) i).getD (a.length - 1 - i) 0) (divF 1 (b.getD (dl b - 1) 0))) (b.getD k 0) (mulF_lt _ _) (bb _)) (.e 68 (bXor ((mdi b (mdo a b (topI b) i) (mulF ((mdo a b (topI b) i).getD (a.length - 1 - i) 0) (topI b)) (a.length - 1 - i - (dl b - 1)) k).getD (a.length - 1 - i - (dl b - 1) + k) 0) (mulF (mulF ((mdo a b (topI b) i).getD (a.length - 1 - i) 0) (divF 1 (b.getD (dl b - 1) 0))) (b.getD k 0)) (mdi_B8 (mdo_B8 ba _) _ _) (mulF_lt _ _)) (.ix (n := ((dn (((a.length : Nat) : Int) - 1) i) - ((dl b - 1 : Nat) : Int)) + ((k : Nat) : Int)) (i := (a.length - 1 - i - (dl b - 1) + k)) (m := (mdi b (mdo a b (topI b) i) (mulF ((mdo a b (topI b) i).getD (a.length - 1 - i) 0) (topI b)) (a.length - 1 - i - (dl b - 1)) k).length) (e := (by rw [dn_eq]; have := dl_le b; omega)) (by rw [mdi_len, mdo_len]; have := dl_le b; omega) (.sw (e := eB) (l := mdi b (mdo a b (topI b) i) (mulF ((mdo a b (topI b) i).getD (a.length - 1 - i) 0) (topI b)) (a.length - 1 - i - (dl b - 1)) k) (i := (a.length - 1 - i - (dl b - 1) + k)) (a := xr ((mdi b (mdo a b (topI b) i) (mulF ((mdo a b (topI b) i).getD (a.length - 1 - i) 0) (topI b)) (a.length - 1 - i - (dl b - 1)) k).getD (a.length - 1 - i - (dl b - 1) + k) 0) (mulF (mulF ((mdo a b (topI b) i).getD (a.length - 1 - i) 0) (divF 1 (b.getD (dl b - 1) 0))) (b.getD k 0))) (by rw [mdi_len, mdo_len]; have := dl_le b; omega) (.e 70 (aAdd (a := ((k : Nat) : Int)) (b := 1) (c := ((k + 1 : Nat) : Int)) (by have := dl_le b; omega)) .nil))))))))))))) (.t (show (decide ((((dl b - 1 + 1) : Nat) : Int) < (((dl b - 1) + 1 : Nat) : Int))) = false from decide_eq_false (by omega)) (.e 40 (aSub (a := dn (((a.length : Nat) : Int) - 1) i) (b := 1) (c := (dn (((a.length : Nat) : Int) - 1) i) - 1) (by rw [dn_eq]; omega)) .nil))))))))) (.t (show (decide (((dl b - 1 : Nat) : Int) ≤ dn (((a.length : Nat) : Int) - 1) (a.length + 1 - dl b))) = false from decide_eq_false (by rw [dn_eq]; omega)) (.c [.id 4] (trim_sp (mdo a b (topI b) (a.length + 1 - dl b)) (by rw [mdo_len]; omega)) .nil))))))))))) (by kernel_rfl) (by kernel_rfl)
def evlP (l : List Nat) (x : Nat) : Nat → Nat
 | 0 => 0
 | i + 1 => xr (mulF (evlP l x i) x) (l.getD (l.length - 1 - i) 0)
theorem evlP_lt {l : List Nat} (h : B8 l) (x : Nat) : ∀ i, evlP l x i < 256
 | 0 => (by decide : (0 : Nat) < 256)
 | i + 1 => xr_lt (mulF_lt _ _) (h _)
theorem backward_sp (l : List Nat)  : Sp P 314 [.sl 0] [.ro (.row eB l)] (.fn (.func 317) [] [.pt 1 0]) [.ro (.row eB l), .blk [.sl 0] 184] :=
 Sp.of (fn := Tryz.f314) rfl rfl 3 [.id 0, .id 2] .nil (by kernel_rfl) (by kernel_rfl)
theorem peval_sp (l : List Nat) (x : Nat) (hl : l.length ≤ 65536) (bl : B8 l) (hx : x < 256) : Sp P 303 [.pt 0 0, .sl 1, vb x] [.ro (gF), .ro (.row eB l)] (vb (evlP l x l.length)) [.ro (gF), .ro (.row eB l)] :=
 Sp.of (fn := Tryz.f303) rfl rfl 8 [.id 0, .id 1] (.c [.id 1] (backward_sp l) (.e 6 (aSub (a := ((l.length : Nat) : Int)) (b := 1) (c := ((l.length : Nat) : Int) - 1) (by omega)) (.lp l.length 9 [] [] (fun i => [(3, vi (dn (((l.length : Nat) : Int) - 1) i))]) (fun i => [(5, .blk [vb (evlP l x i)] 5), (7, .lo .ready none)]) (fun i hi => (.t (show (decide (0 ≤ dn (((l.length : Nat) : Int) - 1) i)) = true from decide_eq_true (by rw [dn_eq]; omega)) (.ix (n := dn (((l.length : Nat) : Int) - 1) i) (i := (l.length - 1 - i)) (m := l.length) (e := (by rw [dn_eq]; omega)) (by omega) (.el (e := eB) (gD (l := l) (i := (l.length - 1 - i)) (by omega)) (.c [.id 0] (mul_sp (evlP l x i) x (evlP_lt bl x i) hx) (.e 19 (bXor (mulF (evlP l x i) x) (l.getD (l.length - 1 - i) 0) (mulF_lt _ _) (bl _)) (.n (.e 10 (aSub (a := dn (((l.length : Nat) : Int) - 1) i) (b := 1) (c := (dn (((l.length : Nat) : Int) - 1) i) - 1) (by rw [dn_eq]; omega)) .nil)))))))) (.t (show (decide (0 ≤ dn (((l.length : Nat) : Int) - 1) l.length)) = false from decide_eq_false (by rw [dn_eq]; omega)) .nil)))) (by kernel_rfl) (by kernel_rfl)
def rtP (r : List Nat) : Nat → List Nat
 | 0 => [1]
 | i + 1 => mulP (rtP r i) [r.getD i 0, 1]
theorem rtP_len (r : List Nat) : ∀ i, (rtP r i).length ≤ 2 * i + 1
 | 0 => Nat.le_refl 1
 | i + 1 => by
  have h := mulP_len (rtP r i) [r.getD i 0, 1]
  have := rtP_len r i
  simp only [List.length_cons, List.length_nil] at h
  rw [rtP]; omega
theorem rt_le (i : Nat) (h : i ≤ 4) : (rtP [1, 2, 4, 8] i).length ≤ 1000 := by have := rtP_len [1, 2, 4, 8] i; omega
theorem roots_sp   : Sp P 202 [.pt 0 0, .sl 1] [.ro (gF), .ro (.row eB [1, 2, 4, 8])] (.sl 2) [.ro (gF), .ro (.row eB [1, 2, 4, 8]), .row eB (rtP [1, 2, 4, 8] 4)] :=
 Sp.of (fn := Tryz.f202) rfl rfl 11 [.id 0, .id 1, .id 11] (.bs 8 (e := eB) [1] (.lu 4 (.y (.ix (i := 0) (m := 4) (by decide) (.el (e := eB) (gD (l := [1, 2, 4, 8]) (i := 0) (by decide)) (.bs 18 (e := eB) [[1, 2, 4, 8].getD 0 0, 1] (.c [.id 0, .id 3, .id 4] (pmul_sp [1] [[1, 2, 4, 8].getD 0 0, 1] (by decide) (by decide) (B8.mem (by decide)) (B8.mem (by decide))) (.y (.ix (i := 1) (m := 4) (by decide) (.el (e := eB) (gD (l := [1, 2, 4, 8]) (i := 1) (by decide)) (.bs 18 (e := eB) [[1, 2, 4, 8].getD 1 0, 1] (.c [.id 0, .id 5, .id 6] (pmul_sp (mulP [1] [[1, 2, 4, 8].getD 0 0, 1]) [[1, 2, 4, 8].getD 1 0, 1] (rt_le 1 (by decide)) (by decide) mulP_B8 (B8.mem (by decide))) (.y (.ix (i := 2) (m := 4) (by decide) (.el (e := eB) (gD (l := [1, 2, 4, 8]) (i := 2) (by decide)) (.bs 18 (e := eB) [[1, 2, 4, 8].getD 2 0, 1] (.c [.id 0, .id 7, .id 8] (pmul_sp (mulP (mulP [1] [[1, 2, 4, 8].getD 0 0, 1]) [[1, 2, 4, 8].getD 1 0, 1]) [[1, 2, 4, 8].getD 2 0, 1] (rt_le 2 (by decide)) (by decide) mulP_B8 (B8.mem (by decide))) (.y (.ix (i := 3) (m := 4) (by decide) (.el (e := eB) (gD (l := [1, 2, 4, 8]) (i := 3) (by decide)) (.bs 18 (e := eB) [[1, 2, 4, 8].getD 3 0, 1] (.c [.id 0, .id 9, .id 10] (pmul_sp (mulP (mulP (mulP [1] [[1, 2, 4, 8].getD 0 0, 1]) [[1, 2, 4, 8].getD 1 0, 1]) [[1, 2, 4, 8].getD 2 0, 1]) [[1, 2, 4, 8].getD 3 0, 1] (rt_le 3 (by decide)) (by decide) mulP_B8 (B8.mem (by decide))) (.n .nil))))))))))))))))))))))) (by kernel_rfl) (by kernel_rfl)
end Go.Proofs.YtghfannbcopjmaaGreat
