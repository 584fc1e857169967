/- Lines of a text, plain; steps in rows and in slices handed in; a builder told as a row of bytes. -/
import Derived.Test.YtjbaabffilejeaaDoorScrQ
import Derived.Test.YtjbaabffilejeaaDoorPxQ
import Derived.Test.YtjbaabffilejeaaDoorPxT
import Derived.Test.YtjbaabffilejeaaDoorRat
import Derived.Test.YtjbaabffilejeaaDoorOpenA
import Derived.Test.YtjbaabffilejeaaDoorShelf
namespace Go.Proofs.YtjbaabffilejeaaDoor
open Go Go.RowKit Go.ChangeShapes Go.WideShapes
set_option linter.unusedVariables false
/-! ### lines -/
def unl (bs : List (List UInt8)) : List UInt8 := bs.flatMap (· ++ [10])
theorem unl_cons (b : List UInt8) (bs : List (List UInt8)) : unl (b :: bs) = (b ++ [10]) ++ unl bs := by simp [unl]
theorem unl_app (a b : List (List UInt8)) : unl (a ++ b) = unl a ++ unl b := by simp [unl]
theorem unl_len : ∀ (bs : List (List UInt8)) (N : Nat), (∀ b ∈ bs, b.length ≤ N) → (unl bs).length ≤ bs.length * (N + 1)
  | [], N, h => by simp [unl]
  | b :: bs, N, h => by
    have h1 := h b (by simp)
    have h2 := unl_len bs N fun x hx => h x (by simp [hx])
    have h3 : (bs.length + 1) * (N + 1) = bs.length * (N + 1) + (N + 1) := Nat.succ_mul _ _
    rw [unl_cons]
    simp only [List.length_append, List.length_cons, List.length_nil]; omega
def noNl (bs : List (List UInt8)) : Prop := ∀ b ∈ bs, ¬ (10 : UInt8) ∈ b
theorem ix_nl : ∀ (b r : List UInt8), ¬ (10 : UInt8) ∈ b → Lib.indexByte ((b ++ [10]) ++ r) 10 = (b.length : Int)
  | [], r, _ => by simp [Lib.indexByte]
  | c :: b, r, h => by
    have h1 : ¬ c = 10 := fun e => h (by simp [e])
    have h2 := ix_nl b r fun e => h (by simp [e])
    show (if c == 10 then (0 : Int) else if Lib.indexByte ((b ++ [10]) ++ r) 10 == -1 then -1 else Lib.indexByte ((b ++ [10]) ++ r) 10 + 1) = _
    rw [h2, if_neg (by simpa using h1), if_neg (by simp)]
    simp
theorem Ix10 {l : List UInt8} {k : Nat} (h : Lib.indexByte l 10 = k) {w : World} : Calls Tryd.prog 65 #[S l, .int .u8 10] w fun e w' => e = .returned (.int .i64 ((k : Nat) : Int)) ∧ Below w.heap.size w w' := by
  refine (Tryd.strings_IndexByte ⟨l.toArray⟩ 10 w).mono fun e w' ⟨he, hw⟩ => ⟨?_, hw ▸ Below.refl _ _⟩
  rw [he, ← h]; rfl
theorem IxNl {b r : List UInt8} (h : ¬ (10 : UInt8) ∈ b) {w : World} : Calls Tryd.prog 65 #[S ((b ++ [10]) ++ r), .int .u8 10] w fun e w' => e = .returned (.int .i64 ((b.length : Nat) : Int)) ∧ Below w.heap.size w w' := Ix10 (ix_nl b r h)
theorem CutS {l b c : List UInt8} {t : Bool} (h1 : Lib.hasSuffix l c = t) (h2 : Lib.trimSuffix l c = b) (hl : l.length ≤ 1000000) {w : World} : Calls Tryd.prog 49 #[S l, S c] w fun e w' => e = .returned (.tuple #[S b, .bool t]) ∧ Below w.heap.size w w' := by
  refine (Tryd.strings_CutSuffix ⟨l.toArray⟩ ⟨c.toArray⟩ w (by show l.length ≤ _; omega)).mono fun e w' ⟨he, hw⟩ => ⟨?_, hw ▸ Below.refl _ _⟩
  rw [he, ← h1, ← h2]
theorem CutNl (b : List UInt8) (hb : b.length ≤ 999999) {w : World} : Calls Tryd.prog 49 #[S (b ++ [10]), S [10]] w fun e w' => e = .returned (.tuple #[S b, .bool true]) ∧ Below w.heap.size w w' := by
  have h1 : Lib.hasSuffix (b ++ [10]) [10] = true := by
    unfold Lib.hasSuffix; rw [List.isSuffixOf_iff_suffix]; exact List.suffix_append _ _
  refine CutS h1 ?_ (by simp; omega)
  unfold Lib.trimSuffix; rw [if_pos h1]; simp
theorem strToE {P : Program} {w : World} {t : TypeId} {l r : List UInt8} {h : Nat} (ht : P.underlying t = some .string) (hh : h ≤ l.length) (e : l.take h = r) :
    ((Instr.sliceAt t (S l) none (some (.int .i64 ((h : Nat) : Int))) none) >>= fun v => pure (Next.value v)).run P w = .ok (.value (S r)) w := by rw [← e]; exact strTo ht hh
theorem strFromE {P : Program} {w : World} {t : TypeId} {l r : List UInt8} {k : Nat} (ht : P.underlying t = some .string) (hh : k ≤ l.length) (e : l.drop k = r) :
    ((Instr.sliceAt t (S l) (some (.int .i64 ((k : Nat) : Int))) none none) >>= fun v => pure (Next.value v)).run P w = .ok (.value (S r)) w := by rw [← e]; exact strFrom ht hh
/-! ### steps in rows -/
theorem stepLen (x : Stp) : (stepL x).length = 75 := by unfold stepL; simp [arrL_len]
theorem arrL_one1 (D : Nat → Nat) : ∀ n i, ∀ v ∈ arrL D n i, v.oneCell' = true
  | 0, _, v, h => by simp [arrL] at h
  | n + 1, i, v, h => by
    simp only [arrL, List.mem_cons] at h
    rcases h with rfl | h
    · rfl
    · exact arrL_one1 D n (i + 1) v h
theorem stepOne (x : Stp) : ∀ v ∈ stepL x, v.oneCell' = true := fun v hv => by
  unfold stepL at hv
  simp only [List.mem_cons, List.mem_append, List.not_mem_nil, or_false] at hv
  rcases hv with rfl | rfl | hv | rfl | rfl | rfl | rfl | rfl | rfl | rfl | rfl | rfl
  all_goals first | rfl | skip
  exact arrL_one1 _ _ _ v hv
theorem srcStep {w : World} {g : Nat} {x : Stp} (h : w.heap[g]? = some (.cells (stepA x) 41 (0, 0))) : Src w 75 (.slice (some ⟨g, 0, none⟩) 1 1) 1 (stepL x) := by
  refine .inr ⟨stepLen x, ⟨g, 0, none⟩, 1, rfl, fun j y hj => ?_⟩
  rw [add_none]
  simp only [World.cell?, h]
  simpa [stepA] using hj
theorem RAt.pre {α : Type} {f : α → List Value} {sz : Nat} {d : α} {w : World} {ad : Option Addr} {n : Nat} {l : List α} (h : RAt f sz d w ad n l) {k : Nat} (hk : k ≤ n) : RAt f sz d w ad k (l.take k) := fun h0 => by
  obtain ⟨g, off, e, hc⟩ := h (by omega)
  refine ⟨g, off, e, fun w' hw i hi j v hj => hc w' hw i (by omega) j v ?_⟩
  rw [show (l.take k).getD i d = l.getD i d by simp [List.getD_eq_getElem?_getD, hi]] at hj
  exact hj
def sufA (a : Option Addr) (c l s : Nat) : Option Addr := if c = l then a else a.map (·.add (l * s))
theorem RAt.suf {α : Type} {f : α → List Value} {sz : Nat} {d : α} {w : World} {ad : Option Addr} {n c : Nat} {l : List α} (h : RAt f sz d w ad n l) (hc : n ≤ c) {k : Nat} (hk : k ≤ n) : RAt f sz d w (sufA ad c k sz) (n - k) (l.drop k) := fun h0 => by
  obtain ⟨g, off, rfl, hx⟩ := h (by omega)
  refine ⟨g, off + k * sz, ?_, fun w' hw i hi j v hj => ?_⟩
  · unfold sufA; rw [if_neg (by omega), Option.map_some, add_none]
  · rw [show (l.drop k).getD i d = l.getD (k + i) d by simp [List.getD_eq_getElem?_getD, List.getElem?_drop]] at hj
    have c := hx w' hw (k + i) (by omega) j v hj
    have e : off + k * sz + i * sz + j = off + (k + i) * sz + j := by rw [Nat.add_mul]; omega
    rw [e]; exact c
theorem getD_memS {xs : List Stp} {k : Nat} (h : k < xs.length) : xs.getD k zeroS ∈ xs := by rw [List.getD_eq_getElem?_getD, List.getElem?_eq_getElem h]; exact List.getElem_mem h
/-- The lines of the first k steps. -/
def TX (xs : List Stp) (k : Nat) : List (List UInt8) := (xs.take k).map txtS
theorem TX_all {xs : List Stp} {k : Nat} (h : xs.length ≤ k) : TX xs k = xs.map txtS := by unfold TX; rw [List.take_of_length_le h]
theorem TX_succ {xs : List Stp} {k : Nat} (h : k < xs.length) : unl (TX xs (k + 1)) = unl (TX xs k) ++ (txtS (xs.getD k zeroS) ++ [10]) := by
  unfold TX
  rw [List.take_add_one, List.getElem?_eq_getElem h, List.map_append, unl_app]
  simp [unl, List.getD_eq_getElem?_getD, List.getElem?_eq_getElem h]
theorem TX_len {xs : List Stp} (hx : ∀ x ∈ xs, Rng x) (k : Nat) : (unl (TX xs k)).length ≤ xs.length * 1001 := by
  have h := unl_len (TX xs k) 1000 fun b hb => by
    unfold TX at hb
    obtain ⟨x, hxm, rfl⟩ := List.mem_map.1 hb
    exact txtS_len (hx x (List.mem_of_mem_take hxm))
  have h2 : (TX xs k).length ≤ xs.length := by unfold TX; rw [List.length_map, List.length_take]; omega
  exact Nat.le_trans h (Nat.mul_le_mul_right _ h2)
theorem take_one {xs : List Stp} {k : Nat} {P : Stp → Prop} (h : k < xs.length) (h1 : ∀ x ∈ xs.take k, P x) (h2 : P (xs.getD k zeroS)) : ∀ x ∈ xs.take (k + 1), P x := fun x hx => by
  rw [List.take_add_one, List.getElem?_eq_getElem h, List.mem_append] at hx
  rcases hx with hx | hx
  · exact h1 x hx
  · simp at hx; rw [List.getD_eq_getElem?_getD, List.getElem?_eq_getElem h] at h2; rw [hx]; exact h2
theorem lnCase {p q pre : List (List UInt8)} {x b : List UInt8} (h : pre <+: p) (hpx : pre ++ [x] <+: p ++ b :: q) : (x ∈ p ∧ pre ++ [x] <+: p) ∨ (x = b ∧ pre = p) := by
  obtain ⟨s, rfl⟩ := h
  rw [List.append_assoc, List.prefix_append_right_inj] at hpx
  cases s with
  | nil =>
    simp at hpx
    exact .inr ⟨hpx, by simp⟩
  | cons y s =>
    simp at hpx
    subst hpx
    exact .inl ⟨by simp, by rw [List.prefix_append_right_inj]; simp⟩
theorem slcHA {P : Program} {w : World} {t : TypeId} {ad : Option Addr} {n c h sz : Nat} (ht : P.underlying t = some (.slice (P.elem t))) (hs : (P.info? (P.elem t)).map (·.size) = some sz) (hh : h ≤ c) :
    ((Instr.sliceAt t (.slice ad n c) none (some (.int .i64 ((h : Nat) : Int))) none) >>= fun v => pure (Next.value v)).run P w = .ok (.value (.slice ad h c)) w := by
  rw [Sem.run_bind, run_sliceAt_slice (h := ht), run_slice_h (ht := ht) (h0 := by omega) (h2 := by omega), run_sz hs, Result.andThen_ok, Int.toNat_natCast]
  have : sliced ad 0 h c sz = .slice ad h c := by
    unfold sliced
    cases ad <;> split <;> simp [Addr.add]
  rw [this]; rfl
/-! ### texts of steps -/
theorem noNl_txt {xs : List Stp} (hx : ∀ x ∈ xs, Rng x) : noNl (xs.map txtS) := fun b hb h => by
  obtain ⟨x, hxm, rfl⟩ := List.mem_map.1 hb
  exact txtS_no (hx x hxm) 10 h rfl
theorem good_txts {xs : List Stp} (hx : ∀ x ∈ xs, Rng x) (hr : ∀ x ∈ xs, RightS x) : ∀ b ∈ xs.map txtS, goodT b := fun b hb => by
  obtain ⟨x, hxm, rfl⟩ := List.mem_map.1 hb
  exact good_txt (hr x hxm) (hx x hxm)
theorem len_txts {xs : List Stp} (hx : ∀ x ∈ xs, Rng x) : ∀ b ∈ xs.map txtS, b.length ≤ 5000 := fun b hb => by
  obtain ⟨x, hxm, rfl⟩ := List.mem_map.1 hb
  exact Nat.le_trans (txtS_len (hx x hxm)) (by decide)
theorem again_at {xs : List Stp} (hx : ∀ x ∈ xs, Rng x) (hr : ∀ x ∈ xs, RightS x) {k : Nat} (hk : k < xs.length) : SEQ ((List.map stepOf (List.map txtS xs)).getD k zeroS) (xs.getD k zeroS) := by
  have hm : xs[k] ∈ xs := List.getElem_mem _
  rw [List.getD_eq_getElem?_getD, List.getD_eq_getElem?_getD, List.getElem?_map, List.getElem?_map, List.getElem?_eq_getElem hk]
  exact stepOf_txt (hr _ hm) (hx _ hm)
theorem mid_text (A B : List (List UInt8)) (b : List UInt8) : unl (A ++ b :: B) = ((unl A ++ b) ++ [10]) ++ unl B := by rw [unl_app, unl_cons]; simp
theorem noNl_mid {A B : List (List UInt8)} {b : List UInt8} (h1 : noNl A) (h2 : noNl B) (h3 : ¬ (10 : UInt8) ∈ b) : noNl (A ++ b :: B) := fun z hz => by
  rcases List.mem_append.1 hz with h | h
  · exact h1 z h
  · rcases List.mem_cons.1 h with rfl | h
    · exact h3
    · exact h2 z h
theorem no10_succ {b : List UInt8} {k : Nat} (h : ∀ j, j < k → ¬ b.getD j 0 = 10) (h2 : ¬ (((b.getD k 0).toNat : Nat) : Int) = 10) : ∀ j, j < k + 1 → ¬ b.getD j 0 = 10 := fun j hj e => by
  by_cases hjk : j = k
  · subst hjk; exact h2 (by rw [e]; rfl)
  · exact h j (by omega) e
theorem no10_all {b : List UInt8} {k : Nat} (h : ∀ j, j < k → ¬ b.getD j 0 = 10) (hk : b.length ≤ k) : ¬ (10 : UInt8) ∈ b := fun hm => by
  obtain ⟨j, hj, e⟩ := List.mem_iff_getElem.1 hm
  exact h j (by omega) (by rw [List.getD_eq_getElem?_getD, List.getElem?_eq_getElem hj]; exact e)
theorem memT {xs : List Stp} {P : Stp → Prop} (h : ∀ x ∈ xs, P x) (k : Nat) : ∀ x ∈ xs.take k, P x := fun x hx => h x (List.mem_of_mem_take hx)
theorem memD {xs : List Stp} {P : Stp → Prop} (h : ∀ x ∈ xs, P x) (k : Nat) : ∀ x ∈ xs.drop k, P x := fun x hx => h x (List.mem_of_mem_drop hx)
/-! ### a slice of steps that is handed in -/
theorem open_slice_plainA {H : Type} {enc : TypeId × Value → H} {P : Program} {w : World} {base : Nat} {spare : Nat → Bool} {held : Bool} {r : Reach} {b0 : Nat} {t e : TypeId} {ls : List Lf} {v : Value} {d : DataW H} {p : List MemPlace} (n : Nat) (ht : P.underlying t = some (.slice e)) (hp : plainA P n e = some ls) (hc : P.cellsOf e = ls.length)
    (hv : Value.okWide P w r b0 t v) (h : DataW.Trod enc P w base spare held t v d p) :
    ∃ (a : Option Addr) (len cap : Nat) (rows : List (List Value)), v = .slice a len cap ∧ len ≤ cap ∧ cap ≤ maxLen ∧ rowsAt w ls a len rows := by
  obtain ⟨a, len, cap, rfl⟩ := okWide_slice ht hv
  obtain ⟨fuel, hf⟩ := h
  rcases DataW.trod_slice ht hf with ⟨h0, _⟩ | ⟨a', len', cap', elems, rest, m, _, h1, _, hb, hl, hm, hlen, hel, hsp, hns⟩
  · simp [Value.cells] at h0
    obtain ⟨rfl, rfl, rfl⟩ := h0
    exact ⟨none, 0, 0, [], rfl, Nat.le_refl _, Nat.zero_le _, rfl, by simp, fun _ => rfl, fun b hb => by cases hb⟩
  · simp [Value.cells] at h1
    obtain ⟨rfl, rfl, rfl⟩ := h1
    have each : ∀ i, i < len → ∃ cs, w.cells? base (a'.add (i * P.cellsOf e)) (P.cellsOf e) = some cs ∧ fitsAll ls cs := by
      intro i hi
      have hx : i < elems.length := by omega
      have h2 := hel i hi
      rw [List.getElem?_eq_getElem hx] at h2
      cases h3 : w.cells? base (a'.add (i * P.cellsOf e)) (P.cellsOf e) with
      | none => rw [h3] at h2; cases h2
      | some cs =>
        rw [h3] at h2
        exact ⟨cs, rfl, trod_plainA n e ls _ _ _ hp h2⟩
    let row (i : Nat) : List Value := (w.cells? base (a'.add (i * P.cellsOf e)) (P.cellsOf e)).getD []
    refine ⟨some a', len, cap, (List.range len).map row, rfl, hl, hm, by simp, ?_, (fun hn => nomatch hn), ?_⟩
    · intro r hr
      obtain ⟨i, hi, rfl⟩ := List.mem_map.1 hr
      obtain ⟨cs, g1, g2⟩ := each i (List.mem_range.1 hi)
      show fitsAll ls ((w.cells? base (a'.add (i * P.cellsOf e)) (P.cellsOf e)).getD [])
      rw [g1]; exact g2
    · intro b hb i j v hv
      cases hb
      by_cases hi : i < len
      · obtain ⟨cs, g1, g2⟩ := each i hi
        have : ((List.range len).map row)[i]?.getD [] = cs := by
          simp [hi, row, g1]
        rw [this] at hv
        rw [← hc]
        exact (cells_row g1).2 j v hv
      · have : ((List.range len).map row)[i]?.getD [] = [] := by simp [hi]
        rw [this] at hv
        cases hv
open Classical in
noncomputable def decS (r : List Value) : Stp := if h : ∃ x : Stp, r = stepL x ∧ Rng x then h.choose else zeroS
theorem decS_of {r : List Value} (h : fitsAll stepLs r) : stepL (decS r) = r ∧ Rng (decS r) := by
  have h1 := step_of_fits h
  unfold decS
  rw [dif_pos h1]
  exact ⟨h1.choose_spec.1.symm, h1.choose_spec.2⟩
theorem steps_of_rows {w : World} {a : Option Addr} {len : Nat} {rows : List (List Value)} (h : rowsAt w stepLs a len rows) : ∃ l : List Stp, l.length = len ∧ RAt stepL 75 zeroS w a len l ∧ ∀ x ∈ l, Rng x := by
  obtain ⟨l, h1, h2, h3⟩ := rat_of_rows stepL 75 zeroS decS (fun r hr => (decS_of hr).1) rfl (by decide) h
  refine ⟨l, h1, h2, fun x hx => ?_⟩
  obtain ⟨r, hr, rfl⟩ := h3 x hx
  exact (decS_of hr).2
/-! ### a builder -/
section
variable {w0 w w' : World} {b n : Nat} {p v : Value} {l : List UInt8}
theorem bld_at (H : Hs [] w0 w [.blk b #[p, v] 93, .row v 5 1 n (Lib.byteCells l)]) (hn : n = l.length) : Lib.BuilderAt 93 5 w0.heap.size b p (Lib.byteCells l) w := by
  have hr : w.ownsRow 0 5 1 v n (Lib.byteCells l) := H.ok 1 _ rfl
  refine ⟨(H.my 0 _ rfl b (by simp [Res.fp])).resolve_left (by simp), v, H.ok 0 _ rfl, ?_, fun e => ?_⟩
  · rw [Lib.byteCells_length, ← hn]
    refine ⟨hr.1, ?_⟩
    rcases hr.2 with h | ⟨g, cap, cur, hv, _, r⟩
    · exact .inl h
    · exact .inr ⟨g, cap, cur, hv, (H.my 1 _ rfl g (by subst hv; simp [Res.fp, Value.ownBlock])).resolve_left (by simp), r⟩
  · exact H.ap 0 1 _ _ (by decide) rfl rfl b (by simp [Res.fp]) (by simp [Res.fp, e])
theorem frB (h : Fr [] w0 w) (k : Below w0.heap.size w w') : Fr [] w0 w' := ⟨k.os.trans h.os, k.tape.trans h.tape, k.output.trans h.output, Nat.le_trans h.size k.size, fun i hi hm => (k.block i hi).trans (h.block i hi hm)⟩
theorem bld_hs {L : List Res} (H : Hs [] w0 w L) (hb : Below w0.heap.size w w') (h : Lib.BuilderAt 93 5 w0.heap.size b p (Lib.byteCells l) w') : ∃ v', Hs [] w0 w' [.blk b #[p, v'] 93, .row v' 5 1 l.length (Lib.byteCells l)] := by
  obtain ⟨hB, v', hv, ho, hne⟩ := h
  rw [Lib.byteCells_length] at ho
  refine ⟨v', fun i r hi => ?_, fun i j r s hne' hi hj => ?_, fun i r hi => ?_, ?_⟩
  · match i, hi with
    | 0, hi => cases hi; exact hv
    | 1, hi =>
      cases hi
      refine ⟨ho.1, ?_⟩
      rcases ho.2 with h | ⟨g, cap, cur, hv, _, r⟩
      · exact .inl h
      · exact .inr ⟨g, cap, cur, hv, Nat.zero_le _, r⟩
    | i + 2, hi => simp at hi
  · have key : v'.ownBlock.toList.all (· != b) = true := by
      cases e : v'.ownBlock with
      | none => rfl
      | some g => rw [e] at hne; simp; intro e2; exact hne (by rw [e2])
    have k2 : ∀ g ∈ v'.ownBlock.toList, g ≠ b := fun g hg => by have := List.all_eq_true.1 key g hg; simpa using this
    match i, j, hi, hj with
    | 0, 0, _, _ => exact absurd rfl hne'
    | 1, 1, _, _ => exact absurd rfl hne'
    | 0, 1, hi, hj =>
      cases hi; cases hj; intro g hg hg2
      simp [Res.fp] at hg; subst hg
      exact k2 _ hg2 rfl
    | 1, 0, hi, hj =>
      cases hi; cases hj; intro g hg hg2
      simp [Res.fp] at hg2; subst hg2
      exact k2 _ hg rfl
    | i + 2, _, hi, _ => simp at hi
    | _, j + 2, _, hj => simp at hj
  · match i, hi with
    | 0, hi => cases hi; intro g hg; simp [Res.fp] at hg; subst hg; exact .inr hB
    | 1, hi => cases hi; intro g hg; exact .inr (World.ownsRow.lt ho g (by simpa [Res.fp] using hg)).1
    | i + 2, hi => simp at hi
  · exact frB H.fr hb
theorem WStr_of (H : Hs [] w0 w [.blk b #[p, v] 93, .row v 5 1 n (Lib.byteCells l)]) (hn : n = l.length) (hp : p = .pointer none ∨ p = .pointer (some ⟨b, 0, none⟩)) (s : List UInt8) (hl : l.length + s.length ≤ 140737488355328) :
    Calls Tryd.prog 46 #[.pointer (some ⟨b, 0, none⟩), S s] w fun e w' => ∃ v', e = .returned (.tuple #[.int .i64 ((s.length : Nat) : Int), .nilIface]) ∧ Hs [] w0 w' [.blk b #[.pointer (some ⟨b, 0, none⟩), v'] 93, .row v' 5 1 (l ++ s).length (Lib.byteCells (l ++ s))] := by
  have h0 := bld_at H hn
  have h1 : Lib.IsBuilder 93 5 w0.heap.size b (Lib.byteCells l) w := by
    rcases hp with rfl | rfl
    · exact .inl h0
    · exact .inr h0
  refine (Any.Builder_WriteString ({ Tryd.lays156 with }) Tryd.Builder_Extra_156 w0.heap.size b (Lib.byteCells l) ⟨s.toArray⟩ w h1 (by rw [Lib.byteCells_length]; exact hl) H.size).mono fun e w' ⟨he, h2, h3⟩ => ?_
  have e2 : Lib.byteCells l ++ Lib.strCells ⟨s.toArray⟩ = Lib.byteCells (l ++ s) := by simp [Lib.strCells_eq, Lib.byteCells]
  rw [e2] at h2
  obtain ⟨v', h4⟩ := bld_hs H h3 h2
  exact ⟨v', he, h4⟩
theorem BStr_of (H : Hs [] w0 w [.blk b #[p, v] 93, .row v 5 1 n (Lib.byteCells l)]) (hn : n = l.length) (hp : p = .pointer none ∨ p = .pointer (some ⟨b, 0, none⟩)) :
    Calls Tryd.prog 47 #[.pointer (some ⟨b, 0, none⟩)] w fun e w' => e = .returned (S l) ∧ Hs [] w0 w' [] := by
  have h0 := bld_at H hn
  have h1 : Lib.IsBuilder 93 5 w0.heap.size b (Lib.byteCells l) w := by
    rcases hp with rfl | rfl
    · exact .inl h0
    · exact .inr h0
  refine (Tryd.Builder_String_any w0.heap.size b l w h1 H.size).mono fun e w' ⟨he, h2⟩ => ⟨he, ?_⟩
  exact ⟨fun i r hi => by simp at hi, fun i j r s _ hi => by simp at hi, fun i r hi => by simp at hi, frB H.fr h2⟩
end
end Go.Proofs.YtjbaabffilejeaaDoor
