/- Contracts: inter.Page, lies, Index. -/
import Derived.Test.YtgpalgbdacoagaaRemapB
import Derived.Test.YtgpalgbdacoagaaPx2
namespace Go.Proofs.Ytgpalgbdacoagaa
open Go Go.RowKit
set_option linter.unusedVariables false
set_option linter.unusedSimpArgs false

def dg : Int → List Int → List Int
  | _, [] => []
  | n, b :: bs => n % b :: dg (n / b) bs
theorem cell3i (da db dc : Int) (k : Nat) (h : k < 3) : (#[Value.int .i64 da, .int .i64 db, .int .i64 dc] : Array Value)[k]? = some (.int .i64 (([da, db, dc] : List Int).getD k 0)) := by
  match k, h with
  | 0, _ => rfl
  | 1, _ => rfl
  | 2, _ => rfl
theorem pos3 {da db dc : Int} (ha : 1 ≤ da) (hb : 1 ≤ db) (hc : 1 ≤ dc) (k : Nat) (h : k < 3) : 1 ≤ ([da, db, dc] : List Int).getD k 0 := by
  match k, h with
  | 0, _ => exact ha
  | 1, _ => exact hb
  | 2, _ => exact hc
theorem dg3 (da db dc m : Int) (k : Nat) (h : k < 3) : dg m (([da, db, dc] : List Int).drop k) = m % ([da, db, dc] : List Int).getD k 0 :: dg (m / ([da, db, dc] : List Int).getD k 0) (([da, db, dc] : List Int).drop (k + 1)) := by
  match k, h with
  | 0, _ => rfl
  | 1, _ => rfl
  | 2, _ => rfl
theorem dg3' {da db dc m : Int} {k : Nat} {l X : List Int} (h : k < 3) (e : l ++ dg m (([da, db, dc] : List Int).drop k) = X) : (l ++ [m % ([da, db, dc] : List Int).getD k 0]) ++ dg (m / ([da, db, dc] : List Int).getD k 0) (([da, db, dc] : List Int).drop (k + 1)) = X := by
  rw [← e, dg3 da db dc m k h, List.append_assoc]; rfl
theorem div_bd {m q : Int} (h0 : 0 ≤ m) (h1 : m ≤ 9223372036854775807) (hq : 1 ≤ q) : 0 ≤ m / q ∧ m / q ≤ 9223372036854775807 :=
  ⟨Int.ediv_nonneg h0 (by omega), Int.le_trans (Int.ediv_le_self _ h0) h1⟩
theorem e_or (Z B X : Int) (k : Nat) (hk : k < 63) (hZ : Z = X * 2 ^ k) (h0 : 0 ≤ X) (h1 : Z ≤ 9223372036854775807) (h2 : 0 ≤ B) (h3 : B < 2 ^ k) : Value.int .i64 (bits .or .i64 Z B) = .int .i64 (Z + B) := by
  obtain ⟨x, rfl⟩ := Int.eq_ofNat_of_zero_le h0
  obtain ⟨y, rfl⟩ := Int.eq_ofNat_of_zero_le h2
  have hz : Z = ((x <<< k : Nat) : Int) := by rw [hZ, Nat.shiftLeft_eq, Int.natCast_mul, Int.natCast_pow]; rfl
  have hy : y < 2 ^ k := by exact_mod_cast h3
  have hy2 : y < 2 ^ 63 := Nat.lt_of_lt_of_le hy (Nat.pow_le_pow_right (by decide) (by omega))
  rw [hz] at h1 ⊢
  have hx : x <<< k < 2 ^ 63 := by
    obtain ⟨Zn, hZn⟩ : ∃ Zn, x <<< k = Zn := ⟨_, rfl⟩
    rw [hZn] at h1 ⊢
    omega
  rw [(bits_nat IntKind.i64 63 (by decide) (fun n h0 h1 => by rw [IntKind.wrap_i64]; omega) (x <<< k) y hx hy2).2, ← Nat.shiftLeft_add_eq_or_of_lt hy]
  rfl
theorem xor_nat (a b : Nat) (ha : a < 2 ^ 63) (hb : b < 2 ^ 63) : bits .xor .i64 (a : Int) (b : Int) = ((a ^^^ b : Nat) : Int) := by
  have ha' : a % 2 ^ 64 = a := Nat.mod_eq_of_lt (by omega)
  have hb' : b % 2 ^ 64 = b := Nat.mod_eq_of_lt (by omega)
  have hx := Nat.xor_lt_two_pow ha hb
  have e : (BitVec.ofNat 64 a ^^^ BitVec.ofNat 64 b).toNat = a ^^^ b := by rw [BitVec.toNat_xor, BitVec.toNat_ofNat, BitVec.toNat_ofNat, ha', hb']
  simp only [bits, IntKind.bits, BitVec.ofInt_natCast]
  exact (congrArg (fun n : Nat => IntKind.i64.wrap (n : Int)) e).trans (by show IntKind.i64.wrap ((a ^^^ b : Nat) : Int) = _; rw [IntKind.wrap_i64]; omega)
theorem xor_bd {b bk rw : Int} (hb : pwB b 16 = true) (h1 : 0 ≤ bk) (h2 : bk < b) (h3 : 0 ≤ rw) (h4 : rw ≤ 9223372036854775807) : 0 ≤ bits .xor .i64 bk (bits .and .i64 rw (b - 1)) ∧ bits .xor .i64 bk (bits .and .i64 rw (b - 1)) < b := by
  obtain ⟨k, hk, rfl, -⟩ := (pwB_iff b 16 (by decide)).1 hb
  have hm := bits_mask IntKind.i64 63 (by decide) (fun n h0 h1 => by rw [IntKind.wrap_i64]; omega) k (by omega) rw h3 (by omega)
  rw [hm]
  obtain ⟨x, rfl⟩ := Int.eq_ofNat_of_zero_le h1
  obtain ⟨y, rfl⟩ := Int.eq_ofNat_of_zero_le h3
  have hx : x < 2 ^ k := by exact_mod_cast h2
  have hy : y % 2 ^ k < 2 ^ k := Nat.mod_lt _ (Nat.two_pow_pos k)
  have hp : 2 ^ k ≤ 2 ^ 63 := Nat.pow_le_pow_right (by decide) (by omega)
  rw [show ((y : Int) % 2 ^ k) = ((y % 2 ^ k : Nat) : Int) by rw [Int.natCast_emod, Int.natCast_pow]; rfl, xor_nat x _ (by omega) (by omega)]
  have := Nat.xor_lt_two_pow hx hy
  exact ⟨Int.natCast_nonneg _, by exact_mod_cast this⟩
def pgRank (y r b o n : Int) : Int := if y = 0 then n / o / b % r else if y = 1 then n / b / o % r else n % r
def pgRow (y r b o n : Int) : Int := if y = 0 then n % o else if y = 1 then n / b % o else n / r / b % o
def pgBank0 (y r b o n : Int) : Int := if y = 0 then n / o % b else if y = 1 then n % b else n / r % b
def pgBank (y r b o n : Int) : Int := if y = 3 then bits .xor .i64 (pgBank0 y r b o n) (bits .and .i64 (pgRow y r b o n) (b - 1)) else pgBank0 y r b o n
def pgAt (y r b o n : Int) : Int := pgRank y r b o n * 16384 + pgBank y r b o n * 1024 + pgRow y r b o n
theorem emod_bd {x q : Int} (hq : 1 ≤ q) : 0 ≤ x % q ∧ x % q < q := ⟨Int.emod_nonneg _ (by omega), Int.emod_lt_of_pos _ (by omega)⟩
theorem pg_bd {r s b o c : Int} (y n : Int) (hg : geomOk r s b o c = true) : (0 ≤ pgRank y r b o n ∧ pgRank y r b o n < r) ∧ (0 ≤ pgBank y r b o n ∧ pgBank y r b o n < b) ∧ (0 ≤ pgRow y r b o n ∧ pgRow y r b o n < o) := by
  obtain ⟨⟨d1, _⟩, _, ⟨d3, _⟩, ⟨d4, d5⟩, _, _⟩ := geom_bd hg
  have hb : pwB b 16 = true := by
    unfold geomOk at hg
    simp only [Bool.and_eq_true] at hg
    exact hg.2.2.2.1
  have hr : 0 ≤ pgRow y r b o n ∧ pgRow y r b o n < o := by unfold pgRow; split; exact emod_bd d4; split <;> exact emod_bd d4
  have hk : 0 ≤ pgBank0 y r b o n ∧ pgBank0 y r b o n < b := by unfold pgBank0; split; exact emod_bd d3; split <;> exact emod_bd d3
  refine ⟨?_, ?_, hr⟩
  · unfold pgRank; split; exact emod_bd d1; split <;> exact emod_bd d1
  · unfold pgBank; split
    · exact xor_bd hb hk.1 hk.2 hr.1 (by omega)
    · exact hk

set_option maxRecDepth 100000 in
set_option maxHeartbeats 1000000 in
theorem digits_w (n da db dc : Int) (h0 : 0 ≤ n) (h1 : n ≤ 9223372036854775807) (ha : 1 ≤ da) (hb : 1 ≤ db) (hc : 1 ≤ dc) (gb cb : Nat) (w0 : World) (hR : Ro w0 [.blk gb #[.int .i64 da, .int .i64 db, .int .i64 dc] 3]) :
    Calls Try.prog 177 #[.int .i64 n, .slice (some ⟨gb, 0, none⟩) 3 cb] w0 fun e w' => ∃ gx cx, e = .returned (.slice (some ⟨gx, 0, none⟩) 3 cx) ∧ Hs [] w0 w' [.row (.slice (some ⟨gx, 0, none⟩) 3 cx) 3 1 3 (List.map (Value.int .i64) (dg n [da, db, dc]))] := by
  refine x_enter Try.func177 rfl #[.int .i64 n, .slice (some ⟨gb, 0, none⟩) 3 cb, undef, undef, undef, undef, undef, undef, undef, undef, undef, undef, undef, undef, undef, undef, undef, undef, undef, undef, undef, undef, undef, undef, undef] (by kernel_rfl) ?_
  have H := Hs.nil w0
  have R0 := hR
  refine x_seq ?_
  refine x_region ?_
  refine x_val (.slice none 0 0) (by kernel_rfl) rfl (by kernel_rfl) ?_
  refine x_nil ?_
  refine x_then ?_
  refine x_seq ?_
  refine x_region ?_
  refine x_val (.slice none 0 0) (by kernel_rfl) rfl (by kernel_rfl) ?_
  refine x_nil ?_
  refine x_then ?_
  refine x_seq ?_
  refine x_seq ?_
  refine x_region ?_
  refine x_val (.slice (some ⟨gb, 0, none⟩) 3 cb) (by kernel_rfl) rfl (by kernel_rfl) ?_
  refine x_val (.int .i64 3) (by kernel_rfl) rfl (by kernel_rfl) ?_
  refine x_val (.int .i64 0) (by kernel_rfl) rfl (by kernel_rfl) ?_
  refine x_nil ?_
  refine x_then ?_
  refine x_block ?_
  replace H := H.nilRow 3 1
  refine x_loop (G := Nat × Int × Value × List Int) (fun gh a w' => match gh with | (k, m, vl, l) => ∃ u7 : Value, ∃ u11 : Value, ∃ u12 : Value, ∃ u13 : Value, ∃ u14 : Value, ∃ u15 : Value, ∃ u16 : Value, ∃ u17 : Value, ∃ u18 : Value, ∃ u19 : Value, ∃ u20 : Value, ∃ u21 : Value, ∃ u22 : Value, ∃ u23 : Value, a = { tmps := #[.int .i64 m, .slice (some ⟨gb, 0, none⟩) 3 cb, undef, undef, .slice none 0 0, vl, undef, u7, .slice (some ⟨gb, 0, none⟩) 3 cb, .int .i64 3, .int .i64 ((k : Nat) : Int), u11, u12, u13, u14, u15, u16, u17, u18, u19, u20, u21, u22, u23, undef], defers := [] } ∧ Hs [] w0 w' [.row (vl) 3 1 k (List.map (Value.int .i64) l)] ∧ (l ++ dg m (([da, db, dc] : List Int).drop k) = dg n [da, db, dc]) ∧ (0 ≤ m ∧ m ≤ 9223372036854775807) ∧ (k ≤ 3)) (fun gh => match gh with | (k, m, vl, l) => 3 - k) (0, n, .slice none 0 0, []) ⟨undef, undef, undef, undef, undef, undef, undef, undef, undef, undef, undef, undef, undef, undef, (by kernel_rfl), H, rfl, ⟨h0, h1⟩, (by decide)⟩ ?_
  clear H
  rintro ⟨k, m, vl, l⟩ _ v1 ⟨u7, u11, u12, u13, u14, u15, u16, u17, u18, u19, u20, u21, u22, u23, rfl, H, r1, r2, r3⟩
  obtain ⟨m0, m1⟩ := r2
  refine x_seq ?_
  refine x_region ?_
  refine x_val (.bool (decide (((k : Nat) : Int) < 3))) (by kernel_rfl) rfl (by kernel_rfl) ?_
  refine x_nil ?_
  refine x_then ?_
  refine x_seq ?_
  cases h1 : decide (((k : Nat) : Int) < 3)
  · skip
    have h1p := of_decide_eq_false h1
    refine x_f (by kernel_rfl) ?_
    refine x_exit ?_
    refine x_then_exit ?_
    refine x_then_exit ?_
    refine x_blk_exit ?_
    refine x_then ?_
    refine x_seq ?_
    refine x_region ?_
    refine x_val (vl) (by kernel_rfl) rfl (by kernel_rfl) ?_
    refine x_val (vl) (by kernel_rfl) rfl (by kernel_rfl) ?_
    refine x_nil ?_
    refine x_then ?_
    refine x_retc ?_
    refine x_ret (vl) (by kernel_rfl) (by kernel_rfl) ?_
    obtain rfl : k = 3 := by omega
    obtain rfl : l = dg n [da, db, dc] := by rw [← r1]; simp [dg]
    obtain ⟨gx, cx, rfl, -⟩ := rowSome (H.ok 0 _ rfl) (by decide)
    exact ⟨gx, cx, rfl, H.pick [0] _ (by decide) rfl⟩
  · skip
    have h1p := of_decide_eq_true h1
    refine x_t (by kernel_rfl) ?_
    refine x_skipc ?_
    refine x_then ?_
    refine x_seq ?_
    refine x_block ?_
    refine x_seq ?_
    refine x_region ?_
    refine x_ix (t := 106) gb 0 k 3 cb 3 1 k (by omega) (by omega) (by kernel_rfl) (by kernel_rfl) (by kernel_rfl) rfl (by kernel_rfl) ?_
    refine x_loadc gb k (.int .i64 (([da, db, dc] : List Int).getD k 0)) ((H.ro R0).cell 0 rfl k (cell3i da db dc k (by omega))) (by kernel_rfl) rfl (by kernel_rfl) ?_
    refine x_val (.int .i64 (([da, db, dc] : List Int).getD k 0)) (by kernel_rfl) rfl (by kernel_rfl) ?_
    refine x_nil ?_
    refine x_then ?_
    refine x_seq ?_
    refine x_region ?_
    refine x_val (vl) (by kernel_rfl) rfl (by kernel_rfl) ?_
    refine x_val (.int .i64 m) (by kernel_rfl) rfl (by kernel_rfl) ?_
    refine x_val (.int .i64 (([da, db, dc] : List Int).getD k 0)) (by kernel_rfl) rfl (by kernel_rfl) ?_
    have hq := pos3 ha hb hc k (by omega)
    refine x_rem m (([da, db, dc] : List Int).getD k 0) (m % (([da, db, dc] : List Int).getD k 0)) rfl (by omega) (by omega) (by kernel_rfl) rfl (by kernel_rfl) ?_
    refine x_box' H #[.int .i64 (m % (([da, db, dc] : List Int).getD k 0))] 3 1 (by kernel_rfl) rfl (by kernel_rfl) ?_
    clear H
    intro v2 g1 H
    refine x_append H 1 (vl) 106 3 1 8 k (.int .i64 0) (List.map (Value.int .i64) l) ⟨g1, 0, none⟩ 1 1 [.int .i64 (m % (([da, db, dc] : List Int).getD k 0))] rfl (by kernel_rfl) (by kernel_rfl) rfl (by decide) (by decide) rfl (fun j u hj => by rw [add_none]; exact cellOf (H.blk 0 rfl) (by simpa using hj)) (List.all_eq_true.1 (by kernel_rfl)) (by unfold maxLen; omega) (by omega) (by kernel_rfl) rfl (by kernel_rfl) ?_
    clear H
    intro v3 g2 c2 hc2 H
    rw [show (List.map (Value.int .i64) l) ++ [.int .i64 (m % (([da, db, dc] : List Int).getD k 0))] = (List.map (Value.int .i64) (l ++ [m % (([da, db, dc] : List Int).getD k 0)])) from (by rw [List.map_append]; rfl)] at H
    replace H : Hs [] w0 v3 [.blk g1 #[.int .i64 (m % (([da, db, dc] : List Int).getD k 0))] 3, .row (.slice (some ⟨g2, 0, none⟩) (k + 1) c2) 3 1 (k + 1) (List.map (Value.int .i64) (l ++ [m % (([da, db, dc] : List Int).getD k 0)]))] := H
    replace H := H.pick [1] [.row (.slice (some ⟨g2, 0, none⟩) (k + 1) c2) 3 1 (k + 1) (List.map (Value.int .i64) (l ++ [m % (([da, db, dc] : List Int).getD k 0)]))] (by decide) (by kernel_rfl)
    refine x_val (.slice (some ⟨g2, 0, none⟩) (k + 1) c2) (by kernel_rfl) rfl (by kernel_rfl) ?_
    refine x_nil ?_
    refine x_then ?_
    refine x_region ?_
    refine x_val (.int .i64 m) (by kernel_rfl) rfl (by kernel_rfl) ?_
    refine x_val (.int .i64 (([da, db, dc] : List Int).getD k 0)) (by kernel_rfl) rfl (by kernel_rfl) ?_
    refine x_quo m (([da, db, dc] : List Int).getD k 0) (m / (([da, db, dc] : List Int).getD k 0)) rfl (by omega) ⟨by omega, by omega⟩ (by kernel_rfl) rfl (by kernel_rfl) ?_
    refine x_val (.int .i64 (m / (([da, db, dc] : List Int).getD k 0))) (by kernel_rfl) rfl (by kernel_rfl) ?_
    refine x_nil ?_
    refine x_frame' { tmps := #[.int .i64 (m / (([da, db, dc] : List Int).getD k 0)), .slice (some ⟨gb, 0, none⟩) 3 cb, undef, undef, .slice none 0 0, .slice (some ⟨g2, 0, none⟩) (k + 1) c2, undef, .int .i64 (([da, db, dc] : List Int).getD k 0), .slice (some ⟨gb, 0, none⟩) 3 cb, .int .i64 3, .int .i64 ((k : Nat) : Int), .bool true, .pointer (some ⟨gb, k, none⟩), .int .i64 (([da, db, dc] : List Int).getD k 0), vl, .int .i64 m, .int .i64 (([da, db, dc] : List Int).getD k 0), .int .i64 (m % (([da, db, dc] : List Int).getD k 0)), .slice (some ⟨g1, 0, none⟩) 1 1, .slice (some ⟨g2, 0, none⟩) (k + 1) c2, .int .i64 m, .int .i64 (([da, db, dc] : List Int).getD k 0), .int .i64 (m / (([da, db, dc] : List Int).getD k 0)), u23, undef], defers := [] } (by kernel_rfl) ?_
    refine x_blk ?_
    refine x_then ?_
    refine x_region ?_
    refine x_ar (((k : Nat) : Int) + 1) ⟨by omega, by omega⟩ (by kernel_rfl) rfl (by kernel_rfl) ?_
    refine x_val (.int .i64 (((k : Nat) : Int) + 1)) (by kernel_rfl) rfl (by kernel_rfl) ?_
    refine x_nil ?_
    refine x_then ?_
    exact ⟨(k + 1, m / ([da, db, dc] : List Int).getD k 0, .slice (some ⟨g2, 0, none⟩) (k + 1) c2, (l ++ [m % (([da, db, dc] : List Int).getD k 0)])), (by dsimp only; omega), (.int .i64 (([da, db, dc] : List Int).getD k 0)), (.bool true), (.pointer (some ⟨gb, k, none⟩)), (.int .i64 (([da, db, dc] : List Int).getD k 0)), vl, (.int .i64 m), (.int .i64 (([da, db, dc] : List Int).getD k 0)), (.int .i64 (m % (([da, db, dc] : List Int).getD k 0))), (.slice (some ⟨g1, 0, none⟩) 1 1), (.slice (some ⟨g2, 0, none⟩) (k + 1) c2), (.int .i64 m), (.int .i64 (([da, db, dc] : List Int).getD k 0)), (.int .i64 (m / (([da, db, dc] : List Int).getD k 0))), (.int .i64 (((k : Nat) : Int) + 1)), (by kernel_rfl), H, (dg3' (by omega) r1), (div_bd m0 m1 (by omega)), (by omega)⟩

set_option maxRecDepth 100000 in
set_option maxHeartbeats 1000000 in
theorem gbelow_any (i n : Int) (w0 : World) :
    Calls Try.prog 157 #[.int .i64 i, .int .i64 n] w0 fun e w' => e = .returned (.bool (decide (0 ≤ i) && decide (i < n))) ∧ Below w0.heap.size w0 w' := by
  refine x_enter Try.func157 rfl #[.int .i64 i, .int .i64 n, undef, undef, undef, undef, undef, undef, undef, undef, undef, undef] (by kernel_rfl) ?_
  have H := Hs.nil w0
  refine x_seq ?_
  refine x_region ?_
  refine x_val (.bool false) (by kernel_rfl) rfl (by kernel_rfl) ?_
  refine x_nil ?_
  refine x_then ?_
  refine x_seq ?_
  refine x_region ?_
  refine x_val (.int .i64 i) (by kernel_rfl) rfl (by kernel_rfl) ?_
  refine x_val (.bool (decide (0 ≤ i))) (by kernel_rfl) rfl (by kernel_rfl) ?_
  refine x_val (.bool (decide (0 ≤ i))) (by kernel_rfl) rfl (by kernel_rfl) ?_
  cases h1 : decide (0 ≤ i)
  · skip
    have h1p := of_decide_eq_false h1
    refine x_skip (by kernel_rfl) ?_
    refine x_skip (by kernel_rfl) ?_
    refine x_skip (by kernel_rfl) ?_
    refine x_val (.bool false) (by kernel_rfl) rfl (by kernel_rfl) ?_
    refine x_val (.bool false) (by kernel_rfl) rfl (by kernel_rfl) ?_
    refine x_nil ?_
    refine x_then ?_
    refine x_retc ?_
    refine x_ret (.bool false) (by kernel_rfl) (by kernel_rfl) ?_
    exact ⟨by simp [h1], H.below⟩
  · skip
    have h1p := of_decide_eq_true h1
    refine x_val (.int .i64 i) (by kernel_rfl) rfl (by kernel_rfl) ?_
    refine x_val (.int .i64 n) (by kernel_rfl) rfl (by kernel_rfl) ?_
    refine x_val (.bool (decide (i < n))) (by kernel_rfl) rfl (by kernel_rfl) ?_
    refine x_val (.bool (decide (i < n))) (by kernel_rfl) rfl (by kernel_rfl) ?_
    refine x_val (.bool (decide (i < n))) (by kernel_rfl) rfl (by kernel_rfl) ?_
    refine x_nil ?_
    refine x_then ?_
    refine x_retc ?_
    refine x_ret (.bool (decide (i < n))) (by kernel_rfl) (by kernel_rfl) ?_
    exact ⟨by simp [h1], H.below⟩

set_option maxRecDepth 100000 in
set_option maxHeartbeats 1000000 in
theorem Holds_in {r s b o c rk bk rw cl : Int} (hg : geomOk r s b o c = true) (q1 : 0 ≤ rk ∧ rk < r + s) (q2 : 0 ≤ bk ∧ bk < b) (q3 : 0 ≤ rw ∧ rw < o) (q4 : 0 ≤ cl ∧ cl < c) (w0 : World) :
    Calls Try.prog 116 #[.agg #[.int .i64 r, .int .i64 s, .int .i64 b, .int .i64 o, .int .i64 c], .agg #[.int .i64 rk, .int .i64 bk, .int .i64 rw, .int .i64 cl]] w0 fun e w' => e = .returned (.bool true) ∧ Below w0.heap.size w0 w' := by
  refine x_enter Try.func116 rfl #[.agg #[.int .i64 r, .int .i64 s, .int .i64 b, .int .i64 o, .int .i64 c], .agg #[.int .i64 rk, .int .i64 bk, .int .i64 rw, .int .i64 cl], undef, undef, undef, undef, undef, undef, undef, undef, undef, undef, undef, undef, undef, undef, undef, undef, undef, undef, undef, undef, undef, undef, undef, undef, undef, undef, undef, undef, undef, undef, undef, undef, undef, undef, undef, undef] (by kernel_rfl) ?_
  have H := Hs.nil w0
  obtain ⟨⟨d1, d2⟩, ⟨d3, d4⟩, ⟨d5, d6⟩, ⟨d7, d8⟩, ⟨d9, d10⟩, _⟩ := geom_bd hg
  have kq1 : (decide (0 ≤ rk) && decide (rk < (r + s))) = true := by simp; omega
  have kq2 : (decide (0 ≤ bk) && decide (bk < b)) = true := by simp; omega
  have kq3 : (decide (0 ≤ rw) && decide (rw < o)) = true := by simp; omega
  have kq4 : (decide (0 ≤ cl) && decide (cl < c)) = true := by simp; omega
  refine x_seq ?_
  refine x_region ?_
  refine x_box H #[.int .i64 r, .int .i64 s, .int .i64 b, .int .i64 o, .int .i64 c] 67 (by kernel_rfl) rfl (by kernel_rfl) ?_
  clear H
  intro v1 g1 H
  refine x_box H #[.int .i64 rk, .int .i64 bk, .int .i64 rw, .int .i64 cl] 113 (by kernel_rfl) rfl (by kernel_rfl) ?_
  clear H
  intro v2 g2 H
  refine x_val (.bool false) (by kernel_rfl) rfl (by kernel_rfl) ?_
  refine x_nil ?_
  refine x_then ?_
  refine x_seq ?_
  refine x_region ?_
  refine x_loadn (t := 67) H 1 g1 0 #[.int .i64 r, .int .i64 s, .int .i64 b, .int .i64 o, .int .i64 c] 67 [.int .i64 r, .int .i64 s, .int .i64 b, .int .i64 o, .int .i64 c] (by kernel_rfl) (by kernel_rfl) (by kernel_rfl) rfl (by kernel_rfl) (by kernel_rfl) ?_
  refine x_callB (.bool (geomOk r s b o c)) H (by kernel_rfl) rfl (by kernel_rfl) (gRight_any _ _ _ _ _ (by omega) (by omega) (by omega) (by omega) _) ?_
  clear H
  intro v3 H
  refine x_val (.bool (geomOk r s b o c)) (by kernel_rfl) rfl (by kernel_rfl) ?_
  rw [hg]
  refine x_val (.pointer (some ⟨g2, 0, none⟩)) (by kernel_rfl) rfl (by kernel_rfl) ?_
  refine x_load1 H 0 g2 0 #[.int .i64 rk, .int .i64 bk, .int .i64 rw, .int .i64 cl] 113 (.int .i64 rk) (by kernel_rfl) (by kernel_rfl) (by kernel_rfl) rfl (by kernel_rfl) ?_
  refine x_val (.pointer (some ⟨g1, 0, none⟩)) (by kernel_rfl) rfl (by kernel_rfl) ?_
  refine x_load1 H 1 g1 0 #[.int .i64 r, .int .i64 s, .int .i64 b, .int .i64 o, .int .i64 c] 67 (.int .i64 r) (by kernel_rfl) (by kernel_rfl) (by kernel_rfl) rfl (by kernel_rfl) ?_
  refine x_val (.pointer (some ⟨g1, 1, none⟩)) (by kernel_rfl) rfl (by kernel_rfl) ?_
  refine x_load1 H 1 g1 1 #[.int .i64 r, .int .i64 s, .int .i64 b, .int .i64 o, .int .i64 c] 67 (.int .i64 s) (by kernel_rfl) (by kernel_rfl) (by kernel_rfl) rfl (by kernel_rfl) ?_
  refine x_ar (r + s) ⟨by omega, by omega⟩ (by kernel_rfl) rfl (by kernel_rfl) ?_
  refine x_callB (.bool (decide (0 ≤ rk) && decide (rk < (r + s)))) H (by kernel_rfl) rfl (by kernel_rfl) (gbelow_any _ _ _) ?_
  clear H
  intro v4 H
  refine x_val (.bool (decide (0 ≤ rk) && decide (rk < (r + s)))) (by kernel_rfl) rfl (by kernel_rfl) ?_
  refine x_val (.bool (decide (0 ≤ rk) && decide (rk < (r + s)))) (by kernel_rfl) rfl (by kernel_rfl) ?_
  rw [kq1]
  refine x_val (.pointer (some ⟨g2, 1, none⟩)) (by kernel_rfl) rfl (by kernel_rfl) ?_
  refine x_load1 H 0 g2 1 #[.int .i64 rk, .int .i64 bk, .int .i64 rw, .int .i64 cl] 113 (.int .i64 bk) (by kernel_rfl) (by kernel_rfl) (by kernel_rfl) rfl (by kernel_rfl) ?_
  refine x_val (.pointer (some ⟨g1, 2, none⟩)) (by kernel_rfl) rfl (by kernel_rfl) ?_
  refine x_load1 H 1 g1 2 #[.int .i64 r, .int .i64 s, .int .i64 b, .int .i64 o, .int .i64 c] 67 (.int .i64 b) (by kernel_rfl) (by kernel_rfl) (by kernel_rfl) rfl (by kernel_rfl) ?_
  refine x_callB (.bool (decide (0 ≤ bk) && decide (bk < b))) H (by kernel_rfl) rfl (by kernel_rfl) (gbelow_any _ _ _) ?_
  clear H
  intro v5 H
  refine x_val (.bool (decide (0 ≤ bk) && decide (bk < b))) (by kernel_rfl) rfl (by kernel_rfl) ?_
  refine x_val (.bool (decide (0 ≤ bk) && decide (bk < b))) (by kernel_rfl) rfl (by kernel_rfl) ?_
  rw [kq2]
  refine x_val (.pointer (some ⟨g2, 2, none⟩)) (by kernel_rfl) rfl (by kernel_rfl) ?_
  refine x_load1 H 0 g2 2 #[.int .i64 rk, .int .i64 bk, .int .i64 rw, .int .i64 cl] 113 (.int .i64 rw) (by kernel_rfl) (by kernel_rfl) (by kernel_rfl) rfl (by kernel_rfl) ?_
  refine x_val (.pointer (some ⟨g1, 3, none⟩)) (by kernel_rfl) rfl (by kernel_rfl) ?_
  refine x_load1 H 1 g1 3 #[.int .i64 r, .int .i64 s, .int .i64 b, .int .i64 o, .int .i64 c] 67 (.int .i64 o) (by kernel_rfl) (by kernel_rfl) (by kernel_rfl) rfl (by kernel_rfl) ?_
  refine x_callB (.bool (decide (0 ≤ rw) && decide (rw < o))) H (by kernel_rfl) rfl (by kernel_rfl) (gbelow_any _ _ _) ?_
  clear H
  intro v6 H
  refine x_val (.bool (decide (0 ≤ rw) && decide (rw < o))) (by kernel_rfl) rfl (by kernel_rfl) ?_
  refine x_val (.bool (decide (0 ≤ rw) && decide (rw < o))) (by kernel_rfl) rfl (by kernel_rfl) ?_
  rw [kq3]
  refine x_val (.pointer (some ⟨g2, 3, none⟩)) (by kernel_rfl) rfl (by kernel_rfl) ?_
  refine x_load1 H 0 g2 3 #[.int .i64 rk, .int .i64 bk, .int .i64 rw, .int .i64 cl] 113 (.int .i64 cl) (by kernel_rfl) (by kernel_rfl) (by kernel_rfl) rfl (by kernel_rfl) ?_
  refine x_val (.pointer (some ⟨g1, 4, none⟩)) (by kernel_rfl) rfl (by kernel_rfl) ?_
  refine x_load1 H 1 g1 4 #[.int .i64 r, .int .i64 s, .int .i64 b, .int .i64 o, .int .i64 c] 67 (.int .i64 c) (by kernel_rfl) (by kernel_rfl) (by kernel_rfl) rfl (by kernel_rfl) ?_
  refine x_callB (.bool (decide (0 ≤ cl) && decide (cl < c))) H (by kernel_rfl) rfl (by kernel_rfl) (gbelow_any _ _ _) ?_
  clear H
  intro v7 H
  refine x_val (.bool (decide (0 ≤ cl) && decide (cl < c))) (by kernel_rfl) rfl (by kernel_rfl) ?_
  refine x_val (.bool (decide (0 ≤ cl) && decide (cl < c))) (by kernel_rfl) rfl (by kernel_rfl) ?_
  refine x_nil ?_
  refine x_frame' { tmps := #[.agg #[.int .i64 r, .int .i64 s, .int .i64 b, .int .i64 o, .int .i64 c], .agg #[.int .i64 rk, .int .i64 bk, .int .i64 rw, .int .i64 cl], .pointer (some ⟨g1, 0, none⟩), .pointer (some ⟨g2, 0, none⟩), .bool (decide (0 ≤ cl) && decide (cl < c)), .agg #[.int .i64 r, .int .i64 s, .int .i64 b, .int .i64 o, .int .i64 c], .bool true, .bool true, .pointer (some ⟨g2, 0, none⟩), .int .i64 rk, .pointer (some ⟨g1, 0, none⟩), .int .i64 r, .pointer (some ⟨g1, 1, none⟩), .int .i64 s, .int .i64 (r + s), .bool true, .bool true, .bool true, .pointer (some ⟨g2, 1, none⟩), .int .i64 bk, .pointer (some ⟨g1, 2, none⟩), .int .i64 b, .bool true, .bool true, .bool true, .pointer (some ⟨g2, 2, none⟩), .int .i64 rw, .pointer (some ⟨g1, 3, none⟩), .int .i64 o, .bool true, .bool true, .bool true, .pointer (some ⟨g2, 3, none⟩), .int .i64 cl, .pointer (some ⟨g1, 4, none⟩), .int .i64 c, .bool (decide (0 ≤ cl) && decide (cl < c)), .bool (decide (0 ≤ cl) && decide (cl < c))], defers := [] } (by kernel_rfl) ?_
  refine x_then ?_
  refine x_retc ?_
  refine x_ret (.bool (decide (0 ≤ cl) && decide (cl < c))) (by kernel_rfl) (by kernel_rfl) ?_
  exact ⟨by rw [kq4], H.below⟩

set_option maxRecDepth 100000 in
set_option maxHeartbeats 1000000 in
theorem index_in {r s b o c rk bk rw cl : Int} (hg : geomOk r s b o c = true) (q1 : 0 ≤ rk ∧ rk < r + s) (q2 : 0 ≤ bk ∧ bk < b) (q3 : 0 ≤ rw ∧ rw < o) (q4 : 0 ≤ cl ∧ cl < c) (w0 : World) :
    Calls Try.prog 180 #[.agg #[.int .i64 rk, .int .i64 bk, .int .i64 rw, .int .i64 cl]] w0 fun e w' => e = .returned (.int .i64 (rk * 1048576 + bk * 65536 + rw * 64 + cl)) ∧ Below w0.heap.size w0 w' := by
  refine x_enter Try.func180 rfl #[.agg #[.int .i64 rk, .int .i64 bk, .int .i64 rw, .int .i64 cl], undef, undef, undef, undef, undef, undef, undef, undef, undef, undef, undef, undef, undef, undef, undef, undef] (by kernel_rfl) ?_
  have H := Hs.nil w0
  obtain ⟨⟨d1, d2⟩, ⟨d3, d4⟩, ⟨d5, d6⟩, ⟨d7, d8⟩, ⟨d9, d10⟩, _⟩ := geom_bd hg
  have kq1 : (decide (0 ≤ rk) && decide (rk < (r + s))) = true := by simp; omega
  have kq2 : (decide (0 ≤ bk) && decide (bk < b)) = true := by simp; omega
  have kq3 : (decide (0 ≤ rw) && decide (rw < o)) = true := by simp; omega
  have kq4 : (decide (0 ≤ cl) && decide (cl < c)) = true := by simp; omega
  refine x_seq ?_
  refine x_region ?_
  refine x_box H #[.int .i64 rk, .int .i64 bk, .int .i64 rw, .int .i64 cl] 113 (by kernel_rfl) rfl (by kernel_rfl) ?_
  clear H
  intro v1 g1 H
  refine x_val (.int .i64 0) (by kernel_rfl) rfl (by kernel_rfl) ?_
  refine x_nil ?_
  refine x_then ?_
  refine x_seq ?_
  refine x_region ?_
  refine x_val (.pointer (some ⟨g1, 0, none⟩)) (by kernel_rfl) rfl (by kernel_rfl) ?_
  refine x_load1 H 0 g1 0 #[.int .i64 rk, .int .i64 bk, .int .i64 rw, .int .i64 cl] 113 (.int .i64 rk) (by kernel_rfl) (by kernel_rfl) (by kernel_rfl) rfl (by kernel_rfl) ?_
  refine x_ar (rk * 1048576) ⟨by omega, by omega⟩ (by kernel_rfl) rfl (by kernel_rfl) ?_
  refine x_val (.pointer (some ⟨g1, 1, none⟩)) (by kernel_rfl) rfl (by kernel_rfl) ?_
  refine x_load1 H 0 g1 1 #[.int .i64 rk, .int .i64 bk, .int .i64 rw, .int .i64 cl] 113 (.int .i64 bk) (by kernel_rfl) (by kernel_rfl) (by kernel_rfl) rfl (by kernel_rfl) ?_
  refine x_ar (bk * 65536) ⟨by omega, by omega⟩ (by kernel_rfl) rfl (by kernel_rfl) ?_
  refine x_eq (.int .i64 (rk * 1048576 + bk * 65536)) (e_or _ _ (rk) 20 (by decide) rfl (by omega) (by omega) (by omega) (by omega)) (by kernel_rfl) rfl (by kernel_rfl) ?_
  refine x_val (.pointer (some ⟨g1, 2, none⟩)) (by kernel_rfl) rfl (by kernel_rfl) ?_
  refine x_load1 H 0 g1 2 #[.int .i64 rk, .int .i64 bk, .int .i64 rw, .int .i64 cl] 113 (.int .i64 rw) (by kernel_rfl) (by kernel_rfl) (by kernel_rfl) rfl (by kernel_rfl) ?_
  refine x_ar (rw * 64) ⟨by omega, by omega⟩ (by kernel_rfl) rfl (by kernel_rfl) ?_
  refine x_eq (.int .i64 (rk * 1048576 + bk * 65536 + rw * 64)) (e_or _ _ (rk * 16 + bk) 16 (by decide) (by omega) (by omega) (by omega) (by omega) (by omega)) (by kernel_rfl) rfl (by kernel_rfl) ?_
  refine x_val (.pointer (some ⟨g1, 3, none⟩)) (by kernel_rfl) rfl (by kernel_rfl) ?_
  refine x_load1 H 0 g1 3 #[.int .i64 rk, .int .i64 bk, .int .i64 rw, .int .i64 cl] 113 (.int .i64 cl) (by kernel_rfl) (by kernel_rfl) (by kernel_rfl) rfl (by kernel_rfl) ?_
  refine x_eq (.int .i64 (rk * 1048576 + bk * 65536 + rw * 64 + cl)) (e_or _ _ (rk * 16384 + bk * 1024 + rw) 6 (by decide) (by omega) (by omega) (by omega) (by omega) (by omega)) (by kernel_rfl) rfl (by kernel_rfl) ?_
  refine x_val (.int .i64 (rk * 1048576 + bk * 65536 + rw * 64 + cl)) (by kernel_rfl) rfl (by kernel_rfl) ?_
  refine x_nil ?_
  refine x_frame' { tmps := #[.agg #[.int .i64 rk, .int .i64 bk, .int .i64 rw, .int .i64 cl], .pointer (some ⟨g1, 0, none⟩), .int .i64 (rk * 1048576 + bk * 65536 + rw * 64 + cl), .pointer (some ⟨g1, 0, none⟩), .int .i64 rk, .int .i64 (rk * 1048576), .pointer (some ⟨g1, 1, none⟩), .int .i64 bk, .int .i64 (bk * 65536), .int .i64 (rk * 1048576 + bk * 65536), .pointer (some ⟨g1, 2, none⟩), .int .i64 rw, .int .i64 (rw * 64), .int .i64 (rk * 1048576 + bk * 65536 + rw * 64), .pointer (some ⟨g1, 3, none⟩), .int .i64 cl, .int .i64 (rk * 1048576 + bk * 65536 + rw * 64 + cl)], defers := [] } (by kernel_rfl) ?_
  refine x_then ?_
  refine x_retc ?_
  refine x_ret (.int .i64 (rk * 1048576 + bk * 65536 + rw * 64 + cl)) (by kernel_rfl) (by kernel_rfl) ?_
  exact ⟨rfl, H.below⟩

set_option maxRecDepth 100000 in
set_option maxHeartbeats 1000000 in
theorem gIndex_in {r s b o c rk bk rw cl : Int} (hg : geomOk r s b o c = true) (q1 : 0 ≤ rk ∧ rk < r + s) (q2 : 0 ≤ bk ∧ bk < b) (q3 : 0 ≤ rw ∧ rw < o) (q4 : 0 ≤ cl ∧ cl < c) (w0 : World) :
    Calls Try.prog 178 #[.agg #[.int .i64 r, .int .i64 s, .int .i64 b, .int .i64 o, .int .i64 c], .agg #[.int .i64 rk, .int .i64 bk, .int .i64 rw, .int .i64 cl]] w0 fun e w' => e = .returned (.tuple #[.int .i64 (rk * 1048576 + bk * 65536 + rw * 64 + cl), .int .i64 0]) ∧ Below w0.heap.size w0 w' := by
  refine x_enter Try.func178 rfl #[.agg #[.int .i64 r, .int .i64 s, .int .i64 b, .int .i64 o, .int .i64 c], .agg #[.int .i64 rk, .int .i64 bk, .int .i64 rw, .int .i64 cl], undef, undef, undef, undef, undef, undef, undef, undef, undef, undef] (by kernel_rfl) ?_
  have H := Hs.nil w0
  obtain ⟨⟨d1, d2⟩, ⟨d3, d4⟩, ⟨d5, d6⟩, ⟨d7, d8⟩, ⟨d9, d10⟩, _⟩ := geom_bd hg
  have kq1 : (decide (0 ≤ rk) && decide (rk < (r + s))) = true := by simp; omega
  have kq2 : (decide (0 ≤ bk) && decide (bk < b)) = true := by simp; omega
  have kq3 : (decide (0 ≤ rw) && decide (rw < o)) = true := by simp; omega
  have kq4 : (decide (0 ≤ cl) && decide (cl < c)) = true := by simp; omega
  refine x_seq ?_
  refine x_region ?_
  refine x_box H #[.int .i64 r, .int .i64 s, .int .i64 b, .int .i64 o, .int .i64 c] 67 (by kernel_rfl) rfl (by kernel_rfl) ?_
  clear H
  intro v1 g1 H
  refine x_box H #[.int .i64 rk, .int .i64 bk, .int .i64 rw, .int .i64 cl] 113 (by kernel_rfl) rfl (by kernel_rfl) ?_
  clear H
  intro v2 g2 H
  refine x_val (.int .i64 0) (by kernel_rfl) rfl (by kernel_rfl) ?_
  refine x_val (.int .i64 0) (by kernel_rfl) rfl (by kernel_rfl) ?_
  refine x_nil ?_
  refine x_then ?_
  refine x_seq ?_
  refine x_seq ?_
  refine x_region ?_
  refine x_loadn (t := 67) H 1 g1 0 #[.int .i64 r, .int .i64 s, .int .i64 b, .int .i64 o, .int .i64 c] 67 [.int .i64 r, .int .i64 s, .int .i64 b, .int .i64 o, .int .i64 c] (by kernel_rfl) (by kernel_rfl) (by kernel_rfl) rfl (by kernel_rfl) (by kernel_rfl) ?_
  refine x_loadn (t := 113) H 0 g2 0 #[.int .i64 rk, .int .i64 bk, .int .i64 rw, .int .i64 cl] 113 [.int .i64 rk, .int .i64 bk, .int .i64 rw, .int .i64 cl] (by kernel_rfl) (by kernel_rfl) (by kernel_rfl) rfl (by kernel_rfl) (by kernel_rfl) ?_
  refine x_callB (.bool true) H (by kernel_rfl) rfl (by kernel_rfl) (Holds_in hg (by omega) (by omega) (by omega) (by omega) _) ?_
  clear H
  intro v3 H
  refine x_val (.bool false) (by kernel_rfl) rfl (by kernel_rfl) ?_
  refine x_nil ?_
  refine x_then ?_
  refine x_f (by kernel_rfl) ?_
  refine x_skipc ?_
  refine x_then ?_
  refine x_seq ?_
  refine x_region ?_
  refine x_loadn (t := 113) H 0 g2 0 #[.int .i64 rk, .int .i64 bk, .int .i64 rw, .int .i64 cl] 113 [.int .i64 rk, .int .i64 bk, .int .i64 rw, .int .i64 cl] (by kernel_rfl) (by kernel_rfl) (by kernel_rfl) rfl (by kernel_rfl) (by kernel_rfl) ?_
  refine x_callB (.int .i64 (rk * 1048576 + bk * 65536 + rw * 64 + cl)) H (by kernel_rfl) rfl (by kernel_rfl) (index_in hg (by omega) (by omega) (by omega) (by omega) _) ?_
  clear H
  intro v4 H
  refine x_val (.int .i64 (rk * 1048576 + bk * 65536 + rw * 64 + cl)) (by kernel_rfl) rfl (by kernel_rfl) ?_
  refine x_val (.int .i64 0) (by kernel_rfl) rfl (by kernel_rfl) ?_
  refine x_nil ?_
  refine x_frame' { tmps := #[.agg #[.int .i64 r, .int .i64 s, .int .i64 b, .int .i64 o, .int .i64 c], .agg #[.int .i64 rk, .int .i64 bk, .int .i64 rw, .int .i64 cl], .pointer (some ⟨g1, 0, none⟩), .pointer (some ⟨g2, 0, none⟩), .int .i64 (rk * 1048576 + bk * 65536 + rw * 64 + cl), .int .i64 0, .agg #[.int .i64 r, .int .i64 s, .int .i64 b, .int .i64 o, .int .i64 c], .agg #[.int .i64 rk, .int .i64 bk, .int .i64 rw, .int .i64 cl], .bool true, .bool false, .agg #[.int .i64 rk, .int .i64 bk, .int .i64 rw, .int .i64 cl], .int .i64 (rk * 1048576 + bk * 65536 + rw * 64 + cl)], defers := [] } (by kernel_rfl) ?_
  refine x_then ?_
  refine x_retc ?_
  refine x_ret (.tuple #[.int .i64 (rk * 1048576 + bk * 65536 + rw * 64 + cl), .int .i64 0]) (by kernel_rfl) (by kernel_rfl) ?_
  exact ⟨rfl, H.below⟩

set_option maxRecDepth 100000 in
set_option maxHeartbeats 1000000 in
theorem Page_in {r s b o c y z : Int} {pg sn ns : Nat} (hL : Lay r s b o c y z pg sn ns) (n : Int) (n0 : 0 ≤ n) (n1 : n < ((pg : Nat) : Int)) (w0 : World) :
    Calls Try.prog 155 #[.agg #[.int .i64 r, .int .i64 s, .int .i64 b, .int .i64 o, .int .i64 c], .int .i64 y, .int .i64 n] w0 fun e w' => e = .returned (.tuple #[.int .i64 (pgAt y r b o n), .int .i64 0]) ∧ Below w0.heap.size w0 w' := by
  refine x_enter Try.func155 rfl #[.agg #[.int .i64 r, .int .i64 s, .int .i64 b, .int .i64 o, .int .i64 c], .int .i64 y, .int .i64 n, undef, undef, undef, undef, undef, undef, undef, undef, undef, undef, undef, undef, undef, undef, undef, undef, undef, undef, undef, undef, undef, undef, undef, undef, undef, undef, undef, undef, undef, undef, undef, undef, undef, undef, undef, undef, undef, undef, undef, undef, undef, undef, undef, undef, undef, undef, undef, undef, undef, undef, undef, undef, undef, undef, undef, undef, undef, undef, undef, undef, undef, undef, undef, undef, undef, undef, undef, undef, undef, undef, undef, undef, undef, undef, undef, undef, undef, undef, undef, undef, undef, undef, undef, undef, undef, undef, undef, undef, undef, undef, undef, undef, undef, undef, undef, undef, undef, undef, undef, undef, undef, undef, undef, undef, undef, undef, undef, undef, undef, undef, undef, undef, undef, undef] (by kernel_rfl) ?_
  have H := Hs.nil w0
  have hg : geomOk r s b o c = true := by have := hL.ok; unfold layoutOk interOk at this; simp only [Bool.and_eq_true] at this; exact this.1.1
  have hIo : interOk r s b o c y = true := by have := hL.ok; unfold layoutOk at this; simp only [Bool.and_eq_true] at this; exact this.1
  obtain ⟨-, r1, r8, s0, s8, b1, b2, o1, o2, c1, c2, y0, y4, z0, z2, hpg, hsn, hns, sn1, pg2, ln0, ln2⟩ := id hL
  have a1 := emod_bd (x := n) o1
  have a2 := emod_bd (x := n / o) b1
  have a3 := emod_bd (x := n / o / b) r1
  have a4 := emod_bd (x := n) b1
  have a5 := emod_bd (x := n / b) o1
  have a6 := emod_bd (x := n / b / o) r1
  have a7 := emod_bd (x := n) r1
  have a8 := emod_bd (x := n / r) b1
  have a9 := emod_bd (x := n / r / b) o1
  have hpb : pwB b 16 = true := by have := hg; unfold geomOk at this; simp only [Bool.and_eq_true] at this; exact this.2.2.2.1
  have a10 := xor_bd hpb a8.1 a8.2 a9.1 (by omega)
  have kn0 : (decide (n < 0)) = false := by simp; omega
  have kn1 : (decide (((pg : Nat) : Int) ≤ n)) = false := by simp; omega
  refine x_seq ?_
  refine x_region ?_
  refine x_box H #[.int .i64 r, .int .i64 s, .int .i64 b, .int .i64 o, .int .i64 c] 67 (by kernel_rfl) rfl (by kernel_rfl) ?_
  clear H
  intro v1 g1 H
  refine x_val (.int .i64 0) (by kernel_rfl) rfl (by kernel_rfl) ?_
  refine x_val (.int .i64 0) (by kernel_rfl) rfl (by kernel_rfl) ?_
  refine x_nil ?_
  refine x_then ?_
  refine x_seq ?_
  refine x_seq ?_
  refine x_region ?_
  refine x_loadn (t := 67) H 0 g1 0 #[.int .i64 r, .int .i64 s, .int .i64 b, .int .i64 o, .int .i64 c] 67 [.int .i64 r, .int .i64 s, .int .i64 b, .int .i64 o, .int .i64 c] (by kernel_rfl) (by kernel_rfl) (by kernel_rfl) rfl (by kernel_rfl) (by kernel_rfl) ?_
  refine x_val (.int .i64 y) (by kernel_rfl) rfl (by kernel_rfl) ?_
  refine x_callB (.bool (interOk r s b o c y)) H (by kernel_rfl) rfl (by kernel_rfl) (iRight_any _ _ _ _ _ _ (by omega) (by omega) (by omega) (by omega) _) ?_
  clear H
  intro v2 H
  refine x_val (.bool (!(interOk r s b o c y))) (by kernel_rfl) rfl (by kernel_rfl) ?_
  refine x_val (.bool (!(interOk r s b o c y))) (by kernel_rfl) rfl (by kernel_rfl) ?_
  rw [hIo]
  refine x_val (.int .i64 n) (by kernel_rfl) rfl (by kernel_rfl) ?_
  refine x_val (.bool (decide (n < 0))) (by kernel_rfl) rfl (by kernel_rfl) ?_
  refine x_val (.bool (decide (n < 0))) (by kernel_rfl) rfl (by kernel_rfl) ?_
  refine x_val (.bool (decide (n < 0))) (by kernel_rfl) rfl (by kernel_rfl) ?_
  rw [kn0]
  refine x_val (.int .i64 n) (by kernel_rfl) rfl (by kernel_rfl) ?_
  refine x_loadn (t := 67) H 0 g1 0 #[.int .i64 r, .int .i64 s, .int .i64 b, .int .i64 o, .int .i64 c] 67 [.int .i64 r, .int .i64 s, .int .i64 b, .int .i64 o, .int .i64 c] (by kernel_rfl) (by kernel_rfl) (by kernel_rfl) rfl (by kernel_rfl) (by kernel_rfl) ?_
  refine x_callB (.int .i64 ((pg : Nat) : Int)) H (by kernel_rfl) rfl (by kernel_rfl) (pages_of hL _) ?_
  clear H
  intro v3 H
  refine x_val (.bool (decide (((pg : Nat) : Int) ≤ n))) (by kernel_rfl) rfl (by kernel_rfl) ?_
  refine x_val (.bool (decide (((pg : Nat) : Int) ≤ n))) (by kernel_rfl) rfl (by kernel_rfl) ?_
  refine x_nil ?_
  refine x_frame' { tmps := #[.agg #[.int .i64 r, .int .i64 s, .int .i64 b, .int .i64 o, .int .i64 c], .int .i64 y, .int .i64 n, .pointer (some ⟨g1, 0, none⟩), undef, undef, .int .i64 0, .int .i64 0, undef, undef, undef, undef, undef, undef, .agg #[.int .i64 r, .int .i64 s, .int .i64 b, .int .i64 o, .int .i64 c], .int .i64 y, .bool true, .bool false, .bool false, .int .i64 n, .bool false, .bool false, .bool false, .int .i64 n, .agg #[.int .i64 r, .int .i64 s, .int .i64 b, .int .i64 o, .int .i64 c], .int .i64 ((pg : Nat) : Int), .bool (decide (((pg : Nat) : Int) ≤ n)), .bool (decide (((pg : Nat) : Int) ≤ n)), undef, undef, undef, undef, undef, undef, undef, undef, undef, undef, undef, undef, undef, undef, undef, undef, undef, undef, undef, undef, undef, undef, undef, undef, undef, undef, undef, undef, undef, undef, undef, undef, undef, undef, undef, undef, undef, undef, undef, undef, undef, undef, undef, undef, undef, undef, undef, undef, undef, undef, undef, undef, undef, undef, undef, undef, undef, undef, undef, undef, undef, undef, undef, undef, undef, undef, undef, undef, undef, undef, undef, undef, undef, undef, undef, undef, undef, undef, undef, undef, undef, undef, undef, undef, undef, undef, undef, undef, undef], defers := [] } (by kernel_rfl) ?_
  refine x_then ?_
  rw [kn1]
  refine x_f (by kernel_rfl) ?_
  refine x_skipc ?_
  refine x_then ?_
  refine x_seq ?_
  refine x_region ?_
  refine x_box H #[.int .i64 0, .int .i64 0, .int .i64 0, .int .i64 0] 113 (by kernel_rfl) rfl (by kernel_rfl) ?_
  clear H
  intro v4 g2 H
  refine x_nil ?_
  refine x_then ?_
  refine x_seq ?_
  refine x_seq ?_
  refine x_region ?_
  refine x_val (.int .i64 y) (by kernel_rfl) rfl (by kernel_rfl) ?_
  refine x_nil ?_
  refine x_then ?_
  refine x_block ?_
  refine x_seq ?_
  refine x_region ?_
  refine x_val (.bool (decide (y = 0))) (by kernel_rfl) rfl (by kernel_rfl) ?_
  refine x_val (.bool (decide (y = 0))) (by kernel_rfl) rfl (by kernel_rfl) ?_
  refine x_nil ?_
  refine x_then ?_
  cases h1 : decide (y = 0)
  · skip
    have h1p := of_decide_eq_false h1
    refine x_f (by kernel_rfl) ?_
    refine x_seq ?_
    refine x_region ?_
    refine x_val (.bool (decide (y = 1))) (by kernel_rfl) rfl (by kernel_rfl) ?_
    refine x_val (.bool (decide (y = 1))) (by kernel_rfl) rfl (by kernel_rfl) ?_
    refine x_nil ?_
    refine x_then ?_
    cases h2 : decide (y = 1)
    · skip
      have h2p := of_decide_eq_false h2
      refine x_f (by kernel_rfl) ?_
      refine x_seq ?_
      refine x_region ?_
      refine x_val (.int .i64 n) (by kernel_rfl) rfl (by kernel_rfl) ?_
      refine x_val (.pointer (some ⟨g1, 0, none⟩)) (by kernel_rfl) rfl (by kernel_rfl) ?_
      refine x_load1 H 1 g1 0 #[.int .i64 r, .int .i64 s, .int .i64 b, .int .i64 o, .int .i64 c] 67 (.int .i64 r) (by kernel_rfl) (by kernel_rfl) (by kernel_rfl) rfl (by kernel_rfl) ?_
      refine x_val (.pointer (some ⟨g1, 2, none⟩)) (by kernel_rfl) rfl (by kernel_rfl) ?_
      refine x_load1 H 1 g1 2 #[.int .i64 r, .int .i64 s, .int .i64 b, .int .i64 o, .int .i64 c] 67 (.int .i64 b) (by kernel_rfl) (by kernel_rfl) (by kernel_rfl) rfl (by kernel_rfl) ?_
      refine x_val (.pointer (some ⟨g1, 3, none⟩)) (by kernel_rfl) rfl (by kernel_rfl) ?_
      refine x_load1 H 1 g1 3 #[.int .i64 r, .int .i64 s, .int .i64 b, .int .i64 o, .int .i64 c] 67 (.int .i64 o) (by kernel_rfl) (by kernel_rfl) (by kernel_rfl) rfl (by kernel_rfl) ?_
      refine x_box' H #[.int .i64 r, .int .i64 b, .int .i64 o] 3 3 (by kernel_rfl) rfl (by kernel_rfl) ?_
      clear H
      intro v5 g3 H
      refine x_call (by kernel_rfl) rfl (by kernel_rfl) (digits_w n r b o (by omega) (by omega) (by omega) (by omega) (by omega) g3 3 _ (H.roOf [0] [.blk g3 #[.int .i64 r, .int .i64 b, .int .i64 o] 3] (by kernel_rfl))) ?_
      rintro _ v6 ⟨gx, cx, rfl, hD⟩
      refine ⟨_, rfl, ?_⟩
      replace H := H.more hD
      clear hD
      replace H : Hs [] w0 _ [.row (.slice (some ⟨gx, 0, none⟩) 3 cx) 3 1 3 ([.int .i64 (n % r), .int .i64 (n / r % b), .int .i64 (n / r / b % o)]), .blk g3 #[.int .i64 r, .int .i64 b, .int .i64 o] 3, .blk g2 #[.int .i64 0, .int .i64 0, .int .i64 0, .int .i64 0] 113, .blk g1 #[.int .i64 r, .int .i64 s, .int .i64 b, .int .i64 o, .int .i64 c] 67] := H
      refine x_val (.slice (some ⟨gx, 0, none⟩) 3 cx) (by kernel_rfl) rfl (by kernel_rfl) ?_
      refine x_nil ?_
      refine x_frame' { tmps := #[.agg #[.int .i64 r, .int .i64 s, .int .i64 b, .int .i64 o, .int .i64 c], .int .i64 y, .int .i64 n, .pointer (some ⟨g1, 0, none⟩), undef, undef, .int .i64 0, .int .i64 0, .pointer (some ⟨g2, 0, none⟩), undef, undef, .slice (some ⟨gx, 0, none⟩) 3 cx, undef, undef, .agg #[.int .i64 r, .int .i64 s, .int .i64 b, .int .i64 o, .int .i64 c], .int .i64 y, .bool true, .bool false, .bool false, .int .i64 n, .bool false, .bool false, .bool false, .int .i64 n, .agg #[.int .i64 r, .int .i64 s, .int .i64 b, .int .i64 o, .int .i64 c], .int .i64 ((pg : Nat) : Int), .bool false, .bool false, .int .i64 y, .int .i64 n, .pointer (some ⟨g1, 0, none⟩), .int .i64 r, .pointer (some ⟨g1, 2, none⟩), .int .i64 b, .pointer (some ⟨g1, 3, none⟩), .int .i64 o, .slice (some ⟨g3, 0, none⟩) 3 3, .slice (some ⟨gx, 0, none⟩) 3 cx, undef, undef, undef, undef, undef, undef, undef, undef, undef, undef, undef, undef, .bool false, .bool false, undef, undef, undef, undef, undef, undef, undef, undef, undef, undef, undef, undef, undef, undef, undef, undef, undef, undef, undef, undef, undef, .bool false, .bool false, undef, undef, undef, undef, undef, undef, undef, undef, undef, undef, undef, undef, undef, undef, undef, undef, undef, undef, undef, undef, undef, undef, undef, undef, undef, undef, undef, undef, undef, undef, undef, undef, undef, undef, undef, undef, undef, undef, undef, undef, undef, undef], defers := [] } (by kernel_rfl) ?_
      refine x_then ?_
      refine x_region_s 15 (fun w' => Hs [] w0 w' [.row (.slice (some ⟨gx, 0, none⟩) 3 cx) 3 1 3 ([.int .i64 (n % r), .int .i64 (n / r % b), .int .i64 (n / r / b % o)]), .blk g3 #[.int .i64 r, .int .i64 b, .int .i64 o] 3, .blk g1 #[.int .i64 r, .int .i64 s, .int .i64 b, .int .i64 o, .int .i64 c] 67]) (fun w' => Hs [] w0 w' [.row (.slice (some ⟨gx, 0, none⟩) 3 cx) 3 1 3 ([.int .i64 (n % r), .int .i64 (n / r % b), .int .i64 (n / r / b % o)]), .blk g3 #[.int .i64 r, .int .i64 b, .int .i64 o] 3, .blk g2 #[.int .i64 0, .int .i64 0, .int .i64 0, .int .i64 0] 113, .blk g1 #[.int .i64 r, .int .i64 s, .int .i64 b, .int .i64 o, .int .i64 c] 67]) (by kernel_rfl) (by kernel_rfl) (by kernel_rfl) hsShut (fun _ h => h.pick [0, 1, 3] _ (by decide) (by kernel_rfl)) H.drew ?_
      refine s_quiet 0 rfl (by kernel_rfl) (y_val (.slice (some ⟨gx, 0, none⟩) 3 cx) (by kernel_rfl) (fun _ => by kernel_rfl)) ?_
      refine s_quiet 1 rfl (by kernel_rfl) (y_val (.pointer (some ⟨gx, 0, none⟩)) (by kernel_rfl) (fun _ => by kernel_rfl)) ?_
      refine s_quiet 2 rfl (by kernel_rfl) (y_loadc gx 0 (.int .i64 (n % r)) (fun _ H => H.rowCell 0 rfl 0 rfl) (by kernel_rfl) (fun _ => by kernel_rfl)) ?_
      refine s_quiet 3 rfl (by kernel_rfl) (y_val (.slice (some ⟨gx, 0, none⟩) 3 cx) (by kernel_rfl) (fun _ => by kernel_rfl)) ?_
      refine s_quiet 4 rfl (by kernel_rfl) (y_val (.pointer (some ⟨gx, 1, none⟩)) (by kernel_rfl) (fun _ => by kernel_rfl)) ?_
      refine s_quiet 5 rfl (by kernel_rfl) (y_loadc gx 1 (.int .i64 (n / r % b)) (fun _ H => H.rowCell 0 rfl 1 rfl) (by kernel_rfl) (fun _ => by kernel_rfl)) ?_
      refine s_quiet 6 rfl (by kernel_rfl) (y_val (.slice (some ⟨gx, 0, none⟩) 3 cx) (by kernel_rfl) (fun _ => by kernel_rfl)) ?_
      refine s_quiet 7 rfl (by kernel_rfl) (y_val (.pointer (some ⟨gx, 2, none⟩)) (by kernel_rfl) (fun _ => by kernel_rfl)) ?_
      refine s_quiet 8 rfl (by kernel_rfl) (y_loadc gx 2 (.int .i64 (n / r / b % o)) (fun _ H => H.rowCell 0 rfl 2 rfl) (by kernel_rfl) (fun _ => by kernel_rfl)) ?_
      refine s_quiet 9 rfl (by kernel_rfl) (y_val (.pointer (some ⟨g2, 0, none⟩)) (by kernel_rfl) (fun _ => by kernel_rfl)) ?_
      refine s_one 10 rfl (by kernel_rfl) rfl ?_
      clear H
      intro v7 H
      refine x_store (t := 3) (v := .int .i64 (n % r)) H 2 g2 0 #[.int .i64 0, .int .i64 0, .int .i64 0, .int .i64 0] #[.int .i64 (n % r), .int .i64 0, .int .i64 0, .int .i64 0] 113 [.int .i64 (n % r)] [.row (.slice (some ⟨gx, 0, none⟩) 3 cx) 3 1 3 ([.int .i64 (n % r), .int .i64 (n / r % b), .int .i64 (n / r / b % o)]), .blk g3 #[.int .i64 r, .int .i64 b, .int .i64 o] 3, .blk g2 #[.int .i64 (n % r), .int .i64 0, .int .i64 0, .int .i64 0] 113, .blk g1 #[.int .i64 r, .int .i64 s, .int .i64 b, .int .i64 o, .int .i64 c] 67] (by kernel_rfl) rfl (by kernel_rfl) (by kernel_rfl) (by kernel_rfl) (by kernel_rfl) (by kernel_rfl) (by kernel_rfl) (by kernel_rfl) (by kernel_rfl) ?_
      clear H
      intro v8 H
      refine x_nil ?_
      refine x_then ?_
      refine ⟨fun w' => Hs [] w0 w' [.row (.slice (some ⟨gx, 0, none⟩) 3 cx) 3 1 3 ([.int .i64 (n % r), .int .i64 (n / r % b), .int .i64 (n / r / b % o)]), .blk g3 #[.int .i64 r, .int .i64 b, .int .i64 o] 3, .blk g1 #[.int .i64 r, .int .i64 s, .int .i64 b, .int .i64 o, .int .i64 c] 67], fun w' => Hs [] w0 w' [.row (.slice (some ⟨gx, 0, none⟩) 3 cx) 3 1 3 ([.int .i64 (n % r), .int .i64 (n / r % b), .int .i64 (n / r / b % o)]), .blk g3 #[.int .i64 r, .int .i64 b, .int .i64 o] 3, .blk g2 #[.int .i64 (n % r), .int .i64 0, .int .i64 0, .int .i64 0] 113, .blk g1 #[.int .i64 r, .int .i64 s, .int .i64 b, .int .i64 o, .int .i64 c] 67], H, hsShut, fun _ h => h.pick [0, 1, 3] _ (by decide) (by kernel_rfl), fun _ h => h.pick [0, 1, 2] _ (by decide) (by kernel_rfl), ?_⟩
      refine s_quiet 11 rfl (by kernel_rfl) (y_val (.pointer (some ⟨g2, 1, none⟩)) (by kernel_rfl) (fun _ => by kernel_rfl)) ?_
      refine s_one 12 rfl (by kernel_rfl) rfl ?_
      clear H
      intro v9 H
      refine x_store (t := 3) (v := .int .i64 (n / r % b)) H 2 g2 1 #[.int .i64 (n % r), .int .i64 0, .int .i64 0, .int .i64 0] #[.int .i64 (n % r), .int .i64 (n / r % b), .int .i64 0, .int .i64 0] 113 [.int .i64 (n / r % b)] [.row (.slice (some ⟨gx, 0, none⟩) 3 cx) 3 1 3 ([.int .i64 (n % r), .int .i64 (n / r % b), .int .i64 (n / r / b % o)]), .blk g3 #[.int .i64 r, .int .i64 b, .int .i64 o] 3, .blk g2 #[.int .i64 (n % r), .int .i64 (n / r % b), .int .i64 0, .int .i64 0] 113, .blk g1 #[.int .i64 r, .int .i64 s, .int .i64 b, .int .i64 o, .int .i64 c] 67] (by kernel_rfl) rfl (by kernel_rfl) (by kernel_rfl) (by kernel_rfl) (by kernel_rfl) (by kernel_rfl) (by kernel_rfl) (by kernel_rfl) (by kernel_rfl) ?_
      clear H
      intro v10 H
      refine x_nil ?_
      refine x_then ?_
      refine ⟨fun w' => Hs [] w0 w' [.row (.slice (some ⟨gx, 0, none⟩) 3 cx) 3 1 3 ([.int .i64 (n % r), .int .i64 (n / r % b), .int .i64 (n / r / b % o)]), .blk g3 #[.int .i64 r, .int .i64 b, .int .i64 o] 3, .blk g1 #[.int .i64 r, .int .i64 s, .int .i64 b, .int .i64 o, .int .i64 c] 67], fun w' => Hs [] w0 w' [.row (.slice (some ⟨gx, 0, none⟩) 3 cx) 3 1 3 ([.int .i64 (n % r), .int .i64 (n / r % b), .int .i64 (n / r / b % o)]), .blk g3 #[.int .i64 r, .int .i64 b, .int .i64 o] 3, .blk g2 #[.int .i64 (n % r), .int .i64 (n / r % b), .int .i64 0, .int .i64 0] 113, .blk g1 #[.int .i64 r, .int .i64 s, .int .i64 b, .int .i64 o, .int .i64 c] 67], H, hsShut, fun _ h => h.pick [0, 1, 3] _ (by decide) (by kernel_rfl), fun _ h => h.pick [0, 1, 2] _ (by decide) (by kernel_rfl), ?_⟩
      refine s_quiet 13 rfl (by kernel_rfl) (y_val (.pointer (some ⟨g2, 2, none⟩)) (by kernel_rfl) (fun _ => by kernel_rfl)) ?_
      refine s_one 14 rfl (by kernel_rfl) rfl ?_
      clear H
      intro v11 H
      refine x_store (t := 3) (v := .int .i64 (n / r / b % o)) H 2 g2 2 #[.int .i64 (n % r), .int .i64 (n / r % b), .int .i64 0, .int .i64 0] #[.int .i64 (n % r), .int .i64 (n / r % b), .int .i64 (n / r / b % o), .int .i64 0] 113 [.int .i64 (n / r / b % o)] [.row (.slice (some ⟨gx, 0, none⟩) 3 cx) 3 1 3 ([.int .i64 (n % r), .int .i64 (n / r % b), .int .i64 (n / r / b % o)]), .blk g3 #[.int .i64 r, .int .i64 b, .int .i64 o] 3, .blk g2 #[.int .i64 (n % r), .int .i64 (n / r % b), .int .i64 (n / r / b % o), .int .i64 0] 113, .blk g1 #[.int .i64 r, .int .i64 s, .int .i64 b, .int .i64 o, .int .i64 c] 67] (by kernel_rfl) rfl (by kernel_rfl) (by kernel_rfl) (by kernel_rfl) (by kernel_rfl) (by kernel_rfl) (by kernel_rfl) (by kernel_rfl) (by kernel_rfl) ?_
      clear H
      intro v12 H
      refine x_nil ?_
      refine x_then ?_
      refine ⟨fun w' => Hs [] w0 w' [.row (.slice (some ⟨gx, 0, none⟩) 3 cx) 3 1 3 ([.int .i64 (n % r), .int .i64 (n / r % b), .int .i64 (n / r / b % o)]), .blk g3 #[.int .i64 r, .int .i64 b, .int .i64 o] 3, .blk g2 #[.int .i64 (n % r), .int .i64 (n / r % b), .int .i64 (n / r / b % o), .int .i64 0] 113, .blk g1 #[.int .i64 r, .int .i64 s, .int .i64 b, .int .i64 o, .int .i64 c] 67], fun w' => Hs [] w0 w' [.row (.slice (some ⟨gx, 0, none⟩) 3 cx) 3 1 3 ([.int .i64 (n % r), .int .i64 (n / r % b), .int .i64 (n / r / b % o)]), .blk g3 #[.int .i64 r, .int .i64 b, .int .i64 o] 3, .blk g2 #[.int .i64 (n % r), .int .i64 (n / r % b), .int .i64 (n / r / b % o), .int .i64 0] 113, .blk g1 #[.int .i64 r, .int .i64 s, .int .i64 b, .int .i64 o, .int .i64 c] 67], H, hsShut, fun _ h => h.pick [0, 1, 2, 3] _ (by decide) (by kernel_rfl), fun _ h => h.pick [0, 1, 3] _ (by decide) (by kernel_rfl), ?_⟩
      refine s_done (by kernel_rfl) ?_
      clear H
      intro v13 H
      refine x_frame' { tmps := #[.agg #[.int .i64 r, .int .i64 s, .int .i64 b, .int .i64 o, .int .i64 c], .int .i64 y, .int .i64 n, .pointer (some ⟨g1, 0, none⟩), undef, undef, .int .i64 0, .int .i64 0, .pointer (some ⟨g2, 0, none⟩), undef, undef, .slice (some ⟨gx, 0, none⟩) 3 cx, undef, undef, .agg #[.int .i64 r, .int .i64 s, .int .i64 b, .int .i64 o, .int .i64 c], .int .i64 y, .bool true, .bool false, .bool false, .int .i64 n, .bool false, .bool false, .bool false, .int .i64 n, .agg #[.int .i64 r, .int .i64 s, .int .i64 b, .int .i64 o, .int .i64 c], .int .i64 ((pg : Nat) : Int), .bool false, .bool false, .int .i64 y, .int .i64 n, .pointer (some ⟨g1, 0, none⟩), .int .i64 r, .pointer (some ⟨g1, 2, none⟩), .int .i64 b, .pointer (some ⟨g1, 3, none⟩), .int .i64 o, .slice (some ⟨g3, 0, none⟩) 3 3, .slice (some ⟨gx, 0, none⟩) 3 cx, .slice (some ⟨gx, 0, none⟩) 3 cx, .pointer (some ⟨gx, 0, none⟩), .int .i64 (n % r), .slice (some ⟨gx, 0, none⟩) 3 cx, .pointer (some ⟨gx, 1, none⟩), .int .i64 (n / r % b), .slice (some ⟨gx, 0, none⟩) 3 cx, .pointer (some ⟨gx, 2, none⟩), .int .i64 (n / r / b % o), .pointer (some ⟨g2, 0, none⟩), .pointer (some ⟨g2, 1, none⟩), .pointer (some ⟨g2, 2, none⟩), .bool false, .bool false, undef, undef, undef, undef, undef, undef, undef, undef, undef, undef, undef, undef, undef, undef, undef, undef, undef, undef, undef, undef, undef, .bool false, .bool false, undef, undef, undef, undef, undef, undef, undef, undef, undef, undef, undef, undef, undef, undef, undef, undef, undef, undef, undef, undef, undef, undef, undef, undef, undef, undef, undef, undef, undef, undef, undef, undef, undef, undef, undef, undef, undef, undef, undef, undef, undef, undef], defers := [] } (by kernel_rfl) ?_
      refine x_blk ?_
      refine x_then ?_
      refine x_seq ?_
      refine x_seq ?_
      refine x_region ?_
      refine x_val (.int .i64 y) (by kernel_rfl) rfl (by kernel_rfl) ?_
      refine x_val (.bool (decide (y = 3))) (by kernel_rfl) rfl (by kernel_rfl) ?_
      refine x_nil ?_
      refine x_then ?_
      cases h3 : decide (y = 3)
      · skip
        have h3p := of_decide_eq_false h3
        refine x_f (by kernel_rfl) ?_
        refine x_skipc ?_
        refine x_then ?_
        refine x_seq ?_
        refine x_region ?_
        refine x_loadn (t := 67) H 3 g1 0 #[.int .i64 r, .int .i64 s, .int .i64 b, .int .i64 o, .int .i64 c] 67 [.int .i64 r, .int .i64 s, .int .i64 b, .int .i64 o, .int .i64 c] (by kernel_rfl) (by kernel_rfl) (by kernel_rfl) rfl (by kernel_rfl) (by kernel_rfl) ?_
        refine x_loadn (t := 113) H 2 g2 0 #[.int .i64 (n % r), .int .i64 (n / r % b), .int .i64 (n / r / b % o), .int .i64 0] 113 [.int .i64 (n % r), .int .i64 (n / r % b), .int .i64 (n / r / b % o), .int .i64 0] (by kernel_rfl) (by kernel_rfl) (by kernel_rfl) rfl (by kernel_rfl) (by kernel_rfl) ?_
        refine x_callB (.tuple #[.int .i64 ((n % r) * 1048576 + (n / r % b) * 65536 + (n / r / b % o) * 64 + 0), .int .i64 0]) H (by kernel_rfl) rfl (by kernel_rfl) (gIndex_in hg (by omega) (by omega) (by omega) (by omega) _) ?_
        clear H
        intro v14 H
        refine x_val (.tuple #[.int .i64 ((n % r) * 1048576 + (n / r % b) * 65536 + (n / r / b % o) * 64 + 0), .int .i64 0]) (by kernel_rfl) rfl (by kernel_rfl) ?_
        refine x_val (.int .i64 ((n % r) * 1048576 + (n / r % b) * 65536 + (n / r / b % o) * 64 + 0)) (by kernel_rfl) rfl (by kernel_rfl) ?_
        refine x_val (.int .i64 0) (by kernel_rfl) rfl (by kernel_rfl) ?_
        refine x_val (.int .i64 ((n % r) * 1048576 + (n / r % b) * 65536 + (n / r / b % o) * 64 + 0)) (by kernel_rfl) rfl (by kernel_rfl) ?_
        refine x_val (.int .i64 0) (by kernel_rfl) rfl (by kernel_rfl) ?_
        refine x_nil ?_
        refine x_then ?_
        refine x_seq ?_
        refine x_region ?_
        refine x_val (.int .i64 ((n % r) * 1048576 + (n / r % b) * 65536 + (n / r / b % o) * 64 + 0)) (by kernel_rfl) rfl (by kernel_rfl) ?_
        refine x_eq (.int .i64 (((n % r) * 1048576 + (n / r % b) * 65536 + (n / r / b % o) * 64 + 0) / 64)) (e_shr ((n % r) * 1048576 + (n / r % b) * 65536 + (n / r / b % o) * 64 + 0) 64 (by decide)) (by kernel_rfl) rfl (by kernel_rfl) ?_
        refine x_val (.int .i64 0) (by kernel_rfl) rfl (by kernel_rfl) ?_
        refine x_val (.int .i64 (((n % r) * 1048576 + (n / r % b) * 65536 + (n / r / b % o) * 64 + 0) / 64)) (by kernel_rfl) rfl (by kernel_rfl) ?_
        refine x_val (.int .i64 0) (by kernel_rfl) rfl (by kernel_rfl) ?_
        refine x_nil ?_
        refine x_frame' { tmps := #[.agg #[.int .i64 r, .int .i64 s, .int .i64 b, .int .i64 o, .int .i64 c], .int .i64 y, .int .i64 n, .pointer (some ⟨g1, 0, none⟩), undef, undef, .int .i64 (((n % r) * 1048576 + (n / r % b) * 65536 + (n / r / b % o) * 64 + 0) / 64), .int .i64 0, .pointer (some ⟨g2, 0, none⟩), undef, undef, .slice (some ⟨gx, 0, none⟩) 3 cx, .int .i64 ((n % r) * 1048576 + (n / r % b) * 65536 + (n / r / b % o) * 64 + 0), .int .i64 0, .agg #[.int .i64 r, .int .i64 s, .int .i64 b, .int .i64 o, .int .i64 c], .int .i64 y, .bool true, .bool false, .bool false, .int .i64 n, .bool false, .bool false, .bool false, .int .i64 n, .agg #[.int .i64 r, .int .i64 s, .int .i64 b, .int .i64 o, .int .i64 c], .int .i64 ((pg : Nat) : Int), .bool false, .bool false, .int .i64 y, .int .i64 n, .pointer (some ⟨g1, 0, none⟩), .int .i64 r, .pointer (some ⟨g1, 2, none⟩), .int .i64 b, .pointer (some ⟨g1, 3, none⟩), .int .i64 o, .slice (some ⟨g3, 0, none⟩) 3 3, .slice (some ⟨gx, 0, none⟩) 3 cx, .slice (some ⟨gx, 0, none⟩) 3 cx, .pointer (some ⟨gx, 0, none⟩), .int .i64 (n % r), .slice (some ⟨gx, 0, none⟩) 3 cx, .pointer (some ⟨gx, 1, none⟩), .int .i64 (n / r % b), .slice (some ⟨gx, 0, none⟩) 3 cx, .pointer (some ⟨gx, 2, none⟩), .int .i64 (n / r / b % o), .pointer (some ⟨g2, 0, none⟩), .pointer (some ⟨g2, 1, none⟩), .pointer (some ⟨g2, 2, none⟩), .bool false, .bool false, undef, undef, undef, undef, undef, undef, undef, undef, undef, undef, undef, undef, undef, undef, undef, undef, undef, undef, undef, undef, undef, .bool false, .bool false, undef, undef, undef, undef, undef, undef, undef, undef, undef, undef, undef, undef, undef, undef, undef, undef, undef, undef, undef, undef, undef, .int .i64 y, .bool false, undef, undef, undef, undef, undef, undef, undef, undef, undef, undef, .tuple #[.int .i64 ((n % r) * 1048576 + (n / r % b) * 65536 + (n / r / b % o) * 64 + 0), .int .i64 0], .agg #[.int .i64 r, .int .i64 s, .int .i64 b, .int .i64 o, .int .i64 c], .agg #[.int .i64 (n % r), .int .i64 (n / r % b), .int .i64 (n / r / b % o), .int .i64 0], .tuple #[.int .i64 ((n % r) * 1048576 + (n / r % b) * 65536 + (n / r / b % o) * 64 + 0), .int .i64 0], .int .i64 ((n % r) * 1048576 + (n / r % b) * 65536 + (n / r / b % o) * 64 + 0), .int .i64 0, .int .i64 ((n % r) * 1048576 + (n / r % b) * 65536 + (n / r / b % o) * 64 + 0), .int .i64 (((n % r) * 1048576 + (n / r % b) * 65536 + (n / r / b % o) * 64 + 0) / 64), .int .i64 0], defers := [] } (by kernel_rfl) ?_
        refine x_then ?_
        refine x_retc ?_
        refine x_ret (.tuple #[.int .i64 (((n % r) * 1048576 + (n / r % b) * 65536 + (n / r / b % o) * 64 + 0) / 64), .int .i64 0]) (by kernel_rfl) (by kernel_rfl) ?_
        have e : ((n % r) * 1048576 + (n / r % b) * 65536 + (n / r / b % o) * 64 + 0) / 64 = pgAt y r b o n := by simp only [pgAt, pgRank, pgRow, pgBank, pgBank0, if_neg h1p, if_neg h2p, if_neg h3p]; omega
        exact ⟨by rw [e], H.below⟩
      · skip
        have h3p := of_decide_eq_true h3
        refine x_t (by kernel_rfl) ?_
        refine x_region ?_
        refine x_val (.pointer (some ⟨g2, 1, none⟩)) (by kernel_rfl) rfl (by kernel_rfl) ?_
        refine x_load1 H 2 g2 1 #[.int .i64 (n % r), .int .i64 (n / r % b), .int .i64 (n / r / b % o), .int .i64 0] 113 (.int .i64 (n / r % b)) (by kernel_rfl) (by kernel_rfl) (by kernel_rfl) rfl (by kernel_rfl) ?_
        refine x_val (.pointer (some ⟨g2, 2, none⟩)) (by kernel_rfl) rfl (by kernel_rfl) ?_
        refine x_load1 H 2 g2 2 #[.int .i64 (n % r), .int .i64 (n / r % b), .int .i64 (n / r / b % o), .int .i64 0] 113 (.int .i64 (n / r / b % o)) (by kernel_rfl) (by kernel_rfl) (by kernel_rfl) rfl (by kernel_rfl) ?_
        refine x_val (.pointer (some ⟨g1, 2, none⟩)) (by kernel_rfl) rfl (by kernel_rfl) ?_
        refine x_load1 H 3 g1 2 #[.int .i64 r, .int .i64 s, .int .i64 b, .int .i64 o, .int .i64 c] 67 (.int .i64 b) (by kernel_rfl) (by kernel_rfl) (by kernel_rfl) rfl (by kernel_rfl) ?_
        refine x_ar (b - 1) ⟨by omega, by omega⟩ (by kernel_rfl) rfl (by kernel_rfl) ?_
        refine x_val (.int .i64 (bits .and .i64 (n / r / b % o) (b - 1))) (by kernel_rfl) rfl (by kernel_rfl) ?_
        refine x_val (.int .i64 (bits .xor .i64 (n / r % b) (bits .and .i64 (n / r / b % o) (b - 1)))) (by kernel_rfl) rfl (by kernel_rfl) ?_
        refine x_val (.pointer (some ⟨g2, 1, none⟩)) (by kernel_rfl) rfl (by kernel_rfl) ?_
        refine x_store (t := 3) (v := .int .i64 (bits .xor .i64 (n / r % b) (bits .and .i64 (n / r / b % o) (b - 1)))) H 2 g2 1 #[.int .i64 (n % r), .int .i64 (n / r % b), .int .i64 (n / r / b % o), .int .i64 0] #[.int .i64 (n % r), .int .i64 (bits .xor .i64 (n / r % b) (bits .and .i64 (n / r / b % o) (b - 1))), .int .i64 (n / r / b % o), .int .i64 0] 113 [.int .i64 (bits .xor .i64 (n / r % b) (bits .and .i64 (n / r / b % o) (b - 1)))] [.row (.slice (some ⟨gx, 0, none⟩) 3 cx) 3 1 3 ([.int .i64 (n % r), .int .i64 (n / r % b), .int .i64 (n / r / b % o)]), .blk g3 #[.int .i64 r, .int .i64 b, .int .i64 o] 3, .blk g2 #[.int .i64 (n % r), .int .i64 (bits .xor .i64 (n / r % b) (bits .and .i64 (n / r / b % o) (b - 1))), .int .i64 (n / r / b % o), .int .i64 0] 113, .blk g1 #[.int .i64 r, .int .i64 s, .int .i64 b, .int .i64 o, .int .i64 c] 67] (by kernel_rfl) rfl (by kernel_rfl) (by kernel_rfl) (by kernel_rfl) (by kernel_rfl) (by kernel_rfl) (by kernel_rfl) (by kernel_rfl) (by kernel_rfl) ?_
        clear H
        intro v15 H
        refine x_nil ?_
        refine x_frame' { tmps := #[.agg #[.int .i64 r, .int .i64 s, .int .i64 b, .int .i64 o, .int .i64 c], .int .i64 y, .int .i64 n, .pointer (some ⟨g1, 0, none⟩), undef, undef, .int .i64 0, .int .i64 0, .pointer (some ⟨g2, 0, none⟩), undef, undef, .slice (some ⟨gx, 0, none⟩) 3 cx, undef, undef, .agg #[.int .i64 r, .int .i64 s, .int .i64 b, .int .i64 o, .int .i64 c], .int .i64 y, .bool true, .bool false, .bool false, .int .i64 n, .bool false, .bool false, .bool false, .int .i64 n, .agg #[.int .i64 r, .int .i64 s, .int .i64 b, .int .i64 o, .int .i64 c], .int .i64 ((pg : Nat) : Int), .bool false, .bool false, .int .i64 y, .int .i64 n, .pointer (some ⟨g1, 0, none⟩), .int .i64 r, .pointer (some ⟨g1, 2, none⟩), .int .i64 b, .pointer (some ⟨g1, 3, none⟩), .int .i64 o, .slice (some ⟨g3, 0, none⟩) 3 3, .slice (some ⟨gx, 0, none⟩) 3 cx, .slice (some ⟨gx, 0, none⟩) 3 cx, .pointer (some ⟨gx, 0, none⟩), .int .i64 (n % r), .slice (some ⟨gx, 0, none⟩) 3 cx, .pointer (some ⟨gx, 1, none⟩), .int .i64 (n / r % b), .slice (some ⟨gx, 0, none⟩) 3 cx, .pointer (some ⟨gx, 2, none⟩), .int .i64 (n / r / b % o), .pointer (some ⟨g2, 0, none⟩), .pointer (some ⟨g2, 1, none⟩), .pointer (some ⟨g2, 2, none⟩), .bool false, .bool false, undef, undef, undef, undef, undef, undef, undef, undef, undef, undef, undef, undef, undef, undef, undef, undef, undef, undef, undef, undef, undef, .bool false, .bool false, undef, undef, undef, undef, undef, undef, undef, undef, undef, undef, undef, undef, undef, undef, undef, undef, undef, undef, undef, undef, undef, .int .i64 y, .bool true, .pointer (some ⟨g2, 1, none⟩), .int .i64 (n / r % b), .pointer (some ⟨g2, 2, none⟩), .int .i64 (n / r / b % o), .pointer (some ⟨g1, 2, none⟩), .int .i64 b, .int .i64 (b - 1), .int .i64 (bits .and .i64 (n / r / b % o) (b - 1)), .int .i64 (bits .xor .i64 (n / r % b) (bits .and .i64 (n / r / b % o) (b - 1))), .pointer (some ⟨g2, 1, none⟩), undef, undef, undef, undef, undef, undef, undef, undef, undef], defers := [] } (by kernel_rfl) ?_
        refine x_then ?_
        refine x_seq ?_
        refine x_region ?_
        refine x_loadn (t := 67) H 3 g1 0 #[.int .i64 r, .int .i64 s, .int .i64 b, .int .i64 o, .int .i64 c] 67 [.int .i64 r, .int .i64 s, .int .i64 b, .int .i64 o, .int .i64 c] (by kernel_rfl) (by kernel_rfl) (by kernel_rfl) rfl (by kernel_rfl) (by kernel_rfl) ?_
        refine x_loadn (t := 113) H 2 g2 0 #[.int .i64 (n % r), .int .i64 (bits .xor .i64 (n / r % b) (bits .and .i64 (n / r / b % o) (b - 1))), .int .i64 (n / r / b % o), .int .i64 0] 113 [.int .i64 (n % r), .int .i64 (bits .xor .i64 (n / r % b) (bits .and .i64 (n / r / b % o) (b - 1))), .int .i64 (n / r / b % o), .int .i64 0] (by kernel_rfl) (by kernel_rfl) (by kernel_rfl) rfl (by kernel_rfl) (by kernel_rfl) ?_
        refine x_callB (.tuple #[.int .i64 ((n % r) * 1048576 + (bits .xor .i64 (n / r % b) (bits .and .i64 (n / r / b % o) (b - 1))) * 65536 + (n / r / b % o) * 64 + 0), .int .i64 0]) H (by kernel_rfl) rfl (by kernel_rfl) (gIndex_in hg (by omega) (by omega) (by omega) (by omega) _) ?_
        clear H
        intro v16 H
        refine x_val (.tuple #[.int .i64 ((n % r) * 1048576 + (bits .xor .i64 (n / r % b) (bits .and .i64 (n / r / b % o) (b - 1))) * 65536 + (n / r / b % o) * 64 + 0), .int .i64 0]) (by kernel_rfl) rfl (by kernel_rfl) ?_
        refine x_val (.int .i64 ((n % r) * 1048576 + (bits .xor .i64 (n / r % b) (bits .and .i64 (n / r / b % o) (b - 1))) * 65536 + (n / r / b % o) * 64 + 0)) (by kernel_rfl) rfl (by kernel_rfl) ?_
        refine x_val (.int .i64 0) (by kernel_rfl) rfl (by kernel_rfl) ?_
        refine x_val (.int .i64 ((n % r) * 1048576 + (bits .xor .i64 (n / r % b) (bits .and .i64 (n / r / b % o) (b - 1))) * 65536 + (n / r / b % o) * 64 + 0)) (by kernel_rfl) rfl (by kernel_rfl) ?_
        refine x_val (.int .i64 0) (by kernel_rfl) rfl (by kernel_rfl) ?_
        refine x_nil ?_
        refine x_then ?_
        refine x_seq ?_
        refine x_region ?_
        refine x_val (.int .i64 ((n % r) * 1048576 + (bits .xor .i64 (n / r % b) (bits .and .i64 (n / r / b % o) (b - 1))) * 65536 + (n / r / b % o) * 64 + 0)) (by kernel_rfl) rfl (by kernel_rfl) ?_
        refine x_eq (.int .i64 (((n % r) * 1048576 + (bits .xor .i64 (n / r % b) (bits .and .i64 (n / r / b % o) (b - 1))) * 65536 + (n / r / b % o) * 64 + 0) / 64)) (e_shr ((n % r) * 1048576 + (bits .xor .i64 (n / r % b) (bits .and .i64 (n / r / b % o) (b - 1))) * 65536 + (n / r / b % o) * 64 + 0) 64 (by decide)) (by kernel_rfl) rfl (by kernel_rfl) ?_
        refine x_val (.int .i64 0) (by kernel_rfl) rfl (by kernel_rfl) ?_
        refine x_val (.int .i64 (((n % r) * 1048576 + (bits .xor .i64 (n / r % b) (bits .and .i64 (n / r / b % o) (b - 1))) * 65536 + (n / r / b % o) * 64 + 0) / 64)) (by kernel_rfl) rfl (by kernel_rfl) ?_
        refine x_val (.int .i64 0) (by kernel_rfl) rfl (by kernel_rfl) ?_
        refine x_nil ?_
        refine x_frame' { tmps := #[.agg #[.int .i64 r, .int .i64 s, .int .i64 b, .int .i64 o, .int .i64 c], .int .i64 y, .int .i64 n, .pointer (some ⟨g1, 0, none⟩), undef, undef, .int .i64 (((n % r) * 1048576 + (bits .xor .i64 (n / r % b) (bits .and .i64 (n / r / b % o) (b - 1))) * 65536 + (n / r / b % o) * 64 + 0) / 64), .int .i64 0, .pointer (some ⟨g2, 0, none⟩), undef, undef, .slice (some ⟨gx, 0, none⟩) 3 cx, .int .i64 ((n % r) * 1048576 + (bits .xor .i64 (n / r % b) (bits .and .i64 (n / r / b % o) (b - 1))) * 65536 + (n / r / b % o) * 64 + 0), .int .i64 0, .agg #[.int .i64 r, .int .i64 s, .int .i64 b, .int .i64 o, .int .i64 c], .int .i64 y, .bool true, .bool false, .bool false, .int .i64 n, .bool false, .bool false, .bool false, .int .i64 n, .agg #[.int .i64 r, .int .i64 s, .int .i64 b, .int .i64 o, .int .i64 c], .int .i64 ((pg : Nat) : Int), .bool false, .bool false, .int .i64 y, .int .i64 n, .pointer (some ⟨g1, 0, none⟩), .int .i64 r, .pointer (some ⟨g1, 2, none⟩), .int .i64 b, .pointer (some ⟨g1, 3, none⟩), .int .i64 o, .slice (some ⟨g3, 0, none⟩) 3 3, .slice (some ⟨gx, 0, none⟩) 3 cx, .slice (some ⟨gx, 0, none⟩) 3 cx, .pointer (some ⟨gx, 0, none⟩), .int .i64 (n % r), .slice (some ⟨gx, 0, none⟩) 3 cx, .pointer (some ⟨gx, 1, none⟩), .int .i64 (n / r % b), .slice (some ⟨gx, 0, none⟩) 3 cx, .pointer (some ⟨gx, 2, none⟩), .int .i64 (n / r / b % o), .pointer (some ⟨g2, 0, none⟩), .pointer (some ⟨g2, 1, none⟩), .pointer (some ⟨g2, 2, none⟩), .bool false, .bool false, undef, undef, undef, undef, undef, undef, undef, undef, undef, undef, undef, undef, undef, undef, undef, undef, undef, undef, undef, undef, undef, .bool false, .bool false, undef, undef, undef, undef, undef, undef, undef, undef, undef, undef, undef, undef, undef, undef, undef, undef, undef, undef, undef, undef, undef, .int .i64 y, .bool true, .pointer (some ⟨g2, 1, none⟩), .int .i64 (n / r % b), .pointer (some ⟨g2, 2, none⟩), .int .i64 (n / r / b % o), .pointer (some ⟨g1, 2, none⟩), .int .i64 b, .int .i64 (b - 1), .int .i64 (bits .and .i64 (n / r / b % o) (b - 1)), .int .i64 (bits .xor .i64 (n / r % b) (bits .and .i64 (n / r / b % o) (b - 1))), .pointer (some ⟨g2, 1, none⟩), .tuple #[.int .i64 ((n % r) * 1048576 + (bits .xor .i64 (n / r % b) (bits .and .i64 (n / r / b % o) (b - 1))) * 65536 + (n / r / b % o) * 64 + 0), .int .i64 0], .agg #[.int .i64 r, .int .i64 s, .int .i64 b, .int .i64 o, .int .i64 c], .agg #[.int .i64 (n % r), .int .i64 (bits .xor .i64 (n / r % b) (bits .and .i64 (n / r / b % o) (b - 1))), .int .i64 (n / r / b % o), .int .i64 0], .tuple #[.int .i64 ((n % r) * 1048576 + (bits .xor .i64 (n / r % b) (bits .and .i64 (n / r / b % o) (b - 1))) * 65536 + (n / r / b % o) * 64 + 0), .int .i64 0], .int .i64 ((n % r) * 1048576 + (bits .xor .i64 (n / r % b) (bits .and .i64 (n / r / b % o) (b - 1))) * 65536 + (n / r / b % o) * 64 + 0), .int .i64 0, .int .i64 ((n % r) * 1048576 + (bits .xor .i64 (n / r % b) (bits .and .i64 (n / r / b % o) (b - 1))) * 65536 + (n / r / b % o) * 64 + 0), .int .i64 (((n % r) * 1048576 + (bits .xor .i64 (n / r % b) (bits .and .i64 (n / r / b % o) (b - 1))) * 65536 + (n / r / b % o) * 64 + 0) / 64), .int .i64 0], defers := [] } (by kernel_rfl) ?_
        refine x_then ?_
        refine x_retc ?_
        refine x_ret (.tuple #[.int .i64 (((n % r) * 1048576 + (bits .xor .i64 (n / r % b) (bits .and .i64 (n / r / b % o) (b - 1))) * 65536 + (n / r / b % o) * 64 + 0) / 64), .int .i64 0]) (by kernel_rfl) (by kernel_rfl) ?_
        have e : ((n % r) * 1048576 + (bits .xor .i64 (n / r % b) (bits .and .i64 (n / r / b % o) (b - 1))) * 65536 + (n / r / b % o) * 64 + 0) / 64 = pgAt y r b o n := by simp only [pgAt, pgRank, pgRow, pgBank, pgBank0, if_neg h1p, if_neg h2p, if_pos h3p]; omega
        exact ⟨by rw [e], H.below⟩
    · skip
      have h2p := of_decide_eq_true h2
      refine x_t (by kernel_rfl) ?_
      refine x_seq ?_
      refine x_region ?_
      refine x_val (.int .i64 n) (by kernel_rfl) rfl (by kernel_rfl) ?_
      refine x_val (.pointer (some ⟨g1, 2, none⟩)) (by kernel_rfl) rfl (by kernel_rfl) ?_
      refine x_load1 H 1 g1 2 #[.int .i64 r, .int .i64 s, .int .i64 b, .int .i64 o, .int .i64 c] 67 (.int .i64 b) (by kernel_rfl) (by kernel_rfl) (by kernel_rfl) rfl (by kernel_rfl) ?_
      refine x_val (.pointer (some ⟨g1, 3, none⟩)) (by kernel_rfl) rfl (by kernel_rfl) ?_
      refine x_load1 H 1 g1 3 #[.int .i64 r, .int .i64 s, .int .i64 b, .int .i64 o, .int .i64 c] 67 (.int .i64 o) (by kernel_rfl) (by kernel_rfl) (by kernel_rfl) rfl (by kernel_rfl) ?_
      refine x_val (.pointer (some ⟨g1, 0, none⟩)) (by kernel_rfl) rfl (by kernel_rfl) ?_
      refine x_load1 H 1 g1 0 #[.int .i64 r, .int .i64 s, .int .i64 b, .int .i64 o, .int .i64 c] 67 (.int .i64 r) (by kernel_rfl) (by kernel_rfl) (by kernel_rfl) rfl (by kernel_rfl) ?_
      refine x_box' H #[.int .i64 b, .int .i64 o, .int .i64 r] 3 3 (by kernel_rfl) rfl (by kernel_rfl) ?_
      clear H
      intro v17 g4 H
      refine x_call (by kernel_rfl) rfl (by kernel_rfl) (digits_w n b o r (by omega) (by omega) (by omega) (by omega) (by omega) g4 3 _ (H.roOf [0] [.blk g4 #[.int .i64 b, .int .i64 o, .int .i64 r] 3] (by kernel_rfl))) ?_
      rintro _ v18 ⟨gx, cx, rfl, hD⟩
      refine ⟨_, rfl, ?_⟩
      replace H := H.more hD
      clear hD
      replace H : Hs [] w0 _ [.row (.slice (some ⟨gx, 0, none⟩) 3 cx) 3 1 3 ([.int .i64 (n % b), .int .i64 (n / b % o), .int .i64 (n / b / o % r)]), .blk g4 #[.int .i64 b, .int .i64 o, .int .i64 r] 3, .blk g2 #[.int .i64 0, .int .i64 0, .int .i64 0, .int .i64 0] 113, .blk g1 #[.int .i64 r, .int .i64 s, .int .i64 b, .int .i64 o, .int .i64 c] 67] := H
      refine x_val (.slice (some ⟨gx, 0, none⟩) 3 cx) (by kernel_rfl) rfl (by kernel_rfl) ?_
      refine x_nil ?_
      refine x_frame' { tmps := #[.agg #[.int .i64 r, .int .i64 s, .int .i64 b, .int .i64 o, .int .i64 c], .int .i64 y, .int .i64 n, .pointer (some ⟨g1, 0, none⟩), undef, undef, .int .i64 0, .int .i64 0, .pointer (some ⟨g2, 0, none⟩), undef, .slice (some ⟨gx, 0, none⟩) 3 cx, undef, undef, undef, .agg #[.int .i64 r, .int .i64 s, .int .i64 b, .int .i64 o, .int .i64 c], .int .i64 y, .bool true, .bool false, .bool false, .int .i64 n, .bool false, .bool false, .bool false, .int .i64 n, .agg #[.int .i64 r, .int .i64 s, .int .i64 b, .int .i64 o, .int .i64 c], .int .i64 ((pg : Nat) : Int), .bool false, .bool false, .int .i64 y, undef, undef, undef, undef, undef, undef, undef, undef, undef, undef, undef, undef, undef, undef, undef, undef, undef, undef, undef, undef, undef, .bool false, .bool false, undef, undef, undef, undef, undef, undef, undef, undef, undef, undef, undef, undef, undef, undef, undef, undef, undef, undef, undef, undef, undef, .bool true, .bool true, .int .i64 n, .pointer (some ⟨g1, 2, none⟩), .int .i64 b, .pointer (some ⟨g1, 3, none⟩), .int .i64 o, .pointer (some ⟨g1, 0, none⟩), .int .i64 r, .slice (some ⟨g4, 0, none⟩) 3 3, .slice (some ⟨gx, 0, none⟩) 3 cx, undef, undef, undef, undef, undef, undef, undef, undef, undef, undef, undef, undef, undef, undef, undef, undef, undef, undef, undef, undef, undef, undef, undef, undef, undef, undef, undef, undef, undef, undef, undef, undef, undef], defers := [] } (by kernel_rfl) ?_
      refine x_then ?_
      refine x_region_s 15 (fun w' => Hs [] w0 w' [.row (.slice (some ⟨gx, 0, none⟩) 3 cx) 3 1 3 ([.int .i64 (n % b), .int .i64 (n / b % o), .int .i64 (n / b / o % r)]), .blk g4 #[.int .i64 b, .int .i64 o, .int .i64 r] 3, .blk g1 #[.int .i64 r, .int .i64 s, .int .i64 b, .int .i64 o, .int .i64 c] 67]) (fun w' => Hs [] w0 w' [.row (.slice (some ⟨gx, 0, none⟩) 3 cx) 3 1 3 ([.int .i64 (n % b), .int .i64 (n / b % o), .int .i64 (n / b / o % r)]), .blk g4 #[.int .i64 b, .int .i64 o, .int .i64 r] 3, .blk g2 #[.int .i64 0, .int .i64 0, .int .i64 0, .int .i64 0] 113, .blk g1 #[.int .i64 r, .int .i64 s, .int .i64 b, .int .i64 o, .int .i64 c] 67]) (by kernel_rfl) (by kernel_rfl) (by kernel_rfl) hsShut (fun _ h => h.pick [0, 1, 3] _ (by decide) (by kernel_rfl)) H.drew ?_
      refine s_quiet 0 rfl (by kernel_rfl) (y_val (.slice (some ⟨gx, 0, none⟩) 3 cx) (by kernel_rfl) (fun _ => by kernel_rfl)) ?_
      refine s_quiet 1 rfl (by kernel_rfl) (y_val (.pointer (some ⟨gx, 0, none⟩)) (by kernel_rfl) (fun _ => by kernel_rfl)) ?_
      refine s_quiet 2 rfl (by kernel_rfl) (y_loadc gx 0 (.int .i64 (n % b)) (fun _ H => H.rowCell 0 rfl 0 rfl) (by kernel_rfl) (fun _ => by kernel_rfl)) ?_
      refine s_quiet 3 rfl (by kernel_rfl) (y_val (.slice (some ⟨gx, 0, none⟩) 3 cx) (by kernel_rfl) (fun _ => by kernel_rfl)) ?_
      refine s_quiet 4 rfl (by kernel_rfl) (y_val (.pointer (some ⟨gx, 1, none⟩)) (by kernel_rfl) (fun _ => by kernel_rfl)) ?_
      refine s_quiet 5 rfl (by kernel_rfl) (y_loadc gx 1 (.int .i64 (n / b % o)) (fun _ H => H.rowCell 0 rfl 1 rfl) (by kernel_rfl) (fun _ => by kernel_rfl)) ?_
      refine s_quiet 6 rfl (by kernel_rfl) (y_val (.slice (some ⟨gx, 0, none⟩) 3 cx) (by kernel_rfl) (fun _ => by kernel_rfl)) ?_
      refine s_quiet 7 rfl (by kernel_rfl) (y_val (.pointer (some ⟨gx, 2, none⟩)) (by kernel_rfl) (fun _ => by kernel_rfl)) ?_
      refine s_quiet 8 rfl (by kernel_rfl) (y_loadc gx 2 (.int .i64 (n / b / o % r)) (fun _ H => H.rowCell 0 rfl 2 rfl) (by kernel_rfl) (fun _ => by kernel_rfl)) ?_
      refine s_quiet 9 rfl (by kernel_rfl) (y_val (.pointer (some ⟨g2, 1, none⟩)) (by kernel_rfl) (fun _ => by kernel_rfl)) ?_
      refine s_one 10 rfl (by kernel_rfl) rfl ?_
      clear H
      intro v19 H
      refine x_store (t := 3) (v := .int .i64 (n % b)) H 2 g2 1 #[.int .i64 0, .int .i64 0, .int .i64 0, .int .i64 0] #[.int .i64 0, .int .i64 (n % b), .int .i64 0, .int .i64 0] 113 [.int .i64 (n % b)] [.row (.slice (some ⟨gx, 0, none⟩) 3 cx) 3 1 3 ([.int .i64 (n % b), .int .i64 (n / b % o), .int .i64 (n / b / o % r)]), .blk g4 #[.int .i64 b, .int .i64 o, .int .i64 r] 3, .blk g2 #[.int .i64 0, .int .i64 (n % b), .int .i64 0, .int .i64 0] 113, .blk g1 #[.int .i64 r, .int .i64 s, .int .i64 b, .int .i64 o, .int .i64 c] 67] (by kernel_rfl) rfl (by kernel_rfl) (by kernel_rfl) (by kernel_rfl) (by kernel_rfl) (by kernel_rfl) (by kernel_rfl) (by kernel_rfl) (by kernel_rfl) ?_
      clear H
      intro v20 H
      refine x_nil ?_
      refine x_then ?_
      refine ⟨fun w' => Hs [] w0 w' [.row (.slice (some ⟨gx, 0, none⟩) 3 cx) 3 1 3 ([.int .i64 (n % b), .int .i64 (n / b % o), .int .i64 (n / b / o % r)]), .blk g4 #[.int .i64 b, .int .i64 o, .int .i64 r] 3, .blk g1 #[.int .i64 r, .int .i64 s, .int .i64 b, .int .i64 o, .int .i64 c] 67], fun w' => Hs [] w0 w' [.row (.slice (some ⟨gx, 0, none⟩) 3 cx) 3 1 3 ([.int .i64 (n % b), .int .i64 (n / b % o), .int .i64 (n / b / o % r)]), .blk g4 #[.int .i64 b, .int .i64 o, .int .i64 r] 3, .blk g2 #[.int .i64 0, .int .i64 (n % b), .int .i64 0, .int .i64 0] 113, .blk g1 #[.int .i64 r, .int .i64 s, .int .i64 b, .int .i64 o, .int .i64 c] 67], H, hsShut, fun _ h => h.pick [0, 1, 3] _ (by decide) (by kernel_rfl), fun _ h => h.pick [0, 1, 2] _ (by decide) (by kernel_rfl), ?_⟩
      refine s_quiet 11 rfl (by kernel_rfl) (y_val (.pointer (some ⟨g2, 2, none⟩)) (by kernel_rfl) (fun _ => by kernel_rfl)) ?_
      refine s_one 12 rfl (by kernel_rfl) rfl ?_
      clear H
      intro v21 H
      refine x_store (t := 3) (v := .int .i64 (n / b % o)) H 2 g2 2 #[.int .i64 0, .int .i64 (n % b), .int .i64 0, .int .i64 0] #[.int .i64 0, .int .i64 (n % b), .int .i64 (n / b % o), .int .i64 0] 113 [.int .i64 (n / b % o)] [.row (.slice (some ⟨gx, 0, none⟩) 3 cx) 3 1 3 ([.int .i64 (n % b), .int .i64 (n / b % o), .int .i64 (n / b / o % r)]), .blk g4 #[.int .i64 b, .int .i64 o, .int .i64 r] 3, .blk g2 #[.int .i64 0, .int .i64 (n % b), .int .i64 (n / b % o), .int .i64 0] 113, .blk g1 #[.int .i64 r, .int .i64 s, .int .i64 b, .int .i64 o, .int .i64 c] 67] (by kernel_rfl) rfl (by kernel_rfl) (by kernel_rfl) (by kernel_rfl) (by kernel_rfl) (by kernel_rfl) (by kernel_rfl) (by kernel_rfl) (by kernel_rfl) ?_
      clear H
      intro v22 H
      refine x_nil ?_
      refine x_then ?_
      refine ⟨fun w' => Hs [] w0 w' [.row (.slice (some ⟨gx, 0, none⟩) 3 cx) 3 1 3 ([.int .i64 (n % b), .int .i64 (n / b % o), .int .i64 (n / b / o % r)]), .blk g4 #[.int .i64 b, .int .i64 o, .int .i64 r] 3, .blk g1 #[.int .i64 r, .int .i64 s, .int .i64 b, .int .i64 o, .int .i64 c] 67], fun w' => Hs [] w0 w' [.row (.slice (some ⟨gx, 0, none⟩) 3 cx) 3 1 3 ([.int .i64 (n % b), .int .i64 (n / b % o), .int .i64 (n / b / o % r)]), .blk g4 #[.int .i64 b, .int .i64 o, .int .i64 r] 3, .blk g2 #[.int .i64 0, .int .i64 (n % b), .int .i64 (n / b % o), .int .i64 0] 113, .blk g1 #[.int .i64 r, .int .i64 s, .int .i64 b, .int .i64 o, .int .i64 c] 67], H, hsShut, fun _ h => h.pick [0, 1, 3] _ (by decide) (by kernel_rfl), fun _ h => h.pick [0, 1, 2] _ (by decide) (by kernel_rfl), ?_⟩
      refine s_quiet 13 rfl (by kernel_rfl) (y_val (.pointer (some ⟨g2, 0, none⟩)) (by kernel_rfl) (fun _ => by kernel_rfl)) ?_
      refine s_one 14 rfl (by kernel_rfl) rfl ?_
      clear H
      intro v23 H
      refine x_store (t := 3) (v := .int .i64 (n / b / o % r)) H 2 g2 0 #[.int .i64 0, .int .i64 (n % b), .int .i64 (n / b % o), .int .i64 0] #[.int .i64 (n / b / o % r), .int .i64 (n % b), .int .i64 (n / b % o), .int .i64 0] 113 [.int .i64 (n / b / o % r)] [.row (.slice (some ⟨gx, 0, none⟩) 3 cx) 3 1 3 ([.int .i64 (n % b), .int .i64 (n / b % o), .int .i64 (n / b / o % r)]), .blk g4 #[.int .i64 b, .int .i64 o, .int .i64 r] 3, .blk g2 #[.int .i64 (n / b / o % r), .int .i64 (n % b), .int .i64 (n / b % o), .int .i64 0] 113, .blk g1 #[.int .i64 r, .int .i64 s, .int .i64 b, .int .i64 o, .int .i64 c] 67] (by kernel_rfl) rfl (by kernel_rfl) (by kernel_rfl) (by kernel_rfl) (by kernel_rfl) (by kernel_rfl) (by kernel_rfl) (by kernel_rfl) (by kernel_rfl) ?_
      clear H
      intro v24 H
      refine x_nil ?_
      refine x_then ?_
      refine ⟨fun w' => Hs [] w0 w' [.row (.slice (some ⟨gx, 0, none⟩) 3 cx) 3 1 3 ([.int .i64 (n % b), .int .i64 (n / b % o), .int .i64 (n / b / o % r)]), .blk g4 #[.int .i64 b, .int .i64 o, .int .i64 r] 3, .blk g2 #[.int .i64 (n / b / o % r), .int .i64 (n % b), .int .i64 (n / b % o), .int .i64 0] 113, .blk g1 #[.int .i64 r, .int .i64 s, .int .i64 b, .int .i64 o, .int .i64 c] 67], fun w' => Hs [] w0 w' [.row (.slice (some ⟨gx, 0, none⟩) 3 cx) 3 1 3 ([.int .i64 (n % b), .int .i64 (n / b % o), .int .i64 (n / b / o % r)]), .blk g4 #[.int .i64 b, .int .i64 o, .int .i64 r] 3, .blk g2 #[.int .i64 (n / b / o % r), .int .i64 (n % b), .int .i64 (n / b % o), .int .i64 0] 113, .blk g1 #[.int .i64 r, .int .i64 s, .int .i64 b, .int .i64 o, .int .i64 c] 67], H, hsShut, fun _ h => h.pick [0, 1, 2, 3] _ (by decide) (by kernel_rfl), fun _ h => h.pick [0, 1, 3] _ (by decide) (by kernel_rfl), ?_⟩
      refine s_done (by kernel_rfl) ?_
      clear H
      intro v25 H
      refine x_frame' { tmps := #[.agg #[.int .i64 r, .int .i64 s, .int .i64 b, .int .i64 o, .int .i64 c], .int .i64 y, .int .i64 n, .pointer (some ⟨g1, 0, none⟩), undef, undef, .int .i64 0, .int .i64 0, .pointer (some ⟨g2, 0, none⟩), undef, .slice (some ⟨gx, 0, none⟩) 3 cx, undef, undef, undef, .agg #[.int .i64 r, .int .i64 s, .int .i64 b, .int .i64 o, .int .i64 c], .int .i64 y, .bool true, .bool false, .bool false, .int .i64 n, .bool false, .bool false, .bool false, .int .i64 n, .agg #[.int .i64 r, .int .i64 s, .int .i64 b, .int .i64 o, .int .i64 c], .int .i64 ((pg : Nat) : Int), .bool false, .bool false, .int .i64 y, undef, undef, undef, undef, undef, undef, undef, undef, undef, undef, undef, undef, undef, undef, undef, undef, undef, undef, undef, undef, undef, .bool false, .bool false, undef, undef, undef, undef, undef, undef, undef, undef, undef, undef, undef, undef, undef, undef, undef, undef, undef, undef, undef, undef, undef, .bool true, .bool true, .int .i64 n, .pointer (some ⟨g1, 2, none⟩), .int .i64 b, .pointer (some ⟨g1, 3, none⟩), .int .i64 o, .pointer (some ⟨g1, 0, none⟩), .int .i64 r, .slice (some ⟨g4, 0, none⟩) 3 3, .slice (some ⟨gx, 0, none⟩) 3 cx, .slice (some ⟨gx, 0, none⟩) 3 cx, .pointer (some ⟨gx, 0, none⟩), .int .i64 (n % b), .slice (some ⟨gx, 0, none⟩) 3 cx, .pointer (some ⟨gx, 1, none⟩), .int .i64 (n / b % o), .slice (some ⟨gx, 0, none⟩) 3 cx, .pointer (some ⟨gx, 2, none⟩), .int .i64 (n / b / o % r), .pointer (some ⟨g2, 1, none⟩), .pointer (some ⟨g2, 2, none⟩), .pointer (some ⟨g2, 0, none⟩), undef, undef, undef, undef, undef, undef, undef, undef, undef, undef, undef, undef, undef, undef, undef, undef, undef, undef, undef, undef, undef], defers := [] } (by kernel_rfl) ?_
      refine x_blk ?_
      refine x_then ?_
      refine x_seq ?_
      refine x_seq ?_
      refine x_region ?_
      refine x_val (.int .i64 y) (by kernel_rfl) rfl (by kernel_rfl) ?_
      refine x_val (.bool (decide (y = 3))) (by kernel_rfl) rfl (by kernel_rfl) ?_
      refine x_nil ?_
      refine x_then ?_
      cases h4 : decide (y = 3)
      · skip
        have h4p := of_decide_eq_false h4
        refine x_f (by kernel_rfl) ?_
        refine x_skipc ?_
        refine x_then ?_
        refine x_seq ?_
        refine x_region ?_
        refine x_loadn (t := 67) H 3 g1 0 #[.int .i64 r, .int .i64 s, .int .i64 b, .int .i64 o, .int .i64 c] 67 [.int .i64 r, .int .i64 s, .int .i64 b, .int .i64 o, .int .i64 c] (by kernel_rfl) (by kernel_rfl) (by kernel_rfl) rfl (by kernel_rfl) (by kernel_rfl) ?_
        refine x_loadn (t := 113) H 2 g2 0 #[.int .i64 (n / b / o % r), .int .i64 (n % b), .int .i64 (n / b % o), .int .i64 0] 113 [.int .i64 (n / b / o % r), .int .i64 (n % b), .int .i64 (n / b % o), .int .i64 0] (by kernel_rfl) (by kernel_rfl) (by kernel_rfl) rfl (by kernel_rfl) (by kernel_rfl) ?_
        refine x_callB (.tuple #[.int .i64 ((n / b / o % r) * 1048576 + (n % b) * 65536 + (n / b % o) * 64 + 0), .int .i64 0]) H (by kernel_rfl) rfl (by kernel_rfl) (gIndex_in hg (by omega) (by omega) (by omega) (by omega) _) ?_
        clear H
        intro v26 H
        refine x_val (.tuple #[.int .i64 ((n / b / o % r) * 1048576 + (n % b) * 65536 + (n / b % o) * 64 + 0), .int .i64 0]) (by kernel_rfl) rfl (by kernel_rfl) ?_
        refine x_val (.int .i64 ((n / b / o % r) * 1048576 + (n % b) * 65536 + (n / b % o) * 64 + 0)) (by kernel_rfl) rfl (by kernel_rfl) ?_
        refine x_val (.int .i64 0) (by kernel_rfl) rfl (by kernel_rfl) ?_
        refine x_val (.int .i64 ((n / b / o % r) * 1048576 + (n % b) * 65536 + (n / b % o) * 64 + 0)) (by kernel_rfl) rfl (by kernel_rfl) ?_
        refine x_val (.int .i64 0) (by kernel_rfl) rfl (by kernel_rfl) ?_
        refine x_nil ?_
        refine x_then ?_
        refine x_seq ?_
        refine x_region ?_
        refine x_val (.int .i64 ((n / b / o % r) * 1048576 + (n % b) * 65536 + (n / b % o) * 64 + 0)) (by kernel_rfl) rfl (by kernel_rfl) ?_
        refine x_eq (.int .i64 (((n / b / o % r) * 1048576 + (n % b) * 65536 + (n / b % o) * 64 + 0) / 64)) (e_shr ((n / b / o % r) * 1048576 + (n % b) * 65536 + (n / b % o) * 64 + 0) 64 (by decide)) (by kernel_rfl) rfl (by kernel_rfl) ?_
        refine x_val (.int .i64 0) (by kernel_rfl) rfl (by kernel_rfl) ?_
        refine x_val (.int .i64 (((n / b / o % r) * 1048576 + (n % b) * 65536 + (n / b % o) * 64 + 0) / 64)) (by kernel_rfl) rfl (by kernel_rfl) ?_
        refine x_val (.int .i64 0) (by kernel_rfl) rfl (by kernel_rfl) ?_
        refine x_nil ?_
        refine x_frame' { tmps := #[.agg #[.int .i64 r, .int .i64 s, .int .i64 b, .int .i64 o, .int .i64 c], .int .i64 y, .int .i64 n, .pointer (some ⟨g1, 0, none⟩), undef, undef, .int .i64 (((n / b / o % r) * 1048576 + (n % b) * 65536 + (n / b % o) * 64 + 0) / 64), .int .i64 0, .pointer (some ⟨g2, 0, none⟩), undef, .slice (some ⟨gx, 0, none⟩) 3 cx, undef, .int .i64 ((n / b / o % r) * 1048576 + (n % b) * 65536 + (n / b % o) * 64 + 0), .int .i64 0, .agg #[.int .i64 r, .int .i64 s, .int .i64 b, .int .i64 o, .int .i64 c], .int .i64 y, .bool true, .bool false, .bool false, .int .i64 n, .bool false, .bool false, .bool false, .int .i64 n, .agg #[.int .i64 r, .int .i64 s, .int .i64 b, .int .i64 o, .int .i64 c], .int .i64 ((pg : Nat) : Int), .bool false, .bool false, .int .i64 y, undef, undef, undef, undef, undef, undef, undef, undef, undef, undef, undef, undef, undef, undef, undef, undef, undef, undef, undef, undef, undef, .bool false, .bool false, undef, undef, undef, undef, undef, undef, undef, undef, undef, undef, undef, undef, undef, undef, undef, undef, undef, undef, undef, undef, undef, .bool true, .bool true, .int .i64 n, .pointer (some ⟨g1, 2, none⟩), .int .i64 b, .pointer (some ⟨g1, 3, none⟩), .int .i64 o, .pointer (some ⟨g1, 0, none⟩), .int .i64 r, .slice (some ⟨g4, 0, none⟩) 3 3, .slice (some ⟨gx, 0, none⟩) 3 cx, .slice (some ⟨gx, 0, none⟩) 3 cx, .pointer (some ⟨gx, 0, none⟩), .int .i64 (n % b), .slice (some ⟨gx, 0, none⟩) 3 cx, .pointer (some ⟨gx, 1, none⟩), .int .i64 (n / b % o), .slice (some ⟨gx, 0, none⟩) 3 cx, .pointer (some ⟨gx, 2, none⟩), .int .i64 (n / b / o % r), .pointer (some ⟨g2, 1, none⟩), .pointer (some ⟨g2, 2, none⟩), .pointer (some ⟨g2, 0, none⟩), .int .i64 y, .bool false, undef, undef, undef, undef, undef, undef, undef, undef, undef, undef, .tuple #[.int .i64 ((n / b / o % r) * 1048576 + (n % b) * 65536 + (n / b % o) * 64 + 0), .int .i64 0], .agg #[.int .i64 r, .int .i64 s, .int .i64 b, .int .i64 o, .int .i64 c], .agg #[.int .i64 (n / b / o % r), .int .i64 (n % b), .int .i64 (n / b % o), .int .i64 0], .tuple #[.int .i64 ((n / b / o % r) * 1048576 + (n % b) * 65536 + (n / b % o) * 64 + 0), .int .i64 0], .int .i64 ((n / b / o % r) * 1048576 + (n % b) * 65536 + (n / b % o) * 64 + 0), .int .i64 0, .int .i64 ((n / b / o % r) * 1048576 + (n % b) * 65536 + (n / b % o) * 64 + 0), .int .i64 (((n / b / o % r) * 1048576 + (n % b) * 65536 + (n / b % o) * 64 + 0) / 64), .int .i64 0], defers := [] } (by kernel_rfl) ?_
        refine x_then ?_
        refine x_retc ?_
        refine x_ret (.tuple #[.int .i64 (((n / b / o % r) * 1048576 + (n % b) * 65536 + (n / b % o) * 64 + 0) / 64), .int .i64 0]) (by kernel_rfl) (by kernel_rfl) ?_
        have e : ((n / b / o % r) * 1048576 + (n % b) * 65536 + (n / b % o) * 64 + 0) / 64 = pgAt y r b o n := by simp only [pgAt, pgRank, pgRow, pgBank, pgBank0, if_neg h1p, if_pos h2p, if_neg h4p]; omega
        exact ⟨by rw [e], H.below⟩
      · skip
        have h4p := of_decide_eq_true h4
        refine x_t (by kernel_rfl) ?_
        refine x_region ?_
        refine x_val (.pointer (some ⟨g2, 1, none⟩)) (by kernel_rfl) rfl (by kernel_rfl) ?_
        refine x_load1 H 2 g2 1 #[.int .i64 (n / b / o % r), .int .i64 (n % b), .int .i64 (n / b % o), .int .i64 0] 113 (.int .i64 (n % b)) (by kernel_rfl) (by kernel_rfl) (by kernel_rfl) rfl (by kernel_rfl) ?_
        refine x_val (.pointer (some ⟨g2, 2, none⟩)) (by kernel_rfl) rfl (by kernel_rfl) ?_
        refine x_load1 H 2 g2 2 #[.int .i64 (n / b / o % r), .int .i64 (n % b), .int .i64 (n / b % o), .int .i64 0] 113 (.int .i64 (n / b % o)) (by kernel_rfl) (by kernel_rfl) (by kernel_rfl) rfl (by kernel_rfl) ?_
        refine x_val (.pointer (some ⟨g1, 2, none⟩)) (by kernel_rfl) rfl (by kernel_rfl) ?_
        refine x_load1 H 3 g1 2 #[.int .i64 r, .int .i64 s, .int .i64 b, .int .i64 o, .int .i64 c] 67 (.int .i64 b) (by kernel_rfl) (by kernel_rfl) (by kernel_rfl) rfl (by kernel_rfl) ?_
        refine x_ar (b - 1) ⟨by omega, by omega⟩ (by kernel_rfl) rfl (by kernel_rfl) ?_
        refine x_val (.int .i64 (bits .and .i64 (n / b % o) (b - 1))) (by kernel_rfl) rfl (by kernel_rfl) ?_
        refine x_val (.int .i64 (bits .xor .i64 (n % b) (bits .and .i64 (n / b % o) (b - 1)))) (by kernel_rfl) rfl (by kernel_rfl) ?_
        refine x_val (.pointer (some ⟨g2, 1, none⟩)) (by kernel_rfl) rfl (by kernel_rfl) ?_
        refine x_store (t := 3) (v := .int .i64 (bits .xor .i64 (n % b) (bits .and .i64 (n / b % o) (b - 1)))) H 2 g2 1 #[.int .i64 (n / b / o % r), .int .i64 (n % b), .int .i64 (n / b % o), .int .i64 0] #[.int .i64 (n / b / o % r), .int .i64 (bits .xor .i64 (n % b) (bits .and .i64 (n / b % o) (b - 1))), .int .i64 (n / b % o), .int .i64 0] 113 [.int .i64 (bits .xor .i64 (n % b) (bits .and .i64 (n / b % o) (b - 1)))] [.row (.slice (some ⟨gx, 0, none⟩) 3 cx) 3 1 3 ([.int .i64 (n % b), .int .i64 (n / b % o), .int .i64 (n / b / o % r)]), .blk g4 #[.int .i64 b, .int .i64 o, .int .i64 r] 3, .blk g2 #[.int .i64 (n / b / o % r), .int .i64 (bits .xor .i64 (n % b) (bits .and .i64 (n / b % o) (b - 1))), .int .i64 (n / b % o), .int .i64 0] 113, .blk g1 #[.int .i64 r, .int .i64 s, .int .i64 b, .int .i64 o, .int .i64 c] 67] (by kernel_rfl) rfl (by kernel_rfl) (by kernel_rfl) (by kernel_rfl) (by kernel_rfl) (by kernel_rfl) (by kernel_rfl) (by kernel_rfl) (by kernel_rfl) ?_
        clear H
        intro v27 H
        refine x_nil ?_
        refine x_frame' { tmps := #[.agg #[.int .i64 r, .int .i64 s, .int .i64 b, .int .i64 o, .int .i64 c], .int .i64 y, .int .i64 n, .pointer (some ⟨g1, 0, none⟩), undef, undef, .int .i64 0, .int .i64 0, .pointer (some ⟨g2, 0, none⟩), undef, .slice (some ⟨gx, 0, none⟩) 3 cx, undef, undef, undef, .agg #[.int .i64 r, .int .i64 s, .int .i64 b, .int .i64 o, .int .i64 c], .int .i64 y, .bool true, .bool false, .bool false, .int .i64 n, .bool false, .bool false, .bool false, .int .i64 n, .agg #[.int .i64 r, .int .i64 s, .int .i64 b, .int .i64 o, .int .i64 c], .int .i64 ((pg : Nat) : Int), .bool false, .bool false, .int .i64 y, undef, undef, undef, undef, undef, undef, undef, undef, undef, undef, undef, undef, undef, undef, undef, undef, undef, undef, undef, undef, undef, .bool false, .bool false, undef, undef, undef, undef, undef, undef, undef, undef, undef, undef, undef, undef, undef, undef, undef, undef, undef, undef, undef, undef, undef, .bool true, .bool true, .int .i64 n, .pointer (some ⟨g1, 2, none⟩), .int .i64 b, .pointer (some ⟨g1, 3, none⟩), .int .i64 o, .pointer (some ⟨g1, 0, none⟩), .int .i64 r, .slice (some ⟨g4, 0, none⟩) 3 3, .slice (some ⟨gx, 0, none⟩) 3 cx, .slice (some ⟨gx, 0, none⟩) 3 cx, .pointer (some ⟨gx, 0, none⟩), .int .i64 (n % b), .slice (some ⟨gx, 0, none⟩) 3 cx, .pointer (some ⟨gx, 1, none⟩), .int .i64 (n / b % o), .slice (some ⟨gx, 0, none⟩) 3 cx, .pointer (some ⟨gx, 2, none⟩), .int .i64 (n / b / o % r), .pointer (some ⟨g2, 1, none⟩), .pointer (some ⟨g2, 2, none⟩), .pointer (some ⟨g2, 0, none⟩), .int .i64 y, .bool true, .pointer (some ⟨g2, 1, none⟩), .int .i64 (n % b), .pointer (some ⟨g2, 2, none⟩), .int .i64 (n / b % o), .pointer (some ⟨g1, 2, none⟩), .int .i64 b, .int .i64 (b - 1), .int .i64 (bits .and .i64 (n / b % o) (b - 1)), .int .i64 (bits .xor .i64 (n % b) (bits .and .i64 (n / b % o) (b - 1))), .pointer (some ⟨g2, 1, none⟩), undef, undef, undef, undef, undef, undef, undef, undef, undef], defers := [] } (by kernel_rfl) ?_
        refine x_then ?_
        refine x_seq ?_
        refine x_region ?_
        refine x_loadn (t := 67) H 3 g1 0 #[.int .i64 r, .int .i64 s, .int .i64 b, .int .i64 o, .int .i64 c] 67 [.int .i64 r, .int .i64 s, .int .i64 b, .int .i64 o, .int .i64 c] (by kernel_rfl) (by kernel_rfl) (by kernel_rfl) rfl (by kernel_rfl) (by kernel_rfl) ?_
        refine x_loadn (t := 113) H 2 g2 0 #[.int .i64 (n / b / o % r), .int .i64 (bits .xor .i64 (n % b) (bits .and .i64 (n / b % o) (b - 1))), .int .i64 (n / b % o), .int .i64 0] 113 [.int .i64 (n / b / o % r), .int .i64 (bits .xor .i64 (n % b) (bits .and .i64 (n / b % o) (b - 1))), .int .i64 (n / b % o), .int .i64 0] (by kernel_rfl) (by kernel_rfl) (by kernel_rfl) rfl (by kernel_rfl) (by kernel_rfl) ?_
        refine x_callB (.tuple #[.int .i64 ((n / b / o % r) * 1048576 + (bits .xor .i64 (n % b) (bits .and .i64 (n / b % o) (b - 1))) * 65536 + (n / b % o) * 64 + 0), .int .i64 0]) H (by kernel_rfl) rfl (by kernel_rfl) (gIndex_in hg (by omega) (by omega) (by omega) (by omega) _) ?_
        clear H
        intro v28 H
        refine x_val (.tuple #[.int .i64 ((n / b / o % r) * 1048576 + (bits .xor .i64 (n % b) (bits .and .i64 (n / b % o) (b - 1))) * 65536 + (n / b % o) * 64 + 0), .int .i64 0]) (by kernel_rfl) rfl (by kernel_rfl) ?_
        refine x_val (.int .i64 ((n / b / o % r) * 1048576 + (bits .xor .i64 (n % b) (bits .and .i64 (n / b % o) (b - 1))) * 65536 + (n / b % o) * 64 + 0)) (by kernel_rfl) rfl (by kernel_rfl) ?_
        refine x_val (.int .i64 0) (by kernel_rfl) rfl (by kernel_rfl) ?_
        refine x_val (.int .i64 ((n / b / o % r) * 1048576 + (bits .xor .i64 (n % b) (bits .and .i64 (n / b % o) (b - 1))) * 65536 + (n / b % o) * 64 + 0)) (by kernel_rfl) rfl (by kernel_rfl) ?_
        refine x_val (.int .i64 0) (by kernel_rfl) rfl (by kernel_rfl) ?_
        refine x_nil ?_
        refine x_then ?_
        refine x_seq ?_
        refine x_region ?_
        refine x_val (.int .i64 ((n / b / o % r) * 1048576 + (bits .xor .i64 (n % b) (bits .and .i64 (n / b % o) (b - 1))) * 65536 + (n / b % o) * 64 + 0)) (by kernel_rfl) rfl (by kernel_rfl) ?_
        refine x_eq (.int .i64 (((n / b / o % r) * 1048576 + (bits .xor .i64 (n % b) (bits .and .i64 (n / b % o) (b - 1))) * 65536 + (n / b % o) * 64 + 0) / 64)) (e_shr ((n / b / o % r) * 1048576 + (bits .xor .i64 (n % b) (bits .and .i64 (n / b % o) (b - 1))) * 65536 + (n / b % o) * 64 + 0) 64 (by decide)) (by kernel_rfl) rfl (by kernel_rfl) ?_
        refine x_val (.int .i64 0) (by kernel_rfl) rfl (by kernel_rfl) ?_
        refine x_val (.int .i64 (((n / b / o % r) * 1048576 + (bits .xor .i64 (n % b) (bits .and .i64 (n / b % o) (b - 1))) * 65536 + (n / b % o) * 64 + 0) / 64)) (by kernel_rfl) rfl (by kernel_rfl) ?_
        refine x_val (.int .i64 0) (by kernel_rfl) rfl (by kernel_rfl) ?_
        refine x_nil ?_
        refine x_frame' { tmps := #[.agg #[.int .i64 r, .int .i64 s, .int .i64 b, .int .i64 o, .int .i64 c], .int .i64 y, .int .i64 n, .pointer (some ⟨g1, 0, none⟩), undef, undef, .int .i64 (((n / b / o % r) * 1048576 + (bits .xor .i64 (n % b) (bits .and .i64 (n / b % o) (b - 1))) * 65536 + (n / b % o) * 64 + 0) / 64), .int .i64 0, .pointer (some ⟨g2, 0, none⟩), undef, .slice (some ⟨gx, 0, none⟩) 3 cx, undef, .int .i64 ((n / b / o % r) * 1048576 + (bits .xor .i64 (n % b) (bits .and .i64 (n / b % o) (b - 1))) * 65536 + (n / b % o) * 64 + 0), .int .i64 0, .agg #[.int .i64 r, .int .i64 s, .int .i64 b, .int .i64 o, .int .i64 c], .int .i64 y, .bool true, .bool false, .bool false, .int .i64 n, .bool false, .bool false, .bool false, .int .i64 n, .agg #[.int .i64 r, .int .i64 s, .int .i64 b, .int .i64 o, .int .i64 c], .int .i64 ((pg : Nat) : Int), .bool false, .bool false, .int .i64 y, undef, undef, undef, undef, undef, undef, undef, undef, undef, undef, undef, undef, undef, undef, undef, undef, undef, undef, undef, undef, undef, .bool false, .bool false, undef, undef, undef, undef, undef, undef, undef, undef, undef, undef, undef, undef, undef, undef, undef, undef, undef, undef, undef, undef, undef, .bool true, .bool true, .int .i64 n, .pointer (some ⟨g1, 2, none⟩), .int .i64 b, .pointer (some ⟨g1, 3, none⟩), .int .i64 o, .pointer (some ⟨g1, 0, none⟩), .int .i64 r, .slice (some ⟨g4, 0, none⟩) 3 3, .slice (some ⟨gx, 0, none⟩) 3 cx, .slice (some ⟨gx, 0, none⟩) 3 cx, .pointer (some ⟨gx, 0, none⟩), .int .i64 (n % b), .slice (some ⟨gx, 0, none⟩) 3 cx, .pointer (some ⟨gx, 1, none⟩), .int .i64 (n / b % o), .slice (some ⟨gx, 0, none⟩) 3 cx, .pointer (some ⟨gx, 2, none⟩), .int .i64 (n / b / o % r), .pointer (some ⟨g2, 1, none⟩), .pointer (some ⟨g2, 2, none⟩), .pointer (some ⟨g2, 0, none⟩), .int .i64 y, .bool true, .pointer (some ⟨g2, 1, none⟩), .int .i64 (n % b), .pointer (some ⟨g2, 2, none⟩), .int .i64 (n / b % o), .pointer (some ⟨g1, 2, none⟩), .int .i64 b, .int .i64 (b - 1), .int .i64 (bits .and .i64 (n / b % o) (b - 1)), .int .i64 (bits .xor .i64 (n % b) (bits .and .i64 (n / b % o) (b - 1))), .pointer (some ⟨g2, 1, none⟩), .tuple #[.int .i64 ((n / b / o % r) * 1048576 + (bits .xor .i64 (n % b) (bits .and .i64 (n / b % o) (b - 1))) * 65536 + (n / b % o) * 64 + 0), .int .i64 0], .agg #[.int .i64 r, .int .i64 s, .int .i64 b, .int .i64 o, .int .i64 c], .agg #[.int .i64 (n / b / o % r), .int .i64 (bits .xor .i64 (n % b) (bits .and .i64 (n / b % o) (b - 1))), .int .i64 (n / b % o), .int .i64 0], .tuple #[.int .i64 ((n / b / o % r) * 1048576 + (bits .xor .i64 (n % b) (bits .and .i64 (n / b % o) (b - 1))) * 65536 + (n / b % o) * 64 + 0), .int .i64 0], .int .i64 ((n / b / o % r) * 1048576 + (bits .xor .i64 (n % b) (bits .and .i64 (n / b % o) (b - 1))) * 65536 + (n / b % o) * 64 + 0), .int .i64 0, .int .i64 ((n / b / o % r) * 1048576 + (bits .xor .i64 (n % b) (bits .and .i64 (n / b % o) (b - 1))) * 65536 + (n / b % o) * 64 + 0), .int .i64 (((n / b / o % r) * 1048576 + (bits .xor .i64 (n % b) (bits .and .i64 (n / b % o) (b - 1))) * 65536 + (n / b % o) * 64 + 0) / 64), .int .i64 0], defers := [] } (by kernel_rfl) ?_
        refine x_then ?_
        refine x_retc ?_
        refine x_ret (.tuple #[.int .i64 (((n / b / o % r) * 1048576 + (bits .xor .i64 (n % b) (bits .and .i64 (n / b % o) (b - 1))) * 65536 + (n / b % o) * 64 + 0) / 64), .int .i64 0]) (by kernel_rfl) (by kernel_rfl) ?_
        exfalso; omega
  · skip
    have h1p := of_decide_eq_true h1
    refine x_t (by kernel_rfl) ?_
    refine x_seq ?_
    refine x_region ?_
    refine x_val (.int .i64 n) (by kernel_rfl) rfl (by kernel_rfl) ?_
    refine x_val (.pointer (some ⟨g1, 3, none⟩)) (by kernel_rfl) rfl (by kernel_rfl) ?_
    refine x_load1 H 1 g1 3 #[.int .i64 r, .int .i64 s, .int .i64 b, .int .i64 o, .int .i64 c] 67 (.int .i64 o) (by kernel_rfl) (by kernel_rfl) (by kernel_rfl) rfl (by kernel_rfl) ?_
    refine x_val (.pointer (some ⟨g1, 2, none⟩)) (by kernel_rfl) rfl (by kernel_rfl) ?_
    refine x_load1 H 1 g1 2 #[.int .i64 r, .int .i64 s, .int .i64 b, .int .i64 o, .int .i64 c] 67 (.int .i64 b) (by kernel_rfl) (by kernel_rfl) (by kernel_rfl) rfl (by kernel_rfl) ?_
    refine x_val (.pointer (some ⟨g1, 0, none⟩)) (by kernel_rfl) rfl (by kernel_rfl) ?_
    refine x_load1 H 1 g1 0 #[.int .i64 r, .int .i64 s, .int .i64 b, .int .i64 o, .int .i64 c] 67 (.int .i64 r) (by kernel_rfl) (by kernel_rfl) (by kernel_rfl) rfl (by kernel_rfl) ?_
    refine x_box' H #[.int .i64 o, .int .i64 b, .int .i64 r] 3 3 (by kernel_rfl) rfl (by kernel_rfl) ?_
    clear H
    intro v29 g5 H
    refine x_call (by kernel_rfl) rfl (by kernel_rfl) (digits_w n o b r (by omega) (by omega) (by omega) (by omega) (by omega) g5 3 _ (H.roOf [0] [.blk g5 #[.int .i64 o, .int .i64 b, .int .i64 r] 3] (by kernel_rfl))) ?_
    rintro _ v30 ⟨gx, cx, rfl, hD⟩
    refine ⟨_, rfl, ?_⟩
    replace H := H.more hD
    clear hD
    replace H : Hs [] w0 _ [.row (.slice (some ⟨gx, 0, none⟩) 3 cx) 3 1 3 ([.int .i64 (n % o), .int .i64 (n / o % b), .int .i64 (n / o / b % r)]), .blk g5 #[.int .i64 o, .int .i64 b, .int .i64 r] 3, .blk g2 #[.int .i64 0, .int .i64 0, .int .i64 0, .int .i64 0] 113, .blk g1 #[.int .i64 r, .int .i64 s, .int .i64 b, .int .i64 o, .int .i64 c] 67] := H
    refine x_val (.slice (some ⟨gx, 0, none⟩) 3 cx) (by kernel_rfl) rfl (by kernel_rfl) ?_
    refine x_nil ?_
    refine x_frame' { tmps := #[.agg #[.int .i64 r, .int .i64 s, .int .i64 b, .int .i64 o, .int .i64 c], .int .i64 y, .int .i64 n, .pointer (some ⟨g1, 0, none⟩), undef, undef, .int .i64 0, .int .i64 0, .pointer (some ⟨g2, 0, none⟩), .slice (some ⟨gx, 0, none⟩) 3 cx, undef, undef, undef, undef, .agg #[.int .i64 r, .int .i64 s, .int .i64 b, .int .i64 o, .int .i64 c], .int .i64 y, .bool true, .bool false, .bool false, .int .i64 n, .bool false, .bool false, .bool false, .int .i64 n, .agg #[.int .i64 r, .int .i64 s, .int .i64 b, .int .i64 o, .int .i64 c], .int .i64 ((pg : Nat) : Int), .bool false, .bool false, .int .i64 y, undef, undef, undef, undef, undef, undef, undef, undef, undef, undef, undef, undef, undef, undef, undef, undef, undef, undef, undef, undef, undef, .bool true, .bool true, .int .i64 n, .pointer (some ⟨g1, 3, none⟩), .int .i64 o, .pointer (some ⟨g1, 2, none⟩), .int .i64 b, .pointer (some ⟨g1, 0, none⟩), .int .i64 r, .slice (some ⟨g5, 0, none⟩) 3 3, .slice (some ⟨gx, 0, none⟩) 3 cx, undef, undef, undef, undef, undef, undef, undef, undef, undef, undef, undef, undef, undef, undef, undef, undef, undef, undef, undef, undef, undef, undef, undef, undef, undef, undef, undef, undef, undef, undef, undef, undef, undef, undef, undef, undef, undef, undef, undef, undef, undef, undef, undef, undef, undef, undef, undef, undef, undef, undef, undef, undef, undef, undef, undef, undef], defers := [] } (by kernel_rfl) ?_
    refine x_then ?_
    refine x_region_s 15 (fun w' => Hs [] w0 w' [.row (.slice (some ⟨gx, 0, none⟩) 3 cx) 3 1 3 ([.int .i64 (n % o), .int .i64 (n / o % b), .int .i64 (n / o / b % r)]), .blk g5 #[.int .i64 o, .int .i64 b, .int .i64 r] 3, .blk g1 #[.int .i64 r, .int .i64 s, .int .i64 b, .int .i64 o, .int .i64 c] 67]) (fun w' => Hs [] w0 w' [.row (.slice (some ⟨gx, 0, none⟩) 3 cx) 3 1 3 ([.int .i64 (n % o), .int .i64 (n / o % b), .int .i64 (n / o / b % r)]), .blk g5 #[.int .i64 o, .int .i64 b, .int .i64 r] 3, .blk g2 #[.int .i64 0, .int .i64 0, .int .i64 0, .int .i64 0] 113, .blk g1 #[.int .i64 r, .int .i64 s, .int .i64 b, .int .i64 o, .int .i64 c] 67]) (by kernel_rfl) (by kernel_rfl) (by kernel_rfl) hsShut (fun _ h => h.pick [0, 1, 3] _ (by decide) (by kernel_rfl)) H.drew ?_
    refine s_quiet 0 rfl (by kernel_rfl) (y_val (.slice (some ⟨gx, 0, none⟩) 3 cx) (by kernel_rfl) (fun _ => by kernel_rfl)) ?_
    refine s_quiet 1 rfl (by kernel_rfl) (y_val (.pointer (some ⟨gx, 0, none⟩)) (by kernel_rfl) (fun _ => by kernel_rfl)) ?_
    refine s_quiet 2 rfl (by kernel_rfl) (y_loadc gx 0 (.int .i64 (n % o)) (fun _ H => H.rowCell 0 rfl 0 rfl) (by kernel_rfl) (fun _ => by kernel_rfl)) ?_
    refine s_quiet 3 rfl (by kernel_rfl) (y_val (.slice (some ⟨gx, 0, none⟩) 3 cx) (by kernel_rfl) (fun _ => by kernel_rfl)) ?_
    refine s_quiet 4 rfl (by kernel_rfl) (y_val (.pointer (some ⟨gx, 1, none⟩)) (by kernel_rfl) (fun _ => by kernel_rfl)) ?_
    refine s_quiet 5 rfl (by kernel_rfl) (y_loadc gx 1 (.int .i64 (n / o % b)) (fun _ H => H.rowCell 0 rfl 1 rfl) (by kernel_rfl) (fun _ => by kernel_rfl)) ?_
    refine s_quiet 6 rfl (by kernel_rfl) (y_val (.slice (some ⟨gx, 0, none⟩) 3 cx) (by kernel_rfl) (fun _ => by kernel_rfl)) ?_
    refine s_quiet 7 rfl (by kernel_rfl) (y_val (.pointer (some ⟨gx, 2, none⟩)) (by kernel_rfl) (fun _ => by kernel_rfl)) ?_
    refine s_quiet 8 rfl (by kernel_rfl) (y_loadc gx 2 (.int .i64 (n / o / b % r)) (fun _ H => H.rowCell 0 rfl 2 rfl) (by kernel_rfl) (fun _ => by kernel_rfl)) ?_
    refine s_quiet 9 rfl (by kernel_rfl) (y_val (.pointer (some ⟨g2, 2, none⟩)) (by kernel_rfl) (fun _ => by kernel_rfl)) ?_
    refine s_one 10 rfl (by kernel_rfl) rfl ?_
    clear H
    intro v31 H
    refine x_store (t := 3) (v := .int .i64 (n % o)) H 2 g2 2 #[.int .i64 0, .int .i64 0, .int .i64 0, .int .i64 0] #[.int .i64 0, .int .i64 0, .int .i64 (n % o), .int .i64 0] 113 [.int .i64 (n % o)] [.row (.slice (some ⟨gx, 0, none⟩) 3 cx) 3 1 3 ([.int .i64 (n % o), .int .i64 (n / o % b), .int .i64 (n / o / b % r)]), .blk g5 #[.int .i64 o, .int .i64 b, .int .i64 r] 3, .blk g2 #[.int .i64 0, .int .i64 0, .int .i64 (n % o), .int .i64 0] 113, .blk g1 #[.int .i64 r, .int .i64 s, .int .i64 b, .int .i64 o, .int .i64 c] 67] (by kernel_rfl) rfl (by kernel_rfl) (by kernel_rfl) (by kernel_rfl) (by kernel_rfl) (by kernel_rfl) (by kernel_rfl) (by kernel_rfl) (by kernel_rfl) ?_
    clear H
    intro v32 H
    refine x_nil ?_
    refine x_then ?_
    refine ⟨fun w' => Hs [] w0 w' [.row (.slice (some ⟨gx, 0, none⟩) 3 cx) 3 1 3 ([.int .i64 (n % o), .int .i64 (n / o % b), .int .i64 (n / o / b % r)]), .blk g5 #[.int .i64 o, .int .i64 b, .int .i64 r] 3, .blk g1 #[.int .i64 r, .int .i64 s, .int .i64 b, .int .i64 o, .int .i64 c] 67], fun w' => Hs [] w0 w' [.row (.slice (some ⟨gx, 0, none⟩) 3 cx) 3 1 3 ([.int .i64 (n % o), .int .i64 (n / o % b), .int .i64 (n / o / b % r)]), .blk g5 #[.int .i64 o, .int .i64 b, .int .i64 r] 3, .blk g2 #[.int .i64 0, .int .i64 0, .int .i64 (n % o), .int .i64 0] 113, .blk g1 #[.int .i64 r, .int .i64 s, .int .i64 b, .int .i64 o, .int .i64 c] 67], H, hsShut, fun _ h => h.pick [0, 1, 3] _ (by decide) (by kernel_rfl), fun _ h => h.pick [0, 1, 2] _ (by decide) (by kernel_rfl), ?_⟩
    refine s_quiet 11 rfl (by kernel_rfl) (y_val (.pointer (some ⟨g2, 1, none⟩)) (by kernel_rfl) (fun _ => by kernel_rfl)) ?_
    refine s_one 12 rfl (by kernel_rfl) rfl ?_
    clear H
    intro v33 H
    refine x_store (t := 3) (v := .int .i64 (n / o % b)) H 2 g2 1 #[.int .i64 0, .int .i64 0, .int .i64 (n % o), .int .i64 0] #[.int .i64 0, .int .i64 (n / o % b), .int .i64 (n % o), .int .i64 0] 113 [.int .i64 (n / o % b)] [.row (.slice (some ⟨gx, 0, none⟩) 3 cx) 3 1 3 ([.int .i64 (n % o), .int .i64 (n / o % b), .int .i64 (n / o / b % r)]), .blk g5 #[.int .i64 o, .int .i64 b, .int .i64 r] 3, .blk g2 #[.int .i64 0, .int .i64 (n / o % b), .int .i64 (n % o), .int .i64 0] 113, .blk g1 #[.int .i64 r, .int .i64 s, .int .i64 b, .int .i64 o, .int .i64 c] 67] (by kernel_rfl) rfl (by kernel_rfl) (by kernel_rfl) (by kernel_rfl) (by kernel_rfl) (by kernel_rfl) (by kernel_rfl) (by kernel_rfl) (by kernel_rfl) ?_
    clear H
    intro v34 H
    refine x_nil ?_
    refine x_then ?_
    refine ⟨fun w' => Hs [] w0 w' [.row (.slice (some ⟨gx, 0, none⟩) 3 cx) 3 1 3 ([.int .i64 (n % o), .int .i64 (n / o % b), .int .i64 (n / o / b % r)]), .blk g5 #[.int .i64 o, .int .i64 b, .int .i64 r] 3, .blk g1 #[.int .i64 r, .int .i64 s, .int .i64 b, .int .i64 o, .int .i64 c] 67], fun w' => Hs [] w0 w' [.row (.slice (some ⟨gx, 0, none⟩) 3 cx) 3 1 3 ([.int .i64 (n % o), .int .i64 (n / o % b), .int .i64 (n / o / b % r)]), .blk g5 #[.int .i64 o, .int .i64 b, .int .i64 r] 3, .blk g2 #[.int .i64 0, .int .i64 (n / o % b), .int .i64 (n % o), .int .i64 0] 113, .blk g1 #[.int .i64 r, .int .i64 s, .int .i64 b, .int .i64 o, .int .i64 c] 67], H, hsShut, fun _ h => h.pick [0, 1, 3] _ (by decide) (by kernel_rfl), fun _ h => h.pick [0, 1, 2] _ (by decide) (by kernel_rfl), ?_⟩
    refine s_quiet 13 rfl (by kernel_rfl) (y_val (.pointer (some ⟨g2, 0, none⟩)) (by kernel_rfl) (fun _ => by kernel_rfl)) ?_
    refine s_one 14 rfl (by kernel_rfl) rfl ?_
    clear H
    intro v35 H
    refine x_store (t := 3) (v := .int .i64 (n / o / b % r)) H 2 g2 0 #[.int .i64 0, .int .i64 (n / o % b), .int .i64 (n % o), .int .i64 0] #[.int .i64 (n / o / b % r), .int .i64 (n / o % b), .int .i64 (n % o), .int .i64 0] 113 [.int .i64 (n / o / b % r)] [.row (.slice (some ⟨gx, 0, none⟩) 3 cx) 3 1 3 ([.int .i64 (n % o), .int .i64 (n / o % b), .int .i64 (n / o / b % r)]), .blk g5 #[.int .i64 o, .int .i64 b, .int .i64 r] 3, .blk g2 #[.int .i64 (n / o / b % r), .int .i64 (n / o % b), .int .i64 (n % o), .int .i64 0] 113, .blk g1 #[.int .i64 r, .int .i64 s, .int .i64 b, .int .i64 o, .int .i64 c] 67] (by kernel_rfl) rfl (by kernel_rfl) (by kernel_rfl) (by kernel_rfl) (by kernel_rfl) (by kernel_rfl) (by kernel_rfl) (by kernel_rfl) (by kernel_rfl) ?_
    clear H
    intro v36 H
    refine x_nil ?_
    refine x_then ?_
    refine ⟨fun w' => Hs [] w0 w' [.row (.slice (some ⟨gx, 0, none⟩) 3 cx) 3 1 3 ([.int .i64 (n % o), .int .i64 (n / o % b), .int .i64 (n / o / b % r)]), .blk g5 #[.int .i64 o, .int .i64 b, .int .i64 r] 3, .blk g2 #[.int .i64 (n / o / b % r), .int .i64 (n / o % b), .int .i64 (n % o), .int .i64 0] 113, .blk g1 #[.int .i64 r, .int .i64 s, .int .i64 b, .int .i64 o, .int .i64 c] 67], fun w' => Hs [] w0 w' [.row (.slice (some ⟨gx, 0, none⟩) 3 cx) 3 1 3 ([.int .i64 (n % o), .int .i64 (n / o % b), .int .i64 (n / o / b % r)]), .blk g5 #[.int .i64 o, .int .i64 b, .int .i64 r] 3, .blk g2 #[.int .i64 (n / o / b % r), .int .i64 (n / o % b), .int .i64 (n % o), .int .i64 0] 113, .blk g1 #[.int .i64 r, .int .i64 s, .int .i64 b, .int .i64 o, .int .i64 c] 67], H, hsShut, fun _ h => h.pick [0, 1, 2, 3] _ (by decide) (by kernel_rfl), fun _ h => h.pick [0, 1, 3] _ (by decide) (by kernel_rfl), ?_⟩
    refine s_done (by kernel_rfl) ?_
    clear H
    intro v37 H
    refine x_frame' { tmps := #[.agg #[.int .i64 r, .int .i64 s, .int .i64 b, .int .i64 o, .int .i64 c], .int .i64 y, .int .i64 n, .pointer (some ⟨g1, 0, none⟩), undef, undef, .int .i64 0, .int .i64 0, .pointer (some ⟨g2, 0, none⟩), .slice (some ⟨gx, 0, none⟩) 3 cx, undef, undef, undef, undef, .agg #[.int .i64 r, .int .i64 s, .int .i64 b, .int .i64 o, .int .i64 c], .int .i64 y, .bool true, .bool false, .bool false, .int .i64 n, .bool false, .bool false, .bool false, .int .i64 n, .agg #[.int .i64 r, .int .i64 s, .int .i64 b, .int .i64 o, .int .i64 c], .int .i64 ((pg : Nat) : Int), .bool false, .bool false, .int .i64 y, undef, undef, undef, undef, undef, undef, undef, undef, undef, undef, undef, undef, undef, undef, undef, undef, undef, undef, undef, undef, undef, .bool true, .bool true, .int .i64 n, .pointer (some ⟨g1, 3, none⟩), .int .i64 o, .pointer (some ⟨g1, 2, none⟩), .int .i64 b, .pointer (some ⟨g1, 0, none⟩), .int .i64 r, .slice (some ⟨g5, 0, none⟩) 3 3, .slice (some ⟨gx, 0, none⟩) 3 cx, .slice (some ⟨gx, 0, none⟩) 3 cx, .pointer (some ⟨gx, 0, none⟩), .int .i64 (n % o), .slice (some ⟨gx, 0, none⟩) 3 cx, .pointer (some ⟨gx, 1, none⟩), .int .i64 (n / o % b), .slice (some ⟨gx, 0, none⟩) 3 cx, .pointer (some ⟨gx, 2, none⟩), .int .i64 (n / o / b % r), .pointer (some ⟨g2, 2, none⟩), .pointer (some ⟨g2, 1, none⟩), .pointer (some ⟨g2, 0, none⟩), undef, undef, undef, undef, undef, undef, undef, undef, undef, undef, undef, undef, undef, undef, undef, undef, undef, undef, undef, undef, undef, undef, undef, undef, undef, undef, undef, undef, undef, undef, undef, undef, undef, undef, undef, undef, undef, undef, undef, undef, undef, undef, undef, undef], defers := [] } (by kernel_rfl) ?_
    refine x_blk ?_
    refine x_then ?_
    refine x_seq ?_
    refine x_seq ?_
    refine x_region ?_
    refine x_val (.int .i64 y) (by kernel_rfl) rfl (by kernel_rfl) ?_
    refine x_val (.bool (decide (y = 3))) (by kernel_rfl) rfl (by kernel_rfl) ?_
    refine x_nil ?_
    refine x_then ?_
    cases h5 : decide (y = 3)
    · skip
      have h5p := of_decide_eq_false h5
      refine x_f (by kernel_rfl) ?_
      refine x_skipc ?_
      refine x_then ?_
      refine x_seq ?_
      refine x_region ?_
      refine x_loadn (t := 67) H 3 g1 0 #[.int .i64 r, .int .i64 s, .int .i64 b, .int .i64 o, .int .i64 c] 67 [.int .i64 r, .int .i64 s, .int .i64 b, .int .i64 o, .int .i64 c] (by kernel_rfl) (by kernel_rfl) (by kernel_rfl) rfl (by kernel_rfl) (by kernel_rfl) ?_
      refine x_loadn (t := 113) H 2 g2 0 #[.int .i64 (n / o / b % r), .int .i64 (n / o % b), .int .i64 (n % o), .int .i64 0] 113 [.int .i64 (n / o / b % r), .int .i64 (n / o % b), .int .i64 (n % o), .int .i64 0] (by kernel_rfl) (by kernel_rfl) (by kernel_rfl) rfl (by kernel_rfl) (by kernel_rfl) ?_
      refine x_callB (.tuple #[.int .i64 ((n / o / b % r) * 1048576 + (n / o % b) * 65536 + (n % o) * 64 + 0), .int .i64 0]) H (by kernel_rfl) rfl (by kernel_rfl) (gIndex_in hg (by omega) (by omega) (by omega) (by omega) _) ?_
      clear H
      intro v38 H
      refine x_val (.tuple #[.int .i64 ((n / o / b % r) * 1048576 + (n / o % b) * 65536 + (n % o) * 64 + 0), .int .i64 0]) (by kernel_rfl) rfl (by kernel_rfl) ?_
      refine x_val (.int .i64 ((n / o / b % r) * 1048576 + (n / o % b) * 65536 + (n % o) * 64 + 0)) (by kernel_rfl) rfl (by kernel_rfl) ?_
      refine x_val (.int .i64 0) (by kernel_rfl) rfl (by kernel_rfl) ?_
      refine x_val (.int .i64 ((n / o / b % r) * 1048576 + (n / o % b) * 65536 + (n % o) * 64 + 0)) (by kernel_rfl) rfl (by kernel_rfl) ?_
      refine x_val (.int .i64 0) (by kernel_rfl) rfl (by kernel_rfl) ?_
      refine x_nil ?_
      refine x_then ?_
      refine x_seq ?_
      refine x_region ?_
      refine x_val (.int .i64 ((n / o / b % r) * 1048576 + (n / o % b) * 65536 + (n % o) * 64 + 0)) (by kernel_rfl) rfl (by kernel_rfl) ?_
      refine x_eq (.int .i64 (((n / o / b % r) * 1048576 + (n / o % b) * 65536 + (n % o) * 64 + 0) / 64)) (e_shr ((n / o / b % r) * 1048576 + (n / o % b) * 65536 + (n % o) * 64 + 0) 64 (by decide)) (by kernel_rfl) rfl (by kernel_rfl) ?_
      refine x_val (.int .i64 0) (by kernel_rfl) rfl (by kernel_rfl) ?_
      refine x_val (.int .i64 (((n / o / b % r) * 1048576 + (n / o % b) * 65536 + (n % o) * 64 + 0) / 64)) (by kernel_rfl) rfl (by kernel_rfl) ?_
      refine x_val (.int .i64 0) (by kernel_rfl) rfl (by kernel_rfl) ?_
      refine x_nil ?_
      refine x_frame' { tmps := #[.agg #[.int .i64 r, .int .i64 s, .int .i64 b, .int .i64 o, .int .i64 c], .int .i64 y, .int .i64 n, .pointer (some ⟨g1, 0, none⟩), undef, undef, .int .i64 (((n / o / b % r) * 1048576 + (n / o % b) * 65536 + (n % o) * 64 + 0) / 64), .int .i64 0, .pointer (some ⟨g2, 0, none⟩), .slice (some ⟨gx, 0, none⟩) 3 cx, undef, undef, .int .i64 ((n / o / b % r) * 1048576 + (n / o % b) * 65536 + (n % o) * 64 + 0), .int .i64 0, .agg #[.int .i64 r, .int .i64 s, .int .i64 b, .int .i64 o, .int .i64 c], .int .i64 y, .bool true, .bool false, .bool false, .int .i64 n, .bool false, .bool false, .bool false, .int .i64 n, .agg #[.int .i64 r, .int .i64 s, .int .i64 b, .int .i64 o, .int .i64 c], .int .i64 ((pg : Nat) : Int), .bool false, .bool false, .int .i64 y, undef, undef, undef, undef, undef, undef, undef, undef, undef, undef, undef, undef, undef, undef, undef, undef, undef, undef, undef, undef, undef, .bool true, .bool true, .int .i64 n, .pointer (some ⟨g1, 3, none⟩), .int .i64 o, .pointer (some ⟨g1, 2, none⟩), .int .i64 b, .pointer (some ⟨g1, 0, none⟩), .int .i64 r, .slice (some ⟨g5, 0, none⟩) 3 3, .slice (some ⟨gx, 0, none⟩) 3 cx, .slice (some ⟨gx, 0, none⟩) 3 cx, .pointer (some ⟨gx, 0, none⟩), .int .i64 (n % o), .slice (some ⟨gx, 0, none⟩) 3 cx, .pointer (some ⟨gx, 1, none⟩), .int .i64 (n / o % b), .slice (some ⟨gx, 0, none⟩) 3 cx, .pointer (some ⟨gx, 2, none⟩), .int .i64 (n / o / b % r), .pointer (some ⟨g2, 2, none⟩), .pointer (some ⟨g2, 1, none⟩), .pointer (some ⟨g2, 0, none⟩), undef, undef, undef, undef, undef, undef, undef, undef, undef, undef, undef, undef, undef, undef, undef, undef, undef, undef, undef, undef, undef, undef, undef, .int .i64 y, .bool false, undef, undef, undef, undef, undef, undef, undef, undef, undef, undef, .tuple #[.int .i64 ((n / o / b % r) * 1048576 + (n / o % b) * 65536 + (n % o) * 64 + 0), .int .i64 0], .agg #[.int .i64 r, .int .i64 s, .int .i64 b, .int .i64 o, .int .i64 c], .agg #[.int .i64 (n / o / b % r), .int .i64 (n / o % b), .int .i64 (n % o), .int .i64 0], .tuple #[.int .i64 ((n / o / b % r) * 1048576 + (n / o % b) * 65536 + (n % o) * 64 + 0), .int .i64 0], .int .i64 ((n / o / b % r) * 1048576 + (n / o % b) * 65536 + (n % o) * 64 + 0), .int .i64 0, .int .i64 ((n / o / b % r) * 1048576 + (n / o % b) * 65536 + (n % o) * 64 + 0), .int .i64 (((n / o / b % r) * 1048576 + (n / o % b) * 65536 + (n % o) * 64 + 0) / 64), .int .i64 0], defers := [] } (by kernel_rfl) ?_
      refine x_then ?_
      refine x_retc ?_
      refine x_ret (.tuple #[.int .i64 (((n / o / b % r) * 1048576 + (n / o % b) * 65536 + (n % o) * 64 + 0) / 64), .int .i64 0]) (by kernel_rfl) (by kernel_rfl) ?_
      have e : ((n / o / b % r) * 1048576 + (n / o % b) * 65536 + (n % o) * 64 + 0) / 64 = pgAt y r b o n := by simp only [pgAt, pgRank, pgRow, pgBank, pgBank0, if_pos h1p, if_neg h5p]; omega
      exact ⟨by rw [e], H.below⟩
    · skip
      have h5p := of_decide_eq_true h5
      refine x_t (by kernel_rfl) ?_
      refine x_region ?_
      refine x_val (.pointer (some ⟨g2, 1, none⟩)) (by kernel_rfl) rfl (by kernel_rfl) ?_
      refine x_load1 H 2 g2 1 #[.int .i64 (n / o / b % r), .int .i64 (n / o % b), .int .i64 (n % o), .int .i64 0] 113 (.int .i64 (n / o % b)) (by kernel_rfl) (by kernel_rfl) (by kernel_rfl) rfl (by kernel_rfl) ?_
      refine x_val (.pointer (some ⟨g2, 2, none⟩)) (by kernel_rfl) rfl (by kernel_rfl) ?_
      refine x_load1 H 2 g2 2 #[.int .i64 (n / o / b % r), .int .i64 (n / o % b), .int .i64 (n % o), .int .i64 0] 113 (.int .i64 (n % o)) (by kernel_rfl) (by kernel_rfl) (by kernel_rfl) rfl (by kernel_rfl) ?_
      refine x_val (.pointer (some ⟨g1, 2, none⟩)) (by kernel_rfl) rfl (by kernel_rfl) ?_
      refine x_load1 H 3 g1 2 #[.int .i64 r, .int .i64 s, .int .i64 b, .int .i64 o, .int .i64 c] 67 (.int .i64 b) (by kernel_rfl) (by kernel_rfl) (by kernel_rfl) rfl (by kernel_rfl) ?_
      refine x_ar (b - 1) ⟨by omega, by omega⟩ (by kernel_rfl) rfl (by kernel_rfl) ?_
      refine x_val (.int .i64 (bits .and .i64 (n % o) (b - 1))) (by kernel_rfl) rfl (by kernel_rfl) ?_
      refine x_val (.int .i64 (bits .xor .i64 (n / o % b) (bits .and .i64 (n % o) (b - 1)))) (by kernel_rfl) rfl (by kernel_rfl) ?_
      refine x_val (.pointer (some ⟨g2, 1, none⟩)) (by kernel_rfl) rfl (by kernel_rfl) ?_
      refine x_store (t := 3) (v := .int .i64 (bits .xor .i64 (n / o % b) (bits .and .i64 (n % o) (b - 1)))) H 2 g2 1 #[.int .i64 (n / o / b % r), .int .i64 (n / o % b), .int .i64 (n % o), .int .i64 0] #[.int .i64 (n / o / b % r), .int .i64 (bits .xor .i64 (n / o % b) (bits .and .i64 (n % o) (b - 1))), .int .i64 (n % o), .int .i64 0] 113 [.int .i64 (bits .xor .i64 (n / o % b) (bits .and .i64 (n % o) (b - 1)))] [.row (.slice (some ⟨gx, 0, none⟩) 3 cx) 3 1 3 ([.int .i64 (n % o), .int .i64 (n / o % b), .int .i64 (n / o / b % r)]), .blk g5 #[.int .i64 o, .int .i64 b, .int .i64 r] 3, .blk g2 #[.int .i64 (n / o / b % r), .int .i64 (bits .xor .i64 (n / o % b) (bits .and .i64 (n % o) (b - 1))), .int .i64 (n % o), .int .i64 0] 113, .blk g1 #[.int .i64 r, .int .i64 s, .int .i64 b, .int .i64 o, .int .i64 c] 67] (by kernel_rfl) rfl (by kernel_rfl) (by kernel_rfl) (by kernel_rfl) (by kernel_rfl) (by kernel_rfl) (by kernel_rfl) (by kernel_rfl) (by kernel_rfl) ?_
      clear H
      intro v39 H
      refine x_nil ?_
      refine x_frame' { tmps := #[.agg #[.int .i64 r, .int .i64 s, .int .i64 b, .int .i64 o, .int .i64 c], .int .i64 y, .int .i64 n, .pointer (some ⟨g1, 0, none⟩), undef, undef, .int .i64 0, .int .i64 0, .pointer (some ⟨g2, 0, none⟩), .slice (some ⟨gx, 0, none⟩) 3 cx, undef, undef, undef, undef, .agg #[.int .i64 r, .int .i64 s, .int .i64 b, .int .i64 o, .int .i64 c], .int .i64 y, .bool true, .bool false, .bool false, .int .i64 n, .bool false, .bool false, .bool false, .int .i64 n, .agg #[.int .i64 r, .int .i64 s, .int .i64 b, .int .i64 o, .int .i64 c], .int .i64 ((pg : Nat) : Int), .bool false, .bool false, .int .i64 y, undef, undef, undef, undef, undef, undef, undef, undef, undef, undef, undef, undef, undef, undef, undef, undef, undef, undef, undef, undef, undef, .bool true, .bool true, .int .i64 n, .pointer (some ⟨g1, 3, none⟩), .int .i64 o, .pointer (some ⟨g1, 2, none⟩), .int .i64 b, .pointer (some ⟨g1, 0, none⟩), .int .i64 r, .slice (some ⟨g5, 0, none⟩) 3 3, .slice (some ⟨gx, 0, none⟩) 3 cx, .slice (some ⟨gx, 0, none⟩) 3 cx, .pointer (some ⟨gx, 0, none⟩), .int .i64 (n % o), .slice (some ⟨gx, 0, none⟩) 3 cx, .pointer (some ⟨gx, 1, none⟩), .int .i64 (n / o % b), .slice (some ⟨gx, 0, none⟩) 3 cx, .pointer (some ⟨gx, 2, none⟩), .int .i64 (n / o / b % r), .pointer (some ⟨g2, 2, none⟩), .pointer (some ⟨g2, 1, none⟩), .pointer (some ⟨g2, 0, none⟩), undef, undef, undef, undef, undef, undef, undef, undef, undef, undef, undef, undef, undef, undef, undef, undef, undef, undef, undef, undef, undef, undef, undef, .int .i64 y, .bool true, .pointer (some ⟨g2, 1, none⟩), .int .i64 (n / o % b), .pointer (some ⟨g2, 2, none⟩), .int .i64 (n % o), .pointer (some ⟨g1, 2, none⟩), .int .i64 b, .int .i64 (b - 1), .int .i64 (bits .and .i64 (n % o) (b - 1)), .int .i64 (bits .xor .i64 (n / o % b) (bits .and .i64 (n % o) (b - 1))), .pointer (some ⟨g2, 1, none⟩), undef, undef, undef, undef, undef, undef, undef, undef, undef], defers := [] } (by kernel_rfl) ?_
      refine x_then ?_
      refine x_seq ?_
      refine x_region ?_
      refine x_loadn (t := 67) H 3 g1 0 #[.int .i64 r, .int .i64 s, .int .i64 b, .int .i64 o, .int .i64 c] 67 [.int .i64 r, .int .i64 s, .int .i64 b, .int .i64 o, .int .i64 c] (by kernel_rfl) (by kernel_rfl) (by kernel_rfl) rfl (by kernel_rfl) (by kernel_rfl) ?_
      refine x_loadn (t := 113) H 2 g2 0 #[.int .i64 (n / o / b % r), .int .i64 (bits .xor .i64 (n / o % b) (bits .and .i64 (n % o) (b - 1))), .int .i64 (n % o), .int .i64 0] 113 [.int .i64 (n / o / b % r), .int .i64 (bits .xor .i64 (n / o % b) (bits .and .i64 (n % o) (b - 1))), .int .i64 (n % o), .int .i64 0] (by kernel_rfl) (by kernel_rfl) (by kernel_rfl) rfl (by kernel_rfl) (by kernel_rfl) ?_
      refine x_callB (.tuple #[.int .i64 ((n / o / b % r) * 1048576 + (bits .xor .i64 (n / o % b) (bits .and .i64 (n % o) (b - 1))) * 65536 + (n % o) * 64 + 0), .int .i64 0]) H (by kernel_rfl) rfl (by kernel_rfl) (gIndex_in hg (by omega) (by omega) (by omega) (by omega) _) ?_
      clear H
      intro v40 H
      refine x_val (.tuple #[.int .i64 ((n / o / b % r) * 1048576 + (bits .xor .i64 (n / o % b) (bits .and .i64 (n % o) (b - 1))) * 65536 + (n % o) * 64 + 0), .int .i64 0]) (by kernel_rfl) rfl (by kernel_rfl) ?_
      refine x_val (.int .i64 ((n / o / b % r) * 1048576 + (bits .xor .i64 (n / o % b) (bits .and .i64 (n % o) (b - 1))) * 65536 + (n % o) * 64 + 0)) (by kernel_rfl) rfl (by kernel_rfl) ?_
      refine x_val (.int .i64 0) (by kernel_rfl) rfl (by kernel_rfl) ?_
      refine x_val (.int .i64 ((n / o / b % r) * 1048576 + (bits .xor .i64 (n / o % b) (bits .and .i64 (n % o) (b - 1))) * 65536 + (n % o) * 64 + 0)) (by kernel_rfl) rfl (by kernel_rfl) ?_
      refine x_val (.int .i64 0) (by kernel_rfl) rfl (by kernel_rfl) ?_
      refine x_nil ?_
      refine x_then ?_
      refine x_seq ?_
      refine x_region ?_
      refine x_val (.int .i64 ((n / o / b % r) * 1048576 + (bits .xor .i64 (n / o % b) (bits .and .i64 (n % o) (b - 1))) * 65536 + (n % o) * 64 + 0)) (by kernel_rfl) rfl (by kernel_rfl) ?_
      refine x_eq (.int .i64 (((n / o / b % r) * 1048576 + (bits .xor .i64 (n / o % b) (bits .and .i64 (n % o) (b - 1))) * 65536 + (n % o) * 64 + 0) / 64)) (e_shr ((n / o / b % r) * 1048576 + (bits .xor .i64 (n / o % b) (bits .and .i64 (n % o) (b - 1))) * 65536 + (n % o) * 64 + 0) 64 (by decide)) (by kernel_rfl) rfl (by kernel_rfl) ?_
      refine x_val (.int .i64 0) (by kernel_rfl) rfl (by kernel_rfl) ?_
      refine x_val (.int .i64 (((n / o / b % r) * 1048576 + (bits .xor .i64 (n / o % b) (bits .and .i64 (n % o) (b - 1))) * 65536 + (n % o) * 64 + 0) / 64)) (by kernel_rfl) rfl (by kernel_rfl) ?_
      refine x_val (.int .i64 0) (by kernel_rfl) rfl (by kernel_rfl) ?_
      refine x_nil ?_
      refine x_frame' { tmps := #[.agg #[.int .i64 r, .int .i64 s, .int .i64 b, .int .i64 o, .int .i64 c], .int .i64 y, .int .i64 n, .pointer (some ⟨g1, 0, none⟩), undef, undef, .int .i64 (((n / o / b % r) * 1048576 + (bits .xor .i64 (n / o % b) (bits .and .i64 (n % o) (b - 1))) * 65536 + (n % o) * 64 + 0) / 64), .int .i64 0, .pointer (some ⟨g2, 0, none⟩), .slice (some ⟨gx, 0, none⟩) 3 cx, undef, undef, .int .i64 ((n / o / b % r) * 1048576 + (bits .xor .i64 (n / o % b) (bits .and .i64 (n % o) (b - 1))) * 65536 + (n % o) * 64 + 0), .int .i64 0, .agg #[.int .i64 r, .int .i64 s, .int .i64 b, .int .i64 o, .int .i64 c], .int .i64 y, .bool true, .bool false, .bool false, .int .i64 n, .bool false, .bool false, .bool false, .int .i64 n, .agg #[.int .i64 r, .int .i64 s, .int .i64 b, .int .i64 o, .int .i64 c], .int .i64 ((pg : Nat) : Int), .bool false, .bool false, .int .i64 y, undef, undef, undef, undef, undef, undef, undef, undef, undef, undef, undef, undef, undef, undef, undef, undef, undef, undef, undef, undef, undef, .bool true, .bool true, .int .i64 n, .pointer (some ⟨g1, 3, none⟩), .int .i64 o, .pointer (some ⟨g1, 2, none⟩), .int .i64 b, .pointer (some ⟨g1, 0, none⟩), .int .i64 r, .slice (some ⟨g5, 0, none⟩) 3 3, .slice (some ⟨gx, 0, none⟩) 3 cx, .slice (some ⟨gx, 0, none⟩) 3 cx, .pointer (some ⟨gx, 0, none⟩), .int .i64 (n % o), .slice (some ⟨gx, 0, none⟩) 3 cx, .pointer (some ⟨gx, 1, none⟩), .int .i64 (n / o % b), .slice (some ⟨gx, 0, none⟩) 3 cx, .pointer (some ⟨gx, 2, none⟩), .int .i64 (n / o / b % r), .pointer (some ⟨g2, 2, none⟩), .pointer (some ⟨g2, 1, none⟩), .pointer (some ⟨g2, 0, none⟩), undef, undef, undef, undef, undef, undef, undef, undef, undef, undef, undef, undef, undef, undef, undef, undef, undef, undef, undef, undef, undef, undef, undef, .int .i64 y, .bool true, .pointer (some ⟨g2, 1, none⟩), .int .i64 (n / o % b), .pointer (some ⟨g2, 2, none⟩), .int .i64 (n % o), .pointer (some ⟨g1, 2, none⟩), .int .i64 b, .int .i64 (b - 1), .int .i64 (bits .and .i64 (n % o) (b - 1)), .int .i64 (bits .xor .i64 (n / o % b) (bits .and .i64 (n % o) (b - 1))), .pointer (some ⟨g2, 1, none⟩), .tuple #[.int .i64 ((n / o / b % r) * 1048576 + (bits .xor .i64 (n / o % b) (bits .and .i64 (n % o) (b - 1))) * 65536 + (n % o) * 64 + 0), .int .i64 0], .agg #[.int .i64 r, .int .i64 s, .int .i64 b, .int .i64 o, .int .i64 c], .agg #[.int .i64 (n / o / b % r), .int .i64 (bits .xor .i64 (n / o % b) (bits .and .i64 (n % o) (b - 1))), .int .i64 (n % o), .int .i64 0], .tuple #[.int .i64 ((n / o / b % r) * 1048576 + (bits .xor .i64 (n / o % b) (bits .and .i64 (n % o) (b - 1))) * 65536 + (n % o) * 64 + 0), .int .i64 0], .int .i64 ((n / o / b % r) * 1048576 + (bits .xor .i64 (n / o % b) (bits .and .i64 (n % o) (b - 1))) * 65536 + (n % o) * 64 + 0), .int .i64 0, .int .i64 ((n / o / b % r) * 1048576 + (bits .xor .i64 (n / o % b) (bits .and .i64 (n % o) (b - 1))) * 65536 + (n % o) * 64 + 0), .int .i64 (((n / o / b % r) * 1048576 + (bits .xor .i64 (n / o % b) (bits .and .i64 (n % o) (b - 1))) * 65536 + (n % o) * 64 + 0) / 64), .int .i64 0], defers := [] } (by kernel_rfl) ?_
      refine x_then ?_
      refine x_retc ?_
      refine x_ret (.tuple #[.int .i64 (((n / o / b % r) * 1048576 + (bits .xor .i64 (n / o % b) (bits .and .i64 (n % o) (b - 1))) * 65536 + (n % o) * 64 + 0) / 64), .int .i64 0]) (by kernel_rfl) (by kernel_rfl) ?_
      exfalso; omega

theorem pgAt_bd {r s b o c : Int} (y n : Int) (hg : geomOk r s b o c = true) : 0 ≤ pgAt y r b o n ∧ pgAt y r b o n < r * 16384 ∧ pgAt y r b o n / 16384 = pgRank y r b o n := by
  obtain ⟨h1, h2, h3⟩ := pg_bd y n hg
  obtain ⟨_, _, ⟨_, _⟩, ⟨_, _⟩, _⟩ := geom_bd hg
  unfold pgAt
  omega
theorem line_bd {k sn : Nat} {j c : Int} (hk : k < sn) (h0 : 0 ≤ j) (hj : j < c) : 0 ≤ (k : Int) * c + j ∧ (k : Int) * c + j < (sn : Int) * c ∧ ((k : Int) * c + j) / c = k ∧ ((k : Int) * c + j) % c = j := by
  have h1 : ((k : Int) + 1) * c ≤ (sn : Int) * c := Int.mul_le_mul_of_nonneg_right (by omega) (by omega)
  have h2 : 0 ≤ (k : Int) * c := Int.mul_nonneg (by omega) (by omega)
  rw [Int.add_mul] at h1
  refine ⟨by omega, by omega, ?_, ?_⟩
  · rw [Int.add_comm, Int.add_mul_ediv_right _ _ (by omega), Int.ediv_eq_zero_of_lt h0 hj]; simp
  · rw [Int.add_comm, Int.add_mul_emod_self_right, Int.emod_eq_of_lt h0 hj]

set_option maxRecDepth 100000 in
set_option maxHeartbeats 1000000 in
theorem lies_no {r s b o c y z : Int} {pg sn ns : Nat} (hL : Lay r s b o c y z pg sn ns) {p gl cl gd cd gs cs : Nat} {L : List Int} {D : List Bool} {S : List Int} {pu ru : Nat} (hM : MapOk z s sn pg ns L D S pu ru) (n q : Nat) (hn : n < pg) (hq : pgAt y r b o ((n : Nat) : Int) / 16384 = ((q : Nat) : Int)) (hqs : q < ns) (hs : S.getD q 0 = -1) (w0 : World) (hR : Ro w0 [.blk p #[.int .i64 r, .int .i64 s, .int .i64 b, .int .i64 o, .int .i64 c, .int .i64 y, .int .i64 z, .slice (some ⟨gl, 0, none⟩) sn cl, .slice (some ⟨gd, 0, none⟩) pg cd, .slice (some ⟨gs, 0, none⟩) ns cs, .int .i64 ((pu : Nat) : Int), .int .i64 ((ru : Nat) : Int)] 181, .row (.slice (some ⟨gl, 0, none⟩) sn cl) 3 1 sn (List.map (Value.int .i64) L), .row (.slice (some ⟨gd, 0, none⟩) pg cd) 4 1 pg (List.map Value.bool D), .row (.slice (some ⟨gs, 0, none⟩) ns cs) 3 1 ns (List.map (Value.int .i64) S)]) :
    Calls Try.prog 113 #[.pointer (some ⟨p, 0, none⟩), .int .i64 ((n : Nat) : Int)] w0 fun e w' => e = .returned (.tuple #[.int .i64 (pgAt y r b o ((n : Nat) : Int)), .int .i64 ((q : Nat) : Int), .int .i64 0]) ∧ Below w0.heap.size w0 w' := by
  refine x_enter Try.func113 rfl #[.pointer (some ⟨p, 0, none⟩), .int .i64 ((n : Nat) : Int), undef, undef, undef, undef, undef, undef, undef, undef, undef, undef, undef, undef, undef, undef, undef, undef, undef, undef, undef, undef, undef, undef, undef, undef, undef, undef, undef, undef, undef, undef, undef, undef, undef, undef, undef, undef, undef, undef, undef, undef, undef, undef, undef] (by kernel_rfl) ?_
  have H := Hs.nil w0
  have R0 := hR
  obtain ⟨eL, eD, eS, hp, hr⟩ := id hM
  have hg : geomOk r s b o c = true := by have := hL.ok; unfold layoutOk interOk at this; simp only [Bool.and_eq_true] at this; exact this.1.1
  have hIo : interOk r s b o c y = true := by have := hL.ok; unfold layoutOk at this; simp only [Bool.and_eq_true] at this; exact this.1
  obtain ⟨-, r1, r8, s0, s8, b1, b2, o1, o2, c1, c2, y0, y4, z0, z2, hpg, hsn, hns, sn1, pg2, ln0, ln2⟩ := id hL
  obtain ⟨e1, e2, e3⟩ := pgAt_bd y ((n : Nat) : Int) hg
  refine x_seq ?_
  refine x_region ?_
  refine x_val (.int .i64 0) (by kernel_rfl) rfl (by kernel_rfl) ?_
  refine x_val (.int .i64 0) (by kernel_rfl) rfl (by kernel_rfl) ?_
  refine x_val (.int .i64 0) (by kernel_rfl) rfl (by kernel_rfl) ?_
  refine x_nil ?_
  refine x_then ?_
  refine x_seq ?_
  refine x_region_whole (fun w' => Hs [] w0 w' []) (by kernel_rfl) (by kernel_rfl) (by kernel_rfl) H.drew ?_
  refine q_val (.pointer (some ⟨p, 0, none⟩)) (by kernel_rfl) (fun _ => by kernel_rfl) ?_
  refine q_val (.pointer (some ⟨p, 0, none⟩)) (by kernel_rfl) (fun _ => by kernel_rfl) ?_
  refine q_val (.pointer (some ⟨p, 0, none⟩)) (by kernel_rfl) (fun _ => by kernel_rfl) ?_
  refine q_val (.pointer (some ⟨p, 0, none⟩)) (by kernel_rfl) (fun _ => by kernel_rfl) ?_
  refine q_loadcn (t := 67) p 0 [.int .i64 r, .int .i64 s, .int .i64 b, .int .i64 o, .int .i64 c] (fun _ H => (H.ro R0).cells 0 rfl 0 (by kernel_rfl)) (by kernel_rfl) (by kernel_rfl) (by kernel_rfl) ?_
  refine q_val (.pointer (some ⟨p, 0, none⟩)) (by kernel_rfl) (fun _ => by kernel_rfl) ?_
  refine q_val (.pointer (some ⟨p, 0, none⟩)) (by kernel_rfl) (fun _ => by kernel_rfl) ?_
  refine q_val (.pointer (some ⟨p, 0, none⟩)) (by kernel_rfl) (fun _ => by kernel_rfl) ?_
  refine q_val (.pointer (some ⟨p, 5, none⟩)) (by kernel_rfl) (fun _ => by kernel_rfl) ?_
  refine q_loadc p 5 (.int .i64 y) (fun _ H => (H.ro R0).cell 0 rfl 5 rfl) (by kernel_rfl) (fun _ => by kernel_rfl) ?_
  refine q_val (.int .i64 ((n : Nat) : Int)) (by kernel_rfl) (fun _ => by kernel_rfl) ?_
  refine q_callB (.tuple #[.int .i64 (pgAt y r b o ((n : Nat) : Int)), .int .i64 0]) (by kernel_rfl) (fun _ => by kernel_rfl) (fun _ => (Page_in hL ((n : Nat) : Int) (by omega) (by omega) _)) ?_
  refine q_val (.tuple #[.int .i64 (pgAt y r b o ((n : Nat) : Int)), .int .i64 0]) (by kernel_rfl) (fun _ => by kernel_rfl) ?_
  refine q_val (.int .i64 (pgAt y r b o ((n : Nat) : Int))) (by kernel_rfl) (fun _ => by kernel_rfl) ?_
  refine q_val (.int .i64 0) (by kernel_rfl) (fun _ => by kernel_rfl) ?_
  refine q_val (.int .i64 (pgAt y r b o ((n : Nat) : Int))) (by kernel_rfl) (fun _ => by kernel_rfl) ?_
  refine q_val (.int .i64 0) (by kernel_rfl) (fun _ => by kernel_rfl) ?_
  refine q_nil ?_
  clear H
  intro v1 H
  refine x_frame' { tmps := #[.pointer (some ⟨p, 0, none⟩), .int .i64 ((n : Nat) : Int), undef, undef, .int .i64 0, .int .i64 0, .int .i64 0, .int .i64 (pgAt y r b o ((n : Nat) : Int)), undef, undef, .tuple #[.int .i64 (pgAt y r b o ((n : Nat) : Int)), .int .i64 0], .pointer (some ⟨p, 0, none⟩), .pointer (some ⟨p, 0, none⟩), .pointer (some ⟨p, 0, none⟩), .pointer (some ⟨p, 0, none⟩), .agg #[.int .i64 r, .int .i64 s, .int .i64 b, .int .i64 o, .int .i64 c], .pointer (some ⟨p, 0, none⟩), .pointer (some ⟨p, 0, none⟩), .pointer (some ⟨p, 0, none⟩), .pointer (some ⟨p, 5, none⟩), .int .i64 y, .int .i64 ((n : Nat) : Int), .tuple #[.int .i64 (pgAt y r b o ((n : Nat) : Int)), .int .i64 0], .int .i64 (pgAt y r b o ((n : Nat) : Int)), .int .i64 0, undef, undef, undef, undef, undef, undef, undef, undef, undef, undef, undef, undef, undef, undef, undef, undef, undef, undef, undef, undef], defers := [] } (by kernel_rfl) ?_
  refine x_then ?_
  refine x_seq ?_
  refine x_seq ?_
  refine x_region ?_
  refine x_val (.int .i64 0) (by kernel_rfl) rfl (by kernel_rfl) ?_
  refine x_val (.bool false) (by kernel_rfl) rfl (by kernel_rfl) ?_
  refine x_nil ?_
  refine x_then ?_
  refine x_f (by kernel_rfl) ?_
  refine x_skipc ?_
  refine x_then ?_
  refine x_seq ?_
  refine x_region ?_
  refine x_val (.int .i64 (pgAt y r b o ((n : Nat) : Int))) (by kernel_rfl) rfl (by kernel_rfl) ?_
  refine x_eq (.int .i64 ((q : Nat) : Int)) ((e_shr _ 16384 (by decide)).trans (congrArg (Value.int .i64) hq)) (by kernel_rfl) rfl (by kernel_rfl) ?_
  refine x_val (.int .i64 ((q : Nat) : Int)) (by kernel_rfl) rfl (by kernel_rfl) ?_
  refine x_nil ?_
  refine x_then ?_
  refine x_seq ?_
  refine x_seq ?_
  refine x_region ?_
  refine x_val (.pointer (some ⟨p, 0, none⟩)) (by kernel_rfl) rfl (by kernel_rfl) ?_
  refine x_val (.int .i64 ((q : Nat) : Int)) (by kernel_rfl) rfl (by kernel_rfl) ?_
  refine x_callB (.tuple #[.int .i64 0, .bool false]) H (by kernel_rfl) rfl (by kernel_rfl) (Spare_no hL hM q hqs hs _ (H.ro R0)) ?_
  clear H
  intro v2 H
  refine x_val (.tuple #[.int .i64 0, .bool false]) (by kernel_rfl) rfl (by kernel_rfl) ?_
  refine x_val (.int .i64 0) (by kernel_rfl) rfl (by kernel_rfl) ?_
  refine x_val (.bool false) (by kernel_rfl) rfl (by kernel_rfl) ?_
  refine x_val (.int .i64 0) (by kernel_rfl) rfl (by kernel_rfl) ?_
  refine x_val (.bool false) (by kernel_rfl) rfl (by kernel_rfl) ?_
  refine x_nil ?_
  refine x_frame' { tmps := #[.pointer (some ⟨p, 0, none⟩), .int .i64 ((n : Nat) : Int), undef, undef, .int .i64 0, .int .i64 ((q : Nat) : Int), .int .i64 0, .int .i64 (pgAt y r b o ((n : Nat) : Int)), .int .i64 0, .bool false, .tuple #[.int .i64 (pgAt y r b o ((n : Nat) : Int)), .int .i64 0], .pointer (some ⟨p, 0, none⟩), .pointer (some ⟨p, 0, none⟩), .pointer (some ⟨p, 0, none⟩), .pointer (some ⟨p, 0, none⟩), .agg #[.int .i64 r, .int .i64 s, .int .i64 b, .int .i64 o, .int .i64 c], .pointer (some ⟨p, 0, none⟩), .pointer (some ⟨p, 0, none⟩), .pointer (some ⟨p, 0, none⟩), .pointer (some ⟨p, 5, none⟩), .int .i64 y, .int .i64 ((n : Nat) : Int), .tuple #[.int .i64 (pgAt y r b o ((n : Nat) : Int)), .int .i64 0], .int .i64 (pgAt y r b o ((n : Nat) : Int)), .int .i64 0, .int .i64 0, .bool false, undef, .int .i64 (pgAt y r b o ((n : Nat) : Int)), .int .i64 ((q : Nat) : Int), .tuple #[.int .i64 0, .bool false], .pointer (some ⟨p, 0, none⟩), .int .i64 ((q : Nat) : Int), .tuple #[.int .i64 0, .bool false], .int .i64 0, .bool false, undef, undef, undef, undef, undef, undef, undef, undef, undef], defers := [] } (by kernel_rfl) ?_
  refine x_then ?_
  refine x_seq ?_
  refine x_region ?_
  refine x_val (.bool false) (by kernel_rfl) rfl (by kernel_rfl) ?_
  refine x_nil ?_
  refine x_then ?_
  refine x_f (by kernel_rfl) ?_
  refine x_skipc ?_
  refine x_then ?_
  refine x_seq ?_
  refine x_region ?_
  refine x_val (.int .i64 (pgAt y r b o ((n : Nat) : Int))) (by kernel_rfl) rfl (by kernel_rfl) ?_
  refine x_val (.int .i64 ((q : Nat) : Int)) (by kernel_rfl) rfl (by kernel_rfl) ?_
  refine x_val (.int .i64 (pgAt y r b o ((n : Nat) : Int))) (by kernel_rfl) rfl (by kernel_rfl) ?_
  refine x_val (.int .i64 ((q : Nat) : Int)) (by kernel_rfl) rfl (by kernel_rfl) ?_
  refine x_val (.int .i64 0) (by kernel_rfl) rfl (by kernel_rfl) ?_
  refine x_nil ?_
  refine x_then ?_
  refine x_retc ?_
  refine x_ret (.tuple #[.int .i64 (pgAt y r b o ((n : Nat) : Int)), .int .i64 ((q : Nat) : Int), .int .i64 0]) (by kernel_rfl) (by kernel_rfl) ?_
  exact ⟨rfl, H.below⟩

set_option maxRecDepth 100000 in
set_option maxHeartbeats 1000000 in
theorem Lies_no {r s b o c y z : Int} {pg sn ns : Nat} (hL : Lay r s b o c y z pg sn ns) {p gl cl gd cd gs cs : Nat} {L : List Int} {D : List Bool} {S : List Int} {pu ru : Nat} (hM : MapOk z s sn pg ns L D S pu ru) (n q : Nat) (hn : n < pg) (hq : pgAt y r b o ((n : Nat) : Int) / 16384 = ((q : Nat) : Int)) (hqs : q < ns) (hs : S.getD q 0 = -1) (w0 : World) (hR : Ro w0 [.blk p #[.int .i64 r, .int .i64 s, .int .i64 b, .int .i64 o, .int .i64 c, .int .i64 y, .int .i64 z, .slice (some ⟨gl, 0, none⟩) sn cl, .slice (some ⟨gd, 0, none⟩) pg cd, .slice (some ⟨gs, 0, none⟩) ns cs, .int .i64 ((pu : Nat) : Int), .int .i64 ((ru : Nat) : Int)] 181, .row (.slice (some ⟨gl, 0, none⟩) sn cl) 3 1 sn (List.map (Value.int .i64) L), .row (.slice (some ⟨gd, 0, none⟩) pg cd) 4 1 pg (List.map Value.bool D), .row (.slice (some ⟨gs, 0, none⟩) ns cs) 3 1 ns (List.map (Value.int .i64) S)]) :
    Calls Try.prog 74 #[.pointer (some ⟨p, 0, none⟩), .int .i64 ((n : Nat) : Int)] w0 fun e w' => e = .returned (.tuple #[.int .i64 (pgAt y r b o ((n : Nat) : Int)), .int .i64 0]) ∧ Below w0.heap.size w0 w' := by
  refine x_enter Try.func74 rfl #[.pointer (some ⟨p, 0, none⟩), .int .i64 ((n : Nat) : Int), undef, undef, undef, undef, undef, undef, undef, undef, undef, undef, undef, undef, undef, undef, undef, undef] (by kernel_rfl) ?_
  have H := Hs.nil w0
  have R0 := hR
  obtain ⟨eL, eD, eS, hp, hr⟩ := id hM
  have hg : geomOk r s b o c = true := by have := hL.ok; unfold layoutOk interOk at this; simp only [Bool.and_eq_true] at this; exact this.1.1
  have hIo : interOk r s b o c y = true := by have := hL.ok; unfold layoutOk at this; simp only [Bool.and_eq_true] at this; exact this.1
  obtain ⟨-, r1, r8, s0, s8, b1, b2, o1, o2, c1, c2, y0, y4, z0, z2, hpg, hsn, hns, sn1, pg2, ln0, ln2⟩ := id hL
  obtain ⟨e1, e2, e3⟩ := pgAt_bd y ((n : Nat) : Int) hg
  refine x_seq ?_
  refine x_region ?_
  refine x_val (.int .i64 0) (by kernel_rfl) rfl (by kernel_rfl) ?_
  refine x_val (.int .i64 0) (by kernel_rfl) rfl (by kernel_rfl) ?_
  refine x_nil ?_
  refine x_then ?_
  refine x_seq ?_
  refine x_region ?_
  refine x_val (.pointer (some ⟨p, 0, none⟩)) (by kernel_rfl) rfl (by kernel_rfl) ?_
  refine x_val (.int .i64 ((n : Nat) : Int)) (by kernel_rfl) rfl (by kernel_rfl) ?_
  refine x_callB (.tuple #[.int .i64 (pgAt y r b o ((n : Nat) : Int)), .int .i64 ((q : Nat) : Int), .int .i64 0]) H (by kernel_rfl) rfl (by kernel_rfl) (lies_no hL hM n q hn hq hqs hs _ (H.ro R0)) ?_
  clear H
  intro v1 H
  refine x_val (.tuple #[.int .i64 (pgAt y r b o ((n : Nat) : Int)), .int .i64 ((q : Nat) : Int), .int .i64 0]) (by kernel_rfl) rfl (by kernel_rfl) ?_
  refine x_val (.int .i64 (pgAt y r b o ((n : Nat) : Int))) (by kernel_rfl) rfl (by kernel_rfl) ?_
  refine x_val (.int .i64 ((q : Nat) : Int)) (by kernel_rfl) rfl (by kernel_rfl) ?_
  refine x_val (.int .i64 0) (by kernel_rfl) rfl (by kernel_rfl) ?_
  refine x_val (.int .i64 (pgAt y r b o ((n : Nat) : Int))) (by kernel_rfl) rfl (by kernel_rfl) ?_
  refine x_val (.int .i64 ((q : Nat) : Int)) (by kernel_rfl) rfl (by kernel_rfl) ?_
  refine x_val (.int .i64 0) (by kernel_rfl) rfl (by kernel_rfl) ?_
  refine x_nil ?_
  refine x_frame' { tmps := #[.pointer (some ⟨p, 0, none⟩), .int .i64 ((n : Nat) : Int), undef, undef, .int .i64 0, .int .i64 0, .int .i64 (pgAt y r b o ((n : Nat) : Int)), .int .i64 ((q : Nat) : Int), .int .i64 0, .tuple #[.int .i64 (pgAt y r b o ((n : Nat) : Int)), .int .i64 ((q : Nat) : Int), .int .i64 0], .pointer (some ⟨p, 0, none⟩), .int .i64 ((n : Nat) : Int), .tuple #[.int .i64 (pgAt y r b o ((n : Nat) : Int)), .int .i64 ((q : Nat) : Int), .int .i64 0], .int .i64 (pgAt y r b o ((n : Nat) : Int)), .int .i64 ((q : Nat) : Int), .int .i64 0, undef, undef], defers := [] } (by kernel_rfl) ?_
  refine x_then ?_
  refine x_seq ?_
  refine x_region ?_
  refine x_val (.int .i64 (pgAt y r b o ((n : Nat) : Int))) (by kernel_rfl) rfl (by kernel_rfl) ?_
  refine x_val (.int .i64 0) (by kernel_rfl) rfl (by kernel_rfl) ?_
  refine x_val (.int .i64 (pgAt y r b o ((n : Nat) : Int))) (by kernel_rfl) rfl (by kernel_rfl) ?_
  refine x_val (.int .i64 0) (by kernel_rfl) rfl (by kernel_rfl) ?_
  refine x_nil ?_
  refine x_then ?_
  refine x_retc ?_
  refine x_ret (.tuple #[.int .i64 (pgAt y r b o ((n : Nat) : Int)), .int .i64 0]) (by kernel_rfl) (by kernel_rfl) ?_
  exact ⟨rfl, H.below⟩

set_option maxRecDepth 100000 in
set_option maxHeartbeats 1000000 in
theorem Index_no {r s b o c y z : Int} {pg sn ns : Nat} (hL : Lay r s b o c y z pg sn ns) {p gl cl gd cd gs cs : Nat} {L : List Int} {D : List Bool} {S : List Int} {pu ru : Nat} (hM : MapOk z s sn pg ns L D S pu ru) (k j : Nat) (hk : k < sn) (hj : ((j : Nat) : Int) < c) (n q : Nat) (hn : n < pg) (hq : pgAt y r b o ((n : Nat) : Int) / 16384 = ((q : Nat) : Int)) (hqs : q < ns) (hLn : L.getD k 0 = ((n : Nat) : Int)) (hs : S.getD q 0 = -1) (w0 : World) (hR : Ro w0 [.blk p #[.int .i64 r, .int .i64 s, .int .i64 b, .int .i64 o, .int .i64 c, .int .i64 y, .int .i64 z, .slice (some ⟨gl, 0, none⟩) sn cl, .slice (some ⟨gd, 0, none⟩) pg cd, .slice (some ⟨gs, 0, none⟩) ns cs, .int .i64 ((pu : Nat) : Int), .int .i64 ((ru : Nat) : Int)] 181, .row (.slice (some ⟨gl, 0, none⟩) sn cl) 3 1 sn (List.map (Value.int .i64) L), .row (.slice (some ⟨gd, 0, none⟩) pg cd) 4 1 pg (List.map Value.bool D), .row (.slice (some ⟨gs, 0, none⟩) ns cs) 3 1 ns (List.map (Value.int .i64) S)]) :
    Calls Try.prog 52 #[.pointer (some ⟨p, 0, none⟩), .int .i64 (((k : Nat) : Int) * c + ((j : Nat) : Int))] w0 fun e w' => e = .returned (.tuple #[.int .i64 ((pgAt y r b o ((n : Nat) : Int)) * 64 + ((j : Nat) : Int)), .int .i64 ((n : Nat) : Int), .int .i64 ((q : Nat) : Int), .int .i64 0]) ∧ Below w0.heap.size w0 w' := by
  refine x_enter Try.func52 rfl #[.pointer (some ⟨p, 0, none⟩), .int .i64 (((k : Nat) : Int) * c + ((j : Nat) : Int)), undef, undef, undef, undef, undef, undef, undef, undef, undef, undef, undef, undef, undef, undef, undef, undef, undef, undef, undef, undef, undef, undef, undef, undef, undef, undef, undef, undef, undef, undef, undef, undef, undef, undef, undef, undef, undef, undef, undef, undef, undef, undef, undef, undef, undef, undef, undef, undef, undef, undef, undef, undef] (by kernel_rfl) ?_
  have H := Hs.nil w0
  have R0 := hR
  obtain ⟨eL, eD, eS, hp, hr⟩ := id hM
  have hg : geomOk r s b o c = true := by have := hL.ok; unfold layoutOk interOk at this; simp only [Bool.and_eq_true] at this; exact this.1.1
  have hIo : interOk r s b o c y = true := by have := hL.ok; unfold layoutOk at this; simp only [Bool.and_eq_true] at this; exact this.1
  obtain ⟨-, r1, r8, s0, s8, b1, b2, o1, o2, c1, c2, y0, y4, z0, z2, hpg, hsn, hns, sn1, pg2, ln0, ln2⟩ := id hL
  obtain ⟨e1, e2, e3⟩ := pgAt_bd y ((n : Nat) : Int) hg
  obtain ⟨f1, f2, f3, f4⟩ := line_bd hk (Int.natCast_nonneg j) hj
  have kb : (decide (0 ≤ (((k : Nat) : Int) * c + ((j : Nat) : Int))) && decide ((((k : Nat) : Int) * c + ((j : Nat) : Int)) < (((sn : Nat) : Int) * c))) = true := by simp; omega
  refine x_seq ?_
  refine x_region ?_
  refine x_val (.int .i64 0) (by kernel_rfl) rfl (by kernel_rfl) ?_
  refine x_val (.int .i64 0) (by kernel_rfl) rfl (by kernel_rfl) ?_
  refine x_val (.int .i64 0) (by kernel_rfl) rfl (by kernel_rfl) ?_
  refine x_val (.int .i64 0) (by kernel_rfl) rfl (by kernel_rfl) ?_
  refine x_nil ?_
  refine x_then ?_
  refine x_seq ?_
  refine x_seq ?_
  refine x_region ?_
  refine x_val (.int .i64 (((k : Nat) : Int) * c + ((j : Nat) : Int))) (by kernel_rfl) rfl (by kernel_rfl) ?_
  refine x_val (.pointer (some ⟨p, 0, none⟩)) (by kernel_rfl) rfl (by kernel_rfl) ?_
  refine x_val (.pointer (some ⟨p, 0, none⟩)) (by kernel_rfl) rfl (by kernel_rfl) ?_
  refine x_val (.pointer (some ⟨p, 0, none⟩)) (by kernel_rfl) rfl (by kernel_rfl) ?_
  refine x_loadcn (t := 69) p 0 [.int .i64 r, .int .i64 s, .int .i64 b, .int .i64 o, .int .i64 c, .int .i64 y, .int .i64 z] ((H.ro R0).cells 0 rfl 0 (by kernel_rfl)) (by kernel_rfl) rfl (by kernel_rfl) (by kernel_rfl) ?_
  refine x_callB (.int .i64 (((sn : Nat) : Int) * c)) H (by kernel_rfl) rfl (by kernel_rfl) (lines_of hL _) ?_
  clear H
  intro v1 H
  refine x_callB (.bool (decide (0 ≤ (((k : Nat) : Int) * c + ((j : Nat) : Int))) && decide ((((k : Nat) : Int) * c + ((j : Nat) : Int)) < (((sn : Nat) : Int) * c)))) H (by kernel_rfl) rfl (by kernel_rfl) (below_any _ _ _) ?_
  clear H
  intro v2 H
  refine x_val (.bool (!(decide (0 ≤ (((k : Nat) : Int) * c + ((j : Nat) : Int))) && decide ((((k : Nat) : Int) * c + ((j : Nat) : Int)) < (((sn : Nat) : Int) * c))))) (by kernel_rfl) rfl (by kernel_rfl) ?_
  refine x_nil ?_
  refine x_frame' { tmps := #[.pointer (some ⟨p, 0, none⟩), .int .i64 (((k : Nat) : Int) * c + ((j : Nat) : Int)), undef, undef, .int .i64 0, .int .i64 0, .int .i64 0, .int .i64 0, undef, .int .i64 (((k : Nat) : Int) * c + ((j : Nat) : Int)), .pointer (some ⟨p, 0, none⟩), .pointer (some ⟨p, 0, none⟩), .pointer (some ⟨p, 0, none⟩), .agg #[.int .i64 r, .int .i64 s, .int .i64 b, .int .i64 o, .int .i64 c, .int .i64 y, .int .i64 z], .int .i64 (((sn : Nat) : Int) * c), .bool (decide (0 ≤ (((k : Nat) : Int) * c + ((j : Nat) : Int))) && decide ((((k : Nat) : Int) * c + ((j : Nat) : Int)) < (((sn : Nat) : Int) * c))), .bool (!(decide (0 ≤ (((k : Nat) : Int) * c + ((j : Nat) : Int))) && decide ((((k : Nat) : Int) * c + ((j : Nat) : Int)) < (((sn : Nat) : Int) * c)))), undef, undef, undef, undef, undef, undef, undef, undef, undef, undef, undef, undef, undef, undef, undef, undef, undef, undef, undef, undef, undef, undef, undef, undef, undef, undef, undef, undef, undef, undef, undef, undef, undef, undef, undef, undef, undef], defers := [] } (by kernel_rfl) ?_
  refine x_then ?_
  rw [kb]
  refine x_f (by kernel_rfl) ?_
  refine x_skipc ?_
  refine x_then ?_
  refine x_seq ?_
  refine x_region_whole (fun w' => Hs [] w0 w' []) (by kernel_rfl) (by kernel_rfl) (by kernel_rfl) H.drew ?_
  refine q_val (.pointer (some ⟨p, 0, none⟩)) (by kernel_rfl) (fun _ => by kernel_rfl) ?_
  refine q_val (.pointer (some ⟨p, 0, none⟩)) (by kernel_rfl) (fun _ => by kernel_rfl) ?_
  refine q_val (.pointer (some ⟨p, 7, none⟩)) (by kernel_rfl) (fun _ => by kernel_rfl) ?_
  refine q_loadc p 7 (.slice (some ⟨gl, 0, none⟩) sn cl) (fun _ H => (H.ro R0).cell 0 rfl 7 rfl) (by kernel_rfl) (fun _ => by kernel_rfl) ?_
  refine q_val (.int .i64 (((k : Nat) : Int) * c + ((j : Nat) : Int))) (by kernel_rfl) (fun _ => by kernel_rfl) ?_
  refine q_val (.pointer (some ⟨p, 0, none⟩)) (by kernel_rfl) (fun _ => by kernel_rfl) ?_
  refine q_val (.pointer (some ⟨p, 0, none⟩)) (by kernel_rfl) (fun _ => by kernel_rfl) ?_
  refine q_val (.pointer (some ⟨p, 0, none⟩)) (by kernel_rfl) (fun _ => by kernel_rfl) ?_
  refine q_val (.pointer (some ⟨p, 0, none⟩)) (by kernel_rfl) (fun _ => by kernel_rfl) ?_
  refine q_val (.pointer (some ⟨p, 4, none⟩)) (by kernel_rfl) (fun _ => by kernel_rfl) ?_
  refine q_loadc p 4 (.int .i64 c) (fun _ H => (H.ro R0).cell 0 rfl 4 rfl) (by kernel_rfl) (fun _ => by kernel_rfl) ?_
  refine q_quo (((k : Nat) : Int) * c + ((j : Nat) : Int)) c ((k : Nat) : Int) f3 (by omega) ⟨by omega, by omega⟩ (by kernel_rfl) (fun _ => by kernel_rfl) ?_
  refine q_ix (t := 106) gl 0 k sn cl 3 1 k (by omega) (by omega) (by kernel_rfl) (by kernel_rfl) (by kernel_rfl) (fun _ => by kernel_rfl) ?_
  refine q_loadc gl k (.int .i64 ((n : Nat) : Int)) (fun _ H => cell_as ((H.ro R0).rowCell 1 rfl k (mapAt 0 (by omega))) (by rw [hLn])) (by kernel_rfl) (fun _ => by kernel_rfl) ?_
  refine q_val (.int .i64 ((n : Nat) : Int)) (by kernel_rfl) (fun _ => by kernel_rfl) ?_
  refine q_nil ?_
  clear H
  intro v3 H
  refine x_frame' { tmps := #[.pointer (some ⟨p, 0, none⟩), .int .i64 (((k : Nat) : Int) * c + ((j : Nat) : Int)), undef, undef, .int .i64 0, .int .i64 ((n : Nat) : Int), .int .i64 0, .int .i64 0, undef, .int .i64 (((k : Nat) : Int) * c + ((j : Nat) : Int)), .pointer (some ⟨p, 0, none⟩), .pointer (some ⟨p, 0, none⟩), .pointer (some ⟨p, 0, none⟩), .agg #[.int .i64 r, .int .i64 s, .int .i64 b, .int .i64 o, .int .i64 c, .int .i64 y, .int .i64 z], .int .i64 (((sn : Nat) : Int) * c), .bool true, .bool false, .pointer (some ⟨p, 0, none⟩), .pointer (some ⟨p, 0, none⟩), .pointer (some ⟨p, 7, none⟩), .slice (some ⟨gl, 0, none⟩) sn cl, .int .i64 (((k : Nat) : Int) * c + ((j : Nat) : Int)), .pointer (some ⟨p, 0, none⟩), .pointer (some ⟨p, 0, none⟩), .pointer (some ⟨p, 0, none⟩), .pointer (some ⟨p, 0, none⟩), .pointer (some ⟨p, 4, none⟩), .int .i64 c, .int .i64 ((k : Nat) : Int), .pointer (some ⟨gl, k, none⟩), .int .i64 ((n : Nat) : Int), undef, undef, undef, undef, undef, undef, undef, undef, undef, undef, undef, undef, undef, undef, undef, undef, undef, undef, undef, undef, undef, undef, undef], defers := [] } (by kernel_rfl) ?_
  refine x_then ?_
  refine x_seq ?_
  refine x_region ?_
  refine x_val (.pointer (some ⟨p, 0, none⟩)) (by kernel_rfl) rfl (by kernel_rfl) ?_
  refine x_val (.int .i64 ((n : Nat) : Int)) (by kernel_rfl) rfl (by kernel_rfl) ?_
  refine x_callB (.tuple #[.int .i64 (pgAt y r b o ((n : Nat) : Int)), .int .i64 ((q : Nat) : Int), .int .i64 0]) H (by kernel_rfl) rfl (by kernel_rfl) (lies_no hL hM n q hn hq hqs hs _ (H.ro R0)) ?_
  clear H
  intro v4 H
  refine x_val (.tuple #[.int .i64 (pgAt y r b o ((n : Nat) : Int)), .int .i64 ((q : Nat) : Int), .int .i64 0]) (by kernel_rfl) rfl (by kernel_rfl) ?_
  refine x_val (.int .i64 (pgAt y r b o ((n : Nat) : Int))) (by kernel_rfl) rfl (by kernel_rfl) ?_
  refine x_val (.int .i64 ((q : Nat) : Int)) (by kernel_rfl) rfl (by kernel_rfl) ?_
  refine x_val (.int .i64 0) (by kernel_rfl) rfl (by kernel_rfl) ?_
  refine x_val (.int .i64 (pgAt y r b o ((n : Nat) : Int))) (by kernel_rfl) rfl (by kernel_rfl) ?_
  refine x_val (.int .i64 ((q : Nat) : Int)) (by kernel_rfl) rfl (by kernel_rfl) ?_
  refine x_val (.int .i64 0) (by kernel_rfl) rfl (by kernel_rfl) ?_
  refine x_nil ?_
  refine x_then ?_
  refine x_seq ?_
  refine x_seq ?_
  refine x_region ?_
  refine x_val (.int .i64 0) (by kernel_rfl) rfl (by kernel_rfl) ?_
  refine x_val (.bool false) (by kernel_rfl) rfl (by kernel_rfl) ?_
  refine x_nil ?_
  refine x_frame' { tmps := #[.pointer (some ⟨p, 0, none⟩), .int .i64 (((k : Nat) : Int) * c + ((j : Nat) : Int)), undef, undef, .int .i64 0, .int .i64 ((n : Nat) : Int), .int .i64 ((q : Nat) : Int), .int .i64 0, .int .i64 (pgAt y r b o ((n : Nat) : Int)), .int .i64 (((k : Nat) : Int) * c + ((j : Nat) : Int)), .pointer (some ⟨p, 0, none⟩), .pointer (some ⟨p, 0, none⟩), .pointer (some ⟨p, 0, none⟩), .agg #[.int .i64 r, .int .i64 s, .int .i64 b, .int .i64 o, .int .i64 c, .int .i64 y, .int .i64 z], .int .i64 (((sn : Nat) : Int) * c), .bool true, .bool false, .pointer (some ⟨p, 0, none⟩), .pointer (some ⟨p, 0, none⟩), .pointer (some ⟨p, 7, none⟩), .slice (some ⟨gl, 0, none⟩) sn cl, .int .i64 (((k : Nat) : Int) * c + ((j : Nat) : Int)), .pointer (some ⟨p, 0, none⟩), .pointer (some ⟨p, 0, none⟩), .pointer (some ⟨p, 0, none⟩), .pointer (some ⟨p, 0, none⟩), .pointer (some ⟨p, 4, none⟩), .int .i64 c, .int .i64 ((k : Nat) : Int), .pointer (some ⟨gl, k, none⟩), .int .i64 ((n : Nat) : Int), .tuple #[.int .i64 (pgAt y r b o ((n : Nat) : Int)), .int .i64 ((q : Nat) : Int), .int .i64 0], .pointer (some ⟨p, 0, none⟩), .int .i64 ((n : Nat) : Int), .tuple #[.int .i64 (pgAt y r b o ((n : Nat) : Int)), .int .i64 ((q : Nat) : Int), .int .i64 0], .int .i64 (pgAt y r b o ((n : Nat) : Int)), .int .i64 ((q : Nat) : Int), .int .i64 0, .int .i64 0, .bool false, undef, undef, undef, undef, undef, undef, undef, undef, undef, undef, undef, undef, undef, undef], defers := [] } (by kernel_rfl) ?_
  refine x_then ?_
  refine x_f (by kernel_rfl) ?_
  refine x_skipc ?_
  refine x_then ?_
  refine x_seq ?_
  refine x_region ?_
  refine x_val (.int .i64 (pgAt y r b o ((n : Nat) : Int))) (by kernel_rfl) rfl (by kernel_rfl) ?_
  refine x_ar ((pgAt y r b o ((n : Nat) : Int)) * 64) ⟨by omega, by omega⟩ (by kernel_rfl) rfl (by kernel_rfl) ?_
  refine x_val (.int .i64 (((k : Nat) : Int) * c + ((j : Nat) : Int))) (by kernel_rfl) rfl (by kernel_rfl) ?_
  refine x_val (.pointer (some ⟨p, 0, none⟩)) (by kernel_rfl) rfl (by kernel_rfl) ?_
  refine x_val (.pointer (some ⟨p, 0, none⟩)) (by kernel_rfl) rfl (by kernel_rfl) ?_
  refine x_val (.pointer (some ⟨p, 0, none⟩)) (by kernel_rfl) rfl (by kernel_rfl) ?_
  refine x_val (.pointer (some ⟨p, 0, none⟩)) (by kernel_rfl) rfl (by kernel_rfl) ?_
  refine x_val (.pointer (some ⟨p, 4, none⟩)) (by kernel_rfl) rfl (by kernel_rfl) ?_
  refine x_loadc p 4 (.int .i64 c) ((H.ro R0).cell 0 rfl 4 rfl) (by kernel_rfl) rfl (by kernel_rfl) ?_
  refine x_rem (((k : Nat) : Int) * c + ((j : Nat) : Int)) c ((j : Nat) : Int) f4 (by omega) (by omega) (by kernel_rfl) rfl (by kernel_rfl) ?_
  refine x_eq (.int .i64 ((pgAt y r b o ((n : Nat) : Int)) * 64 + ((j : Nat) : Int))) (e_or _ _ (pgAt y r b o ((n : Nat) : Int)) 6 (by decide) rfl (by omega) (by omega) (by omega) (by omega)) (by kernel_rfl) rfl (by kernel_rfl) ?_
  refine x_val (.int .i64 ((n : Nat) : Int)) (by kernel_rfl) rfl (by kernel_rfl) ?_
  refine x_val (.int .i64 ((q : Nat) : Int)) (by kernel_rfl) rfl (by kernel_rfl) ?_
  refine x_val (.int .i64 ((pgAt y r b o ((n : Nat) : Int)) * 64 + ((j : Nat) : Int))) (by kernel_rfl) rfl (by kernel_rfl) ?_
  refine x_val (.int .i64 ((n : Nat) : Int)) (by kernel_rfl) rfl (by kernel_rfl) ?_
  refine x_val (.int .i64 ((q : Nat) : Int)) (by kernel_rfl) rfl (by kernel_rfl) ?_
  refine x_val (.int .i64 0) (by kernel_rfl) rfl (by kernel_rfl) ?_
  refine x_nil ?_
  refine x_frame' { tmps := #[.pointer (some ⟨p, 0, none⟩), .int .i64 (((k : Nat) : Int) * c + ((j : Nat) : Int)), undef, undef, .int .i64 ((pgAt y r b o ((n : Nat) : Int)) * 64 + ((j : Nat) : Int)), .int .i64 ((n : Nat) : Int), .int .i64 ((q : Nat) : Int), .int .i64 0, .int .i64 (pgAt y r b o ((n : Nat) : Int)), .int .i64 (((k : Nat) : Int) * c + ((j : Nat) : Int)), .pointer (some ⟨p, 0, none⟩), .pointer (some ⟨p, 0, none⟩), .pointer (some ⟨p, 0, none⟩), .agg #[.int .i64 r, .int .i64 s, .int .i64 b, .int .i64 o, .int .i64 c, .int .i64 y, .int .i64 z], .int .i64 (((sn : Nat) : Int) * c), .bool true, .bool false, .pointer (some ⟨p, 0, none⟩), .pointer (some ⟨p, 0, none⟩), .pointer (some ⟨p, 7, none⟩), .slice (some ⟨gl, 0, none⟩) sn cl, .int .i64 (((k : Nat) : Int) * c + ((j : Nat) : Int)), .pointer (some ⟨p, 0, none⟩), .pointer (some ⟨p, 0, none⟩), .pointer (some ⟨p, 0, none⟩), .pointer (some ⟨p, 0, none⟩), .pointer (some ⟨p, 4, none⟩), .int .i64 c, .int .i64 ((k : Nat) : Int), .pointer (some ⟨gl, k, none⟩), .int .i64 ((n : Nat) : Int), .tuple #[.int .i64 (pgAt y r b o ((n : Nat) : Int)), .int .i64 ((q : Nat) : Int), .int .i64 0], .pointer (some ⟨p, 0, none⟩), .int .i64 ((n : Nat) : Int), .tuple #[.int .i64 (pgAt y r b o ((n : Nat) : Int)), .int .i64 ((q : Nat) : Int), .int .i64 0], .int .i64 (pgAt y r b o ((n : Nat) : Int)), .int .i64 ((q : Nat) : Int), .int .i64 0, .int .i64 0, .bool false, undef, .int .i64 (pgAt y r b o ((n : Nat) : Int)), .int .i64 ((pgAt y r b o ((n : Nat) : Int)) * 64), .int .i64 (((k : Nat) : Int) * c + ((j : Nat) : Int)), .pointer (some ⟨p, 0, none⟩), .pointer (some ⟨p, 0, none⟩), .pointer (some ⟨p, 0, none⟩), .pointer (some ⟨p, 0, none⟩), .pointer (some ⟨p, 4, none⟩), .int .i64 c, .int .i64 ((j : Nat) : Int), .int .i64 ((pgAt y r b o ((n : Nat) : Int)) * 64 + ((j : Nat) : Int)), .int .i64 ((n : Nat) : Int), .int .i64 ((q : Nat) : Int)], defers := [] } (by kernel_rfl) ?_
  refine x_then ?_
  refine x_retc ?_
  refine x_ret (.tuple #[.int .i64 ((pgAt y r b o ((n : Nat) : Int)) * 64 + ((j : Nat) : Int)), .int .i64 ((n : Nat) : Int), .int .i64 ((q : Nat) : Int), .int .i64 0]) (by kernel_rfl) (by kernel_rfl) ?_
  exact ⟨rfl, H.below⟩

set_option maxRecDepth 100000 in
set_option maxHeartbeats 1000000 in
theorem lies_yes {r s b o c y z : Int} {pg sn ns : Nat} (hL : Lay r s b o c y z pg sn ns) {p gl cl gd cd gs cs : Nat} {L : List Int} {D : List Bool} {S : List Int} {pu ru : Nat} (hM : MapOk z s sn pg ns L D S pu ru) (n q : Nat) (hn : n < pg) (hq : pgAt y r b o ((n : Nat) : Int) / 16384 = ((q : Nat) : Int)) (hqs : q < ns) (hs : ¬ S.getD q 0 = -1) (hv : 0 ≤ S.getD q 0 ∧ S.getD q 0 < r + s) (w0 : World) (hR : Ro w0 [.blk p #[.int .i64 r, .int .i64 s, .int .i64 b, .int .i64 o, .int .i64 c, .int .i64 y, .int .i64 z, .slice (some ⟨gl, 0, none⟩) sn cl, .slice (some ⟨gd, 0, none⟩) pg cd, .slice (some ⟨gs, 0, none⟩) ns cs, .int .i64 ((pu : Nat) : Int), .int .i64 ((ru : Nat) : Int)] 181, .row (.slice (some ⟨gl, 0, none⟩) sn cl) 3 1 sn (List.map (Value.int .i64) L), .row (.slice (some ⟨gd, 0, none⟩) pg cd) 4 1 pg (List.map Value.bool D), .row (.slice (some ⟨gs, 0, none⟩) ns cs) 3 1 ns (List.map (Value.int .i64) S)]) :
    Calls Try.prog 113 #[.pointer (some ⟨p, 0, none⟩), .int .i64 ((n : Nat) : Int)] w0 fun e w' => e = .returned (.tuple #[.int .i64 (pgAt y r b o ((n : Nat) : Int) + (S.getD q 0 - ((q : Nat) : Int)) * 16384), .int .i64 ((q : Nat) : Int), .int .i64 0]) ∧ Below w0.heap.size w0 w' := by
  refine x_enter Try.func113 rfl #[.pointer (some ⟨p, 0, none⟩), .int .i64 ((n : Nat) : Int), undef, undef, undef, undef, undef, undef, undef, undef, undef, undef, undef, undef, undef, undef, undef, undef, undef, undef, undef, undef, undef, undef, undef, undef, undef, undef, undef, undef, undef, undef, undef, undef, undef, undef, undef, undef, undef, undef, undef, undef, undef, undef, undef] (by kernel_rfl) ?_
  have H := Hs.nil w0
  have R0 := hR
  obtain ⟨eL, eD, eS, hp, hr⟩ := id hM
  have hg : geomOk r s b o c = true := by have := hL.ok; unfold layoutOk interOk at this; simp only [Bool.and_eq_true] at this; exact this.1.1
  have hIo : interOk r s b o c y = true := by have := hL.ok; unfold layoutOk at this; simp only [Bool.and_eq_true] at this; exact this.1
  obtain ⟨-, r1, r8, s0, s8, b1, b2, o1, o2, c1, c2, y0, y4, z0, z2, hpg, hsn, hns, sn1, pg2, ln0, ln2⟩ := id hL
  obtain ⟨e1, e2, e3⟩ := pgAt_bd y ((n : Nat) : Int) hg
  obtain ⟨hv1, hv2⟩ := hv
  refine x_seq ?_
  refine x_region ?_
  refine x_val (.int .i64 0) (by kernel_rfl) rfl (by kernel_rfl) ?_
  refine x_val (.int .i64 0) (by kernel_rfl) rfl (by kernel_rfl) ?_
  refine x_val (.int .i64 0) (by kernel_rfl) rfl (by kernel_rfl) ?_
  refine x_nil ?_
  refine x_then ?_
  refine x_seq ?_
  refine x_region_whole (fun w' => Hs [] w0 w' []) (by kernel_rfl) (by kernel_rfl) (by kernel_rfl) H.drew ?_
  refine q_val (.pointer (some ⟨p, 0, none⟩)) (by kernel_rfl) (fun _ => by kernel_rfl) ?_
  refine q_val (.pointer (some ⟨p, 0, none⟩)) (by kernel_rfl) (fun _ => by kernel_rfl) ?_
  refine q_val (.pointer (some ⟨p, 0, none⟩)) (by kernel_rfl) (fun _ => by kernel_rfl) ?_
  refine q_val (.pointer (some ⟨p, 0, none⟩)) (by kernel_rfl) (fun _ => by kernel_rfl) ?_
  refine q_loadcn (t := 67) p 0 [.int .i64 r, .int .i64 s, .int .i64 b, .int .i64 o, .int .i64 c] (fun _ H => (H.ro R0).cells 0 rfl 0 (by kernel_rfl)) (by kernel_rfl) (by kernel_rfl) (by kernel_rfl) ?_
  refine q_val (.pointer (some ⟨p, 0, none⟩)) (by kernel_rfl) (fun _ => by kernel_rfl) ?_
  refine q_val (.pointer (some ⟨p, 0, none⟩)) (by kernel_rfl) (fun _ => by kernel_rfl) ?_
  refine q_val (.pointer (some ⟨p, 0, none⟩)) (by kernel_rfl) (fun _ => by kernel_rfl) ?_
  refine q_val (.pointer (some ⟨p, 5, none⟩)) (by kernel_rfl) (fun _ => by kernel_rfl) ?_
  refine q_loadc p 5 (.int .i64 y) (fun _ H => (H.ro R0).cell 0 rfl 5 rfl) (by kernel_rfl) (fun _ => by kernel_rfl) ?_
  refine q_val (.int .i64 ((n : Nat) : Int)) (by kernel_rfl) (fun _ => by kernel_rfl) ?_
  refine q_callB (.tuple #[.int .i64 (pgAt y r b o ((n : Nat) : Int)), .int .i64 0]) (by kernel_rfl) (fun _ => by kernel_rfl) (fun _ => (Page_in hL ((n : Nat) : Int) (by omega) (by omega) _)) ?_
  refine q_val (.tuple #[.int .i64 (pgAt y r b o ((n : Nat) : Int)), .int .i64 0]) (by kernel_rfl) (fun _ => by kernel_rfl) ?_
  refine q_val (.int .i64 (pgAt y r b o ((n : Nat) : Int))) (by kernel_rfl) (fun _ => by kernel_rfl) ?_
  refine q_val (.int .i64 0) (by kernel_rfl) (fun _ => by kernel_rfl) ?_
  refine q_val (.int .i64 (pgAt y r b o ((n : Nat) : Int))) (by kernel_rfl) (fun _ => by kernel_rfl) ?_
  refine q_val (.int .i64 0) (by kernel_rfl) (fun _ => by kernel_rfl) ?_
  refine q_nil ?_
  clear H
  intro v1 H
  refine x_frame' { tmps := #[.pointer (some ⟨p, 0, none⟩), .int .i64 ((n : Nat) : Int), undef, undef, .int .i64 0, .int .i64 0, .int .i64 0, .int .i64 (pgAt y r b o ((n : Nat) : Int)), undef, undef, .tuple #[.int .i64 (pgAt y r b o ((n : Nat) : Int)), .int .i64 0], .pointer (some ⟨p, 0, none⟩), .pointer (some ⟨p, 0, none⟩), .pointer (some ⟨p, 0, none⟩), .pointer (some ⟨p, 0, none⟩), .agg #[.int .i64 r, .int .i64 s, .int .i64 b, .int .i64 o, .int .i64 c], .pointer (some ⟨p, 0, none⟩), .pointer (some ⟨p, 0, none⟩), .pointer (some ⟨p, 0, none⟩), .pointer (some ⟨p, 5, none⟩), .int .i64 y, .int .i64 ((n : Nat) : Int), .tuple #[.int .i64 (pgAt y r b o ((n : Nat) : Int)), .int .i64 0], .int .i64 (pgAt y r b o ((n : Nat) : Int)), .int .i64 0, undef, undef, undef, undef, undef, undef, undef, undef, undef, undef, undef, undef, undef, undef, undef, undef, undef, undef, undef, undef], defers := [] } (by kernel_rfl) ?_
  refine x_then ?_
  refine x_seq ?_
  refine x_seq ?_
  refine x_region ?_
  refine x_val (.int .i64 0) (by kernel_rfl) rfl (by kernel_rfl) ?_
  refine x_val (.bool false) (by kernel_rfl) rfl (by kernel_rfl) ?_
  refine x_nil ?_
  refine x_then ?_
  refine x_f (by kernel_rfl) ?_
  refine x_skipc ?_
  refine x_then ?_
  refine x_seq ?_
  refine x_region ?_
  refine x_val (.int .i64 (pgAt y r b o ((n : Nat) : Int))) (by kernel_rfl) rfl (by kernel_rfl) ?_
  refine x_eq (.int .i64 ((q : Nat) : Int)) ((e_shr _ 16384 (by decide)).trans (congrArg (Value.int .i64) hq)) (by kernel_rfl) rfl (by kernel_rfl) ?_
  refine x_val (.int .i64 ((q : Nat) : Int)) (by kernel_rfl) rfl (by kernel_rfl) ?_
  refine x_nil ?_
  refine x_then ?_
  refine x_seq ?_
  refine x_seq ?_
  refine x_region ?_
  refine x_val (.pointer (some ⟨p, 0, none⟩)) (by kernel_rfl) rfl (by kernel_rfl) ?_
  refine x_val (.int .i64 ((q : Nat) : Int)) (by kernel_rfl) rfl (by kernel_rfl) ?_
  refine x_callB (.tuple #[.int .i64 (S.getD q 0), .bool true]) H (by kernel_rfl) rfl (by kernel_rfl) (Spare_yes hL hM q hqs hs _ (H.ro R0)) ?_
  clear H
  intro v2 H
  refine x_val (.tuple #[.int .i64 (S.getD q 0), .bool true]) (by kernel_rfl) rfl (by kernel_rfl) ?_
  refine x_val (.int .i64 (S.getD q 0)) (by kernel_rfl) rfl (by kernel_rfl) ?_
  refine x_val (.bool true) (by kernel_rfl) rfl (by kernel_rfl) ?_
  refine x_val (.int .i64 (S.getD q 0)) (by kernel_rfl) rfl (by kernel_rfl) ?_
  refine x_val (.bool true) (by kernel_rfl) rfl (by kernel_rfl) ?_
  refine x_nil ?_
  refine x_frame' { tmps := #[.pointer (some ⟨p, 0, none⟩), .int .i64 ((n : Nat) : Int), undef, undef, .int .i64 0, .int .i64 ((q : Nat) : Int), .int .i64 0, .int .i64 (pgAt y r b o ((n : Nat) : Int)), .int .i64 (S.getD q 0), .bool true, .tuple #[.int .i64 (pgAt y r b o ((n : Nat) : Int)), .int .i64 0], .pointer (some ⟨p, 0, none⟩), .pointer (some ⟨p, 0, none⟩), .pointer (some ⟨p, 0, none⟩), .pointer (some ⟨p, 0, none⟩), .agg #[.int .i64 r, .int .i64 s, .int .i64 b, .int .i64 o, .int .i64 c], .pointer (some ⟨p, 0, none⟩), .pointer (some ⟨p, 0, none⟩), .pointer (some ⟨p, 0, none⟩), .pointer (some ⟨p, 5, none⟩), .int .i64 y, .int .i64 ((n : Nat) : Int), .tuple #[.int .i64 (pgAt y r b o ((n : Nat) : Int)), .int .i64 0], .int .i64 (pgAt y r b o ((n : Nat) : Int)), .int .i64 0, .int .i64 0, .bool false, undef, .int .i64 (pgAt y r b o ((n : Nat) : Int)), .int .i64 ((q : Nat) : Int), .tuple #[.int .i64 (S.getD q 0), .bool true], .pointer (some ⟨p, 0, none⟩), .int .i64 ((q : Nat) : Int), .tuple #[.int .i64 (S.getD q 0), .bool true], .int .i64 (S.getD q 0), .bool true, undef, undef, undef, undef, undef, undef, undef, undef, undef], defers := [] } (by kernel_rfl) ?_
  refine x_then ?_
  refine x_seq ?_
  refine x_region ?_
  refine x_val (.bool true) (by kernel_rfl) rfl (by kernel_rfl) ?_
  refine x_nil ?_
  refine x_then ?_
  refine x_t (by kernel_rfl) ?_
  refine x_region ?_
  refine x_val (.int .i64 (pgAt y r b o ((n : Nat) : Int))) (by kernel_rfl) rfl (by kernel_rfl) ?_
  refine x_val (.int .i64 (S.getD q 0)) (by kernel_rfl) rfl (by kernel_rfl) ?_
  refine x_val (.int .i64 ((q : Nat) : Int)) (by kernel_rfl) rfl (by kernel_rfl) ?_
  refine x_ar ((S.getD q 0) - ((q : Nat) : Int)) ⟨by omega, by omega⟩ (by kernel_rfl) rfl (by kernel_rfl) ?_
  refine x_ar (((S.getD q 0) - ((q : Nat) : Int)) * 16384) ⟨by omega, by omega⟩ (by kernel_rfl) rfl (by kernel_rfl) ?_
  refine x_ar ((pgAt y r b o ((n : Nat) : Int)) + (((S.getD q 0) - ((q : Nat) : Int)) * 16384)) ⟨by omega, by omega⟩ (by kernel_rfl) rfl (by kernel_rfl) ?_
  refine x_val (.int .i64 ((pgAt y r b o ((n : Nat) : Int)) + (((S.getD q 0) - ((q : Nat) : Int)) * 16384))) (by kernel_rfl) rfl (by kernel_rfl) ?_
  refine x_nil ?_
  refine x_then ?_
  refine x_seq ?_
  refine x_region ?_
  refine x_val (.int .i64 ((pgAt y r b o ((n : Nat) : Int)) + (((S.getD q 0) - ((q : Nat) : Int)) * 16384))) (by kernel_rfl) rfl (by kernel_rfl) ?_
  refine x_val (.int .i64 ((q : Nat) : Int)) (by kernel_rfl) rfl (by kernel_rfl) ?_
  refine x_val (.int .i64 ((pgAt y r b o ((n : Nat) : Int)) + (((S.getD q 0) - ((q : Nat) : Int)) * 16384))) (by kernel_rfl) rfl (by kernel_rfl) ?_
  refine x_val (.int .i64 ((q : Nat) : Int)) (by kernel_rfl) rfl (by kernel_rfl) ?_
  refine x_val (.int .i64 0) (by kernel_rfl) rfl (by kernel_rfl) ?_
  refine x_nil ?_
  refine x_frame' { tmps := #[.pointer (some ⟨p, 0, none⟩), .int .i64 ((n : Nat) : Int), undef, undef, .int .i64 ((pgAt y r b o ((n : Nat) : Int)) + (((S.getD q 0) - ((q : Nat) : Int)) * 16384)), .int .i64 ((q : Nat) : Int), .int .i64 0, .int .i64 ((pgAt y r b o ((n : Nat) : Int)) + (((S.getD q 0) - ((q : Nat) : Int)) * 16384)), .int .i64 (S.getD q 0), .bool true, .tuple #[.int .i64 (pgAt y r b o ((n : Nat) : Int)), .int .i64 0], .pointer (some ⟨p, 0, none⟩), .pointer (some ⟨p, 0, none⟩), .pointer (some ⟨p, 0, none⟩), .pointer (some ⟨p, 0, none⟩), .agg #[.int .i64 r, .int .i64 s, .int .i64 b, .int .i64 o, .int .i64 c], .pointer (some ⟨p, 0, none⟩), .pointer (some ⟨p, 0, none⟩), .pointer (some ⟨p, 0, none⟩), .pointer (some ⟨p, 5, none⟩), .int .i64 y, .int .i64 ((n : Nat) : Int), .tuple #[.int .i64 (pgAt y r b o ((n : Nat) : Int)), .int .i64 0], .int .i64 (pgAt y r b o ((n : Nat) : Int)), .int .i64 0, .int .i64 0, .bool false, undef, .int .i64 (pgAt y r b o ((n : Nat) : Int)), .int .i64 ((q : Nat) : Int), .tuple #[.int .i64 (S.getD q 0), .bool true], .pointer (some ⟨p, 0, none⟩), .int .i64 ((q : Nat) : Int), .tuple #[.int .i64 (S.getD q 0), .bool true], .int .i64 (S.getD q 0), .bool true, .bool true, .int .i64 (pgAt y r b o ((n : Nat) : Int)), .int .i64 (S.getD q 0), .int .i64 ((q : Nat) : Int), .int .i64 ((S.getD q 0) - ((q : Nat) : Int)), .int .i64 (((S.getD q 0) - ((q : Nat) : Int)) * 16384), .int .i64 ((pgAt y r b o ((n : Nat) : Int)) + (((S.getD q 0) - ((q : Nat) : Int)) * 16384)), .int .i64 ((pgAt y r b o ((n : Nat) : Int)) + (((S.getD q 0) - ((q : Nat) : Int)) * 16384)), .int .i64 ((q : Nat) : Int)], defers := [] } (by kernel_rfl) ?_
  refine x_then ?_
  refine x_retc ?_
  refine x_ret (.tuple #[.int .i64 ((pgAt y r b o ((n : Nat) : Int)) + (((S.getD q 0) - ((q : Nat) : Int)) * 16384)), .int .i64 ((q : Nat) : Int), .int .i64 0]) (by kernel_rfl) (by kernel_rfl) ?_
  exact ⟨rfl, H.below⟩

set_option maxRecDepth 100000 in
set_option maxHeartbeats 1000000 in
theorem Lies_yes {r s b o c y z : Int} {pg sn ns : Nat} (hL : Lay r s b o c y z pg sn ns) {p gl cl gd cd gs cs : Nat} {L : List Int} {D : List Bool} {S : List Int} {pu ru : Nat} (hM : MapOk z s sn pg ns L D S pu ru) (n q : Nat) (hn : n < pg) (hq : pgAt y r b o ((n : Nat) : Int) / 16384 = ((q : Nat) : Int)) (hqs : q < ns) (hs : ¬ S.getD q 0 = -1) (hv : 0 ≤ S.getD q 0 ∧ S.getD q 0 < r + s) (w0 : World) (hR : Ro w0 [.blk p #[.int .i64 r, .int .i64 s, .int .i64 b, .int .i64 o, .int .i64 c, .int .i64 y, .int .i64 z, .slice (some ⟨gl, 0, none⟩) sn cl, .slice (some ⟨gd, 0, none⟩) pg cd, .slice (some ⟨gs, 0, none⟩) ns cs, .int .i64 ((pu : Nat) : Int), .int .i64 ((ru : Nat) : Int)] 181, .row (.slice (some ⟨gl, 0, none⟩) sn cl) 3 1 sn (List.map (Value.int .i64) L), .row (.slice (some ⟨gd, 0, none⟩) pg cd) 4 1 pg (List.map Value.bool D), .row (.slice (some ⟨gs, 0, none⟩) ns cs) 3 1 ns (List.map (Value.int .i64) S)]) :
    Calls Try.prog 74 #[.pointer (some ⟨p, 0, none⟩), .int .i64 ((n : Nat) : Int)] w0 fun e w' => e = .returned (.tuple #[.int .i64 (pgAt y r b o ((n : Nat) : Int) + (S.getD q 0 - ((q : Nat) : Int)) * 16384), .int .i64 0]) ∧ Below w0.heap.size w0 w' := by
  refine x_enter Try.func74 rfl #[.pointer (some ⟨p, 0, none⟩), .int .i64 ((n : Nat) : Int), undef, undef, undef, undef, undef, undef, undef, undef, undef, undef, undef, undef, undef, undef, undef, undef] (by kernel_rfl) ?_
  have H := Hs.nil w0
  have R0 := hR
  obtain ⟨eL, eD, eS, hp, hr⟩ := id hM
  have hg : geomOk r s b o c = true := by have := hL.ok; unfold layoutOk interOk at this; simp only [Bool.and_eq_true] at this; exact this.1.1
  have hIo : interOk r s b o c y = true := by have := hL.ok; unfold layoutOk at this; simp only [Bool.and_eq_true] at this; exact this.1
  obtain ⟨-, r1, r8, s0, s8, b1, b2, o1, o2, c1, c2, y0, y4, z0, z2, hpg, hsn, hns, sn1, pg2, ln0, ln2⟩ := id hL
  obtain ⟨e1, e2, e3⟩ := pgAt_bd y ((n : Nat) : Int) hg
  obtain ⟨hv1, hv2⟩ := hv
  refine x_seq ?_
  refine x_region ?_
  refine x_val (.int .i64 0) (by kernel_rfl) rfl (by kernel_rfl) ?_
  refine x_val (.int .i64 0) (by kernel_rfl) rfl (by kernel_rfl) ?_
  refine x_nil ?_
  refine x_then ?_
  refine x_seq ?_
  refine x_region ?_
  refine x_val (.pointer (some ⟨p, 0, none⟩)) (by kernel_rfl) rfl (by kernel_rfl) ?_
  refine x_val (.int .i64 ((n : Nat) : Int)) (by kernel_rfl) rfl (by kernel_rfl) ?_
  refine x_callB (.tuple #[.int .i64 (pgAt y r b o ((n : Nat) : Int) + (S.getD q 0 - ((q : Nat) : Int)) * 16384), .int .i64 ((q : Nat) : Int), .int .i64 0]) H (by kernel_rfl) rfl (by kernel_rfl) (lies_yes hL hM n q hn hq hqs hs ⟨hv1, hv2⟩ _ (H.ro R0)) ?_
  clear H
  intro v1 H
  refine x_val (.tuple #[.int .i64 (pgAt y r b o ((n : Nat) : Int) + (S.getD q 0 - ((q : Nat) : Int)) * 16384), .int .i64 ((q : Nat) : Int), .int .i64 0]) (by kernel_rfl) rfl (by kernel_rfl) ?_
  refine x_val (.int .i64 (pgAt y r b o ((n : Nat) : Int) + (S.getD q 0 - ((q : Nat) : Int)) * 16384)) (by kernel_rfl) rfl (by kernel_rfl) ?_
  refine x_val (.int .i64 ((q : Nat) : Int)) (by kernel_rfl) rfl (by kernel_rfl) ?_
  refine x_val (.int .i64 0) (by kernel_rfl) rfl (by kernel_rfl) ?_
  refine x_val (.int .i64 (pgAt y r b o ((n : Nat) : Int) + (S.getD q 0 - ((q : Nat) : Int)) * 16384)) (by kernel_rfl) rfl (by kernel_rfl) ?_
  refine x_val (.int .i64 ((q : Nat) : Int)) (by kernel_rfl) rfl (by kernel_rfl) ?_
  refine x_val (.int .i64 0) (by kernel_rfl) rfl (by kernel_rfl) ?_
  refine x_nil ?_
  refine x_frame' { tmps := #[.pointer (some ⟨p, 0, none⟩), .int .i64 ((n : Nat) : Int), undef, undef, .int .i64 0, .int .i64 0, .int .i64 (pgAt y r b o ((n : Nat) : Int) + (S.getD q 0 - ((q : Nat) : Int)) * 16384), .int .i64 ((q : Nat) : Int), .int .i64 0, .tuple #[.int .i64 (pgAt y r b o ((n : Nat) : Int) + (S.getD q 0 - ((q : Nat) : Int)) * 16384), .int .i64 ((q : Nat) : Int), .int .i64 0], .pointer (some ⟨p, 0, none⟩), .int .i64 ((n : Nat) : Int), .tuple #[.int .i64 (pgAt y r b o ((n : Nat) : Int) + (S.getD q 0 - ((q : Nat) : Int)) * 16384), .int .i64 ((q : Nat) : Int), .int .i64 0], .int .i64 (pgAt y r b o ((n : Nat) : Int) + (S.getD q 0 - ((q : Nat) : Int)) * 16384), .int .i64 ((q : Nat) : Int), .int .i64 0, undef, undef], defers := [] } (by kernel_rfl) ?_
  refine x_then ?_
  refine x_seq ?_
  refine x_region ?_
  refine x_val (.int .i64 (pgAt y r b o ((n : Nat) : Int) + (S.getD q 0 - ((q : Nat) : Int)) * 16384)) (by kernel_rfl) rfl (by kernel_rfl) ?_
  refine x_val (.int .i64 0) (by kernel_rfl) rfl (by kernel_rfl) ?_
  refine x_val (.int .i64 (pgAt y r b o ((n : Nat) : Int) + (S.getD q 0 - ((q : Nat) : Int)) * 16384)) (by kernel_rfl) rfl (by kernel_rfl) ?_
  refine x_val (.int .i64 0) (by kernel_rfl) rfl (by kernel_rfl) ?_
  refine x_nil ?_
  refine x_then ?_
  refine x_retc ?_
  refine x_ret (.tuple #[.int .i64 (pgAt y r b o ((n : Nat) : Int) + (S.getD q 0 - ((q : Nat) : Int)) * 16384), .int .i64 0]) (by kernel_rfl) (by kernel_rfl) ?_
  exact ⟨rfl, H.below⟩

set_option maxRecDepth 100000 in
set_option maxHeartbeats 1000000 in
theorem Index_yes {r s b o c y z : Int} {pg sn ns : Nat} (hL : Lay r s b o c y z pg sn ns) {p gl cl gd cd gs cs : Nat} {L : List Int} {D : List Bool} {S : List Int} {pu ru : Nat} (hM : MapOk z s sn pg ns L D S pu ru) (k j : Nat) (hk : k < sn) (hj : ((j : Nat) : Int) < c) (n q : Nat) (hn : n < pg) (hq : pgAt y r b o ((n : Nat) : Int) / 16384 = ((q : Nat) : Int)) (hqs : q < ns) (hLn : L.getD k 0 = ((n : Nat) : Int)) (hs : ¬ S.getD q 0 = -1) (hv : 0 ≤ S.getD q 0 ∧ S.getD q 0 < r + s) (w0 : World) (hR : Ro w0 [.blk p #[.int .i64 r, .int .i64 s, .int .i64 b, .int .i64 o, .int .i64 c, .int .i64 y, .int .i64 z, .slice (some ⟨gl, 0, none⟩) sn cl, .slice (some ⟨gd, 0, none⟩) pg cd, .slice (some ⟨gs, 0, none⟩) ns cs, .int .i64 ((pu : Nat) : Int), .int .i64 ((ru : Nat) : Int)] 181, .row (.slice (some ⟨gl, 0, none⟩) sn cl) 3 1 sn (List.map (Value.int .i64) L), .row (.slice (some ⟨gd, 0, none⟩) pg cd) 4 1 pg (List.map Value.bool D), .row (.slice (some ⟨gs, 0, none⟩) ns cs) 3 1 ns (List.map (Value.int .i64) S)]) :
    Calls Try.prog 52 #[.pointer (some ⟨p, 0, none⟩), .int .i64 (((k : Nat) : Int) * c + ((j : Nat) : Int))] w0 fun e w' => e = .returned (.tuple #[.int .i64 ((pgAt y r b o ((n : Nat) : Int) + (S.getD q 0 - ((q : Nat) : Int)) * 16384) * 64 + ((j : Nat) : Int)), .int .i64 ((n : Nat) : Int), .int .i64 ((q : Nat) : Int), .int .i64 0]) ∧ Below w0.heap.size w0 w' := by
  refine x_enter Try.func52 rfl #[.pointer (some ⟨p, 0, none⟩), .int .i64 (((k : Nat) : Int) * c + ((j : Nat) : Int)), undef, undef, undef, undef, undef, undef, undef, undef, undef, undef, undef, undef, undef, undef, undef, undef, undef, undef, undef, undef, undef, undef, undef, undef, undef, undef, undef, undef, undef, undef, undef, undef, undef, undef, undef, undef, undef, undef, undef, undef, undef, undef, undef, undef, undef, undef, undef, undef, undef, undef, undef, undef] (by kernel_rfl) ?_
  have H := Hs.nil w0
  have R0 := hR
  obtain ⟨eL, eD, eS, hp, hr⟩ := id hM
  have hg : geomOk r s b o c = true := by have := hL.ok; unfold layoutOk interOk at this; simp only [Bool.and_eq_true] at this; exact this.1.1
  have hIo : interOk r s b o c y = true := by have := hL.ok; unfold layoutOk at this; simp only [Bool.and_eq_true] at this; exact this.1
  obtain ⟨-, r1, r8, s0, s8, b1, b2, o1, o2, c1, c2, y0, y4, z0, z2, hpg, hsn, hns, sn1, pg2, ln0, ln2⟩ := id hL
  obtain ⟨e1, e2, e3⟩ := pgAt_bd y ((n : Nat) : Int) hg
  obtain ⟨f1, f2, f3, f4⟩ := line_bd hk (Int.natCast_nonneg j) hj
  have kb : (decide (0 ≤ (((k : Nat) : Int) * c + ((j : Nat) : Int))) && decide ((((k : Nat) : Int) * c + ((j : Nat) : Int)) < (((sn : Nat) : Int) * c))) = true := by simp; omega
  obtain ⟨hv1, hv2⟩ := hv
  refine x_seq ?_
  refine x_region ?_
  refine x_val (.int .i64 0) (by kernel_rfl) rfl (by kernel_rfl) ?_
  refine x_val (.int .i64 0) (by kernel_rfl) rfl (by kernel_rfl) ?_
  refine x_val (.int .i64 0) (by kernel_rfl) rfl (by kernel_rfl) ?_
  refine x_val (.int .i64 0) (by kernel_rfl) rfl (by kernel_rfl) ?_
  refine x_nil ?_
  refine x_then ?_
  refine x_seq ?_
  refine x_seq ?_
  refine x_region ?_
  refine x_val (.int .i64 (((k : Nat) : Int) * c + ((j : Nat) : Int))) (by kernel_rfl) rfl (by kernel_rfl) ?_
  refine x_val (.pointer (some ⟨p, 0, none⟩)) (by kernel_rfl) rfl (by kernel_rfl) ?_
  refine x_val (.pointer (some ⟨p, 0, none⟩)) (by kernel_rfl) rfl (by kernel_rfl) ?_
  refine x_val (.pointer (some ⟨p, 0, none⟩)) (by kernel_rfl) rfl (by kernel_rfl) ?_
  refine x_loadcn (t := 69) p 0 [.int .i64 r, .int .i64 s, .int .i64 b, .int .i64 o, .int .i64 c, .int .i64 y, .int .i64 z] ((H.ro R0).cells 0 rfl 0 (by kernel_rfl)) (by kernel_rfl) rfl (by kernel_rfl) (by kernel_rfl) ?_
  refine x_callB (.int .i64 (((sn : Nat) : Int) * c)) H (by kernel_rfl) rfl (by kernel_rfl) (lines_of hL _) ?_
  clear H
  intro v1 H
  refine x_callB (.bool (decide (0 ≤ (((k : Nat) : Int) * c + ((j : Nat) : Int))) && decide ((((k : Nat) : Int) * c + ((j : Nat) : Int)) < (((sn : Nat) : Int) * c)))) H (by kernel_rfl) rfl (by kernel_rfl) (below_any _ _ _) ?_
  clear H
  intro v2 H
  refine x_val (.bool (!(decide (0 ≤ (((k : Nat) : Int) * c + ((j : Nat) : Int))) && decide ((((k : Nat) : Int) * c + ((j : Nat) : Int)) < (((sn : Nat) : Int) * c))))) (by kernel_rfl) rfl (by kernel_rfl) ?_
  refine x_nil ?_
  refine x_frame' { tmps := #[.pointer (some ⟨p, 0, none⟩), .int .i64 (((k : Nat) : Int) * c + ((j : Nat) : Int)), undef, undef, .int .i64 0, .int .i64 0, .int .i64 0, .int .i64 0, undef, .int .i64 (((k : Nat) : Int) * c + ((j : Nat) : Int)), .pointer (some ⟨p, 0, none⟩), .pointer (some ⟨p, 0, none⟩), .pointer (some ⟨p, 0, none⟩), .agg #[.int .i64 r, .int .i64 s, .int .i64 b, .int .i64 o, .int .i64 c, .int .i64 y, .int .i64 z], .int .i64 (((sn : Nat) : Int) * c), .bool (decide (0 ≤ (((k : Nat) : Int) * c + ((j : Nat) : Int))) && decide ((((k : Nat) : Int) * c + ((j : Nat) : Int)) < (((sn : Nat) : Int) * c))), .bool (!(decide (0 ≤ (((k : Nat) : Int) * c + ((j : Nat) : Int))) && decide ((((k : Nat) : Int) * c + ((j : Nat) : Int)) < (((sn : Nat) : Int) * c)))), undef, undef, undef, undef, undef, undef, undef, undef, undef, undef, undef, undef, undef, undef, undef, undef, undef, undef, undef, undef, undef, undef, undef, undef, undef, undef, undef, undef, undef, undef, undef, undef, undef, undef, undef, undef, undef], defers := [] } (by kernel_rfl) ?_
  refine x_then ?_
  rw [kb]
  refine x_f (by kernel_rfl) ?_
  refine x_skipc ?_
  refine x_then ?_
  refine x_seq ?_
  refine x_region_whole (fun w' => Hs [] w0 w' []) (by kernel_rfl) (by kernel_rfl) (by kernel_rfl) H.drew ?_
  refine q_val (.pointer (some ⟨p, 0, none⟩)) (by kernel_rfl) (fun _ => by kernel_rfl) ?_
  refine q_val (.pointer (some ⟨p, 0, none⟩)) (by kernel_rfl) (fun _ => by kernel_rfl) ?_
  refine q_val (.pointer (some ⟨p, 7, none⟩)) (by kernel_rfl) (fun _ => by kernel_rfl) ?_
  refine q_loadc p 7 (.slice (some ⟨gl, 0, none⟩) sn cl) (fun _ H => (H.ro R0).cell 0 rfl 7 rfl) (by kernel_rfl) (fun _ => by kernel_rfl) ?_
  refine q_val (.int .i64 (((k : Nat) : Int) * c + ((j : Nat) : Int))) (by kernel_rfl) (fun _ => by kernel_rfl) ?_
  refine q_val (.pointer (some ⟨p, 0, none⟩)) (by kernel_rfl) (fun _ => by kernel_rfl) ?_
  refine q_val (.pointer (some ⟨p, 0, none⟩)) (by kernel_rfl) (fun _ => by kernel_rfl) ?_
  refine q_val (.pointer (some ⟨p, 0, none⟩)) (by kernel_rfl) (fun _ => by kernel_rfl) ?_
  refine q_val (.pointer (some ⟨p, 0, none⟩)) (by kernel_rfl) (fun _ => by kernel_rfl) ?_
  refine q_val (.pointer (some ⟨p, 4, none⟩)) (by kernel_rfl) (fun _ => by kernel_rfl) ?_
  refine q_loadc p 4 (.int .i64 c) (fun _ H => (H.ro R0).cell 0 rfl 4 rfl) (by kernel_rfl) (fun _ => by kernel_rfl) ?_
  refine q_quo (((k : Nat) : Int) * c + ((j : Nat) : Int)) c ((k : Nat) : Int) f3 (by omega) ⟨by omega, by omega⟩ (by kernel_rfl) (fun _ => by kernel_rfl) ?_
  refine q_ix (t := 106) gl 0 k sn cl 3 1 k (by omega) (by omega) (by kernel_rfl) (by kernel_rfl) (by kernel_rfl) (fun _ => by kernel_rfl) ?_
  refine q_loadc gl k (.int .i64 ((n : Nat) : Int)) (fun _ H => cell_as ((H.ro R0).rowCell 1 rfl k (mapAt 0 (by omega))) (by rw [hLn])) (by kernel_rfl) (fun _ => by kernel_rfl) ?_
  refine q_val (.int .i64 ((n : Nat) : Int)) (by kernel_rfl) (fun _ => by kernel_rfl) ?_
  refine q_nil ?_
  clear H
  intro v3 H
  refine x_frame' { tmps := #[.pointer (some ⟨p, 0, none⟩), .int .i64 (((k : Nat) : Int) * c + ((j : Nat) : Int)), undef, undef, .int .i64 0, .int .i64 ((n : Nat) : Int), .int .i64 0, .int .i64 0, undef, .int .i64 (((k : Nat) : Int) * c + ((j : Nat) : Int)), .pointer (some ⟨p, 0, none⟩), .pointer (some ⟨p, 0, none⟩), .pointer (some ⟨p, 0, none⟩), .agg #[.int .i64 r, .int .i64 s, .int .i64 b, .int .i64 o, .int .i64 c, .int .i64 y, .int .i64 z], .int .i64 (((sn : Nat) : Int) * c), .bool true, .bool false, .pointer (some ⟨p, 0, none⟩), .pointer (some ⟨p, 0, none⟩), .pointer (some ⟨p, 7, none⟩), .slice (some ⟨gl, 0, none⟩) sn cl, .int .i64 (((k : Nat) : Int) * c + ((j : Nat) : Int)), .pointer (some ⟨p, 0, none⟩), .pointer (some ⟨p, 0, none⟩), .pointer (some ⟨p, 0, none⟩), .pointer (some ⟨p, 0, none⟩), .pointer (some ⟨p, 4, none⟩), .int .i64 c, .int .i64 ((k : Nat) : Int), .pointer (some ⟨gl, k, none⟩), .int .i64 ((n : Nat) : Int), undef, undef, undef, undef, undef, undef, undef, undef, undef, undef, undef, undef, undef, undef, undef, undef, undef, undef, undef, undef, undef, undef, undef], defers := [] } (by kernel_rfl) ?_
  refine x_then ?_
  refine x_seq ?_
  refine x_region ?_
  refine x_val (.pointer (some ⟨p, 0, none⟩)) (by kernel_rfl) rfl (by kernel_rfl) ?_
  refine x_val (.int .i64 ((n : Nat) : Int)) (by kernel_rfl) rfl (by kernel_rfl) ?_
  refine x_callB (.tuple #[.int .i64 (pgAt y r b o ((n : Nat) : Int) + (S.getD q 0 - ((q : Nat) : Int)) * 16384), .int .i64 ((q : Nat) : Int), .int .i64 0]) H (by kernel_rfl) rfl (by kernel_rfl) (lies_yes hL hM n q hn hq hqs hs ⟨hv1, hv2⟩ _ (H.ro R0)) ?_
  clear H
  intro v4 H
  refine x_val (.tuple #[.int .i64 (pgAt y r b o ((n : Nat) : Int) + (S.getD q 0 - ((q : Nat) : Int)) * 16384), .int .i64 ((q : Nat) : Int), .int .i64 0]) (by kernel_rfl) rfl (by kernel_rfl) ?_
  refine x_val (.int .i64 (pgAt y r b o ((n : Nat) : Int) + (S.getD q 0 - ((q : Nat) : Int)) * 16384)) (by kernel_rfl) rfl (by kernel_rfl) ?_
  refine x_val (.int .i64 ((q : Nat) : Int)) (by kernel_rfl) rfl (by kernel_rfl) ?_
  refine x_val (.int .i64 0) (by kernel_rfl) rfl (by kernel_rfl) ?_
  refine x_val (.int .i64 (pgAt y r b o ((n : Nat) : Int) + (S.getD q 0 - ((q : Nat) : Int)) * 16384)) (by kernel_rfl) rfl (by kernel_rfl) ?_
  refine x_val (.int .i64 ((q : Nat) : Int)) (by kernel_rfl) rfl (by kernel_rfl) ?_
  refine x_val (.int .i64 0) (by kernel_rfl) rfl (by kernel_rfl) ?_
  refine x_nil ?_
  refine x_then ?_
  refine x_seq ?_
  refine x_seq ?_
  refine x_region ?_
  refine x_val (.int .i64 0) (by kernel_rfl) rfl (by kernel_rfl) ?_
  refine x_val (.bool false) (by kernel_rfl) rfl (by kernel_rfl) ?_
  refine x_nil ?_
  refine x_frame' { tmps := #[.pointer (some ⟨p, 0, none⟩), .int .i64 (((k : Nat) : Int) * c + ((j : Nat) : Int)), undef, undef, .int .i64 0, .int .i64 ((n : Nat) : Int), .int .i64 ((q : Nat) : Int), .int .i64 0, .int .i64 (pgAt y r b o ((n : Nat) : Int) + (S.getD q 0 - ((q : Nat) : Int)) * 16384), .int .i64 (((k : Nat) : Int) * c + ((j : Nat) : Int)), .pointer (some ⟨p, 0, none⟩), .pointer (some ⟨p, 0, none⟩), .pointer (some ⟨p, 0, none⟩), .agg #[.int .i64 r, .int .i64 s, .int .i64 b, .int .i64 o, .int .i64 c, .int .i64 y, .int .i64 z], .int .i64 (((sn : Nat) : Int) * c), .bool true, .bool false, .pointer (some ⟨p, 0, none⟩), .pointer (some ⟨p, 0, none⟩), .pointer (some ⟨p, 7, none⟩), .slice (some ⟨gl, 0, none⟩) sn cl, .int .i64 (((k : Nat) : Int) * c + ((j : Nat) : Int)), .pointer (some ⟨p, 0, none⟩), .pointer (some ⟨p, 0, none⟩), .pointer (some ⟨p, 0, none⟩), .pointer (some ⟨p, 0, none⟩), .pointer (some ⟨p, 4, none⟩), .int .i64 c, .int .i64 ((k : Nat) : Int), .pointer (some ⟨gl, k, none⟩), .int .i64 ((n : Nat) : Int), .tuple #[.int .i64 (pgAt y r b o ((n : Nat) : Int) + (S.getD q 0 - ((q : Nat) : Int)) * 16384), .int .i64 ((q : Nat) : Int), .int .i64 0], .pointer (some ⟨p, 0, none⟩), .int .i64 ((n : Nat) : Int), .tuple #[.int .i64 (pgAt y r b o ((n : Nat) : Int) + (S.getD q 0 - ((q : Nat) : Int)) * 16384), .int .i64 ((q : Nat) : Int), .int .i64 0], .int .i64 (pgAt y r b o ((n : Nat) : Int) + (S.getD q 0 - ((q : Nat) : Int)) * 16384), .int .i64 ((q : Nat) : Int), .int .i64 0, .int .i64 0, .bool false, undef, undef, undef, undef, undef, undef, undef, undef, undef, undef, undef, undef, undef, undef], defers := [] } (by kernel_rfl) ?_
  refine x_then ?_
  refine x_f (by kernel_rfl) ?_
  refine x_skipc ?_
  refine x_then ?_
  refine x_seq ?_
  refine x_region ?_
  refine x_val (.int .i64 (pgAt y r b o ((n : Nat) : Int) + (S.getD q 0 - ((q : Nat) : Int)) * 16384)) (by kernel_rfl) rfl (by kernel_rfl) ?_
  refine x_ar ((pgAt y r b o ((n : Nat) : Int) + (S.getD q 0 - ((q : Nat) : Int)) * 16384) * 64) ⟨by omega, by omega⟩ (by kernel_rfl) rfl (by kernel_rfl) ?_
  refine x_val (.int .i64 (((k : Nat) : Int) * c + ((j : Nat) : Int))) (by kernel_rfl) rfl (by kernel_rfl) ?_
  refine x_val (.pointer (some ⟨p, 0, none⟩)) (by kernel_rfl) rfl (by kernel_rfl) ?_
  refine x_val (.pointer (some ⟨p, 0, none⟩)) (by kernel_rfl) rfl (by kernel_rfl) ?_
  refine x_val (.pointer (some ⟨p, 0, none⟩)) (by kernel_rfl) rfl (by kernel_rfl) ?_
  refine x_val (.pointer (some ⟨p, 0, none⟩)) (by kernel_rfl) rfl (by kernel_rfl) ?_
  refine x_val (.pointer (some ⟨p, 4, none⟩)) (by kernel_rfl) rfl (by kernel_rfl) ?_
  refine x_loadc p 4 (.int .i64 c) ((H.ro R0).cell 0 rfl 4 rfl) (by kernel_rfl) rfl (by kernel_rfl) ?_
  refine x_rem (((k : Nat) : Int) * c + ((j : Nat) : Int)) c ((j : Nat) : Int) f4 (by omega) (by omega) (by kernel_rfl) rfl (by kernel_rfl) ?_
  refine x_eq (.int .i64 ((pgAt y r b o ((n : Nat) : Int) + (S.getD q 0 - ((q : Nat) : Int)) * 16384) * 64 + ((j : Nat) : Int))) (e_or _ _ (pgAt y r b o ((n : Nat) : Int) + (S.getD q 0 - ((q : Nat) : Int)) * 16384) 6 (by decide) rfl (by omega) (by omega) (by omega) (by omega)) (by kernel_rfl) rfl (by kernel_rfl) ?_
  refine x_val (.int .i64 ((n : Nat) : Int)) (by kernel_rfl) rfl (by kernel_rfl) ?_
  refine x_val (.int .i64 ((q : Nat) : Int)) (by kernel_rfl) rfl (by kernel_rfl) ?_
  refine x_val (.int .i64 ((pgAt y r b o ((n : Nat) : Int) + (S.getD q 0 - ((q : Nat) : Int)) * 16384) * 64 + ((j : Nat) : Int))) (by kernel_rfl) rfl (by kernel_rfl) ?_
  refine x_val (.int .i64 ((n : Nat) : Int)) (by kernel_rfl) rfl (by kernel_rfl) ?_
  refine x_val (.int .i64 ((q : Nat) : Int)) (by kernel_rfl) rfl (by kernel_rfl) ?_
  refine x_val (.int .i64 0) (by kernel_rfl) rfl (by kernel_rfl) ?_
  refine x_nil ?_
  refine x_frame' { tmps := #[.pointer (some ⟨p, 0, none⟩), .int .i64 (((k : Nat) : Int) * c + ((j : Nat) : Int)), undef, undef, .int .i64 ((pgAt y r b o ((n : Nat) : Int) + (S.getD q 0 - ((q : Nat) : Int)) * 16384) * 64 + ((j : Nat) : Int)), .int .i64 ((n : Nat) : Int), .int .i64 ((q : Nat) : Int), .int .i64 0, .int .i64 (pgAt y r b o ((n : Nat) : Int) + (S.getD q 0 - ((q : Nat) : Int)) * 16384), .int .i64 (((k : Nat) : Int) * c + ((j : Nat) : Int)), .pointer (some ⟨p, 0, none⟩), .pointer (some ⟨p, 0, none⟩), .pointer (some ⟨p, 0, none⟩), .agg #[.int .i64 r, .int .i64 s, .int .i64 b, .int .i64 o, .int .i64 c, .int .i64 y, .int .i64 z], .int .i64 (((sn : Nat) : Int) * c), .bool true, .bool false, .pointer (some ⟨p, 0, none⟩), .pointer (some ⟨p, 0, none⟩), .pointer (some ⟨p, 7, none⟩), .slice (some ⟨gl, 0, none⟩) sn cl, .int .i64 (((k : Nat) : Int) * c + ((j : Nat) : Int)), .pointer (some ⟨p, 0, none⟩), .pointer (some ⟨p, 0, none⟩), .pointer (some ⟨p, 0, none⟩), .pointer (some ⟨p, 0, none⟩), .pointer (some ⟨p, 4, none⟩), .int .i64 c, .int .i64 ((k : Nat) : Int), .pointer (some ⟨gl, k, none⟩), .int .i64 ((n : Nat) : Int), .tuple #[.int .i64 (pgAt y r b o ((n : Nat) : Int) + (S.getD q 0 - ((q : Nat) : Int)) * 16384), .int .i64 ((q : Nat) : Int), .int .i64 0], .pointer (some ⟨p, 0, none⟩), .int .i64 ((n : Nat) : Int), .tuple #[.int .i64 (pgAt y r b o ((n : Nat) : Int) + (S.getD q 0 - ((q : Nat) : Int)) * 16384), .int .i64 ((q : Nat) : Int), .int .i64 0], .int .i64 (pgAt y r b o ((n : Nat) : Int) + (S.getD q 0 - ((q : Nat) : Int)) * 16384), .int .i64 ((q : Nat) : Int), .int .i64 0, .int .i64 0, .bool false, undef, .int .i64 (pgAt y r b o ((n : Nat) : Int) + (S.getD q 0 - ((q : Nat) : Int)) * 16384), .int .i64 ((pgAt y r b o ((n : Nat) : Int) + (S.getD q 0 - ((q : Nat) : Int)) * 16384) * 64), .int .i64 (((k : Nat) : Int) * c + ((j : Nat) : Int)), .pointer (some ⟨p, 0, none⟩), .pointer (some ⟨p, 0, none⟩), .pointer (some ⟨p, 0, none⟩), .pointer (some ⟨p, 0, none⟩), .pointer (some ⟨p, 4, none⟩), .int .i64 c, .int .i64 ((j : Nat) : Int), .int .i64 ((pgAt y r b o ((n : Nat) : Int) + (S.getD q 0 - ((q : Nat) : Int)) * 16384) * 64 + ((j : Nat) : Int)), .int .i64 ((n : Nat) : Int), .int .i64 ((q : Nat) : Int)], defers := [] } (by kernel_rfl) ?_
  refine x_then ?_
  refine x_retc ?_
  refine x_ret (.tuple #[.int .i64 ((pgAt y r b o ((n : Nat) : Int) + (S.getD q 0 - ((q : Nat) : Int)) * 16384) * 64 + ((j : Nat) : Int)), .int .i64 ((n : Nat) : Int), .int .i64 ((q : Nat) : Int), .int .i64 0]) (by kernel_rfl) (by kernel_rfl) ?_
  exact ⟨rfl, H.below⟩

set_option maxRecDepth 100000 in
set_option maxHeartbeats 1000000 in
theorem Index_out {r s b o c y z : Int} {pg sn ns : Nat} (hL : Lay r s b o c y z pg sn ns) {p gl cl gd cd gs cs : Nat} {L : List Int} {D : List Bool} {S : List Int} {pu ru : Nat} (hM : MapOk z s sn pg ns L D S pu ru) (i : Int) (hi : 0 ≤ i → ((sn : Nat) : Int) * c ≤ i) (w0 : World) (hR : Ro w0 [.blk p #[.int .i64 r, .int .i64 s, .int .i64 b, .int .i64 o, .int .i64 c, .int .i64 y, .int .i64 z, .slice (some ⟨gl, 0, none⟩) sn cl, .slice (some ⟨gd, 0, none⟩) pg cd, .slice (some ⟨gs, 0, none⟩) ns cs, .int .i64 ((pu : Nat) : Int), .int .i64 ((ru : Nat) : Int)] 181, .row (.slice (some ⟨gl, 0, none⟩) sn cl) 3 1 sn (List.map (Value.int .i64) L), .row (.slice (some ⟨gd, 0, none⟩) pg cd) 4 1 pg (List.map Value.bool D), .row (.slice (some ⟨gs, 0, none⟩) ns cs) 3 1 ns (List.map (Value.int .i64) S)]) :
    Calls Try.prog 52 #[.pointer (some ⟨p, 0, none⟩), .int .i64 i] w0 fun e w' => e = .returned (.tuple #[.int .i64 0, .int .i64 0, .int .i64 0, .int .i64 12]) ∧ Below w0.heap.size w0 w' := by
  refine x_enter Try.func52 rfl #[.pointer (some ⟨p, 0, none⟩), .int .i64 i, undef, undef, undef, undef, undef, undef, undef, undef, undef, undef, undef, undef, undef, undef, undef, undef, undef, undef, undef, undef, undef, undef, undef, undef, undef, undef, undef, undef, undef, undef, undef, undef, undef, undef, undef, undef, undef, undef, undef, undef, undef, undef, undef, undef, undef, undef, undef, undef, undef, undef, undef, undef] (by kernel_rfl) ?_
  have H := Hs.nil w0
  have R0 := hR
  obtain ⟨eL, eD, eS, hp, hr⟩ := id hM
  have hg : geomOk r s b o c = true := by have := hL.ok; unfold layoutOk interOk at this; simp only [Bool.and_eq_true] at this; exact this.1.1
  have hIo : interOk r s b o c y = true := by have := hL.ok; unfold layoutOk at this; simp only [Bool.and_eq_true] at this; exact this.1
  obtain ⟨-, r1, r8, s0, s8, b1, b2, o1, o2, c1, c2, y0, y4, z0, z2, hpg, hsn, hns, sn1, pg2, ln0, ln2⟩ := id hL
  have kb : (decide (0 ≤ i) && decide (i < (((sn : Nat) : Int) * c))) = false := by simpa using hi
  refine x_seq ?_
  refine x_region ?_
  refine x_val (.int .i64 0) (by kernel_rfl) rfl (by kernel_rfl) ?_
  refine x_val (.int .i64 0) (by kernel_rfl) rfl (by kernel_rfl) ?_
  refine x_val (.int .i64 0) (by kernel_rfl) rfl (by kernel_rfl) ?_
  refine x_val (.int .i64 0) (by kernel_rfl) rfl (by kernel_rfl) ?_
  refine x_nil ?_
  refine x_then ?_
  refine x_seq ?_
  refine x_seq ?_
  refine x_region ?_
  refine x_val (.int .i64 i) (by kernel_rfl) rfl (by kernel_rfl) ?_
  refine x_val (.pointer (some ⟨p, 0, none⟩)) (by kernel_rfl) rfl (by kernel_rfl) ?_
  refine x_val (.pointer (some ⟨p, 0, none⟩)) (by kernel_rfl) rfl (by kernel_rfl) ?_
  refine x_val (.pointer (some ⟨p, 0, none⟩)) (by kernel_rfl) rfl (by kernel_rfl) ?_
  refine x_loadcn (t := 69) p 0 [.int .i64 r, .int .i64 s, .int .i64 b, .int .i64 o, .int .i64 c, .int .i64 y, .int .i64 z] ((H.ro R0).cells 0 rfl 0 (by kernel_rfl)) (by kernel_rfl) rfl (by kernel_rfl) (by kernel_rfl) ?_
  refine x_callB (.int .i64 (((sn : Nat) : Int) * c)) H (by kernel_rfl) rfl (by kernel_rfl) (lines_of hL _) ?_
  clear H
  intro v1 H
  refine x_callB (.bool (decide (0 ≤ i) && decide (i < (((sn : Nat) : Int) * c)))) H (by kernel_rfl) rfl (by kernel_rfl) (below_any _ _ _) ?_
  clear H
  intro v2 H
  refine x_val (.bool (!(decide (0 ≤ i) && decide (i < (((sn : Nat) : Int) * c))))) (by kernel_rfl) rfl (by kernel_rfl) ?_
  refine x_nil ?_
  refine x_frame' { tmps := #[.pointer (some ⟨p, 0, none⟩), .int .i64 i, undef, undef, .int .i64 0, .int .i64 0, .int .i64 0, .int .i64 0, undef, .int .i64 i, .pointer (some ⟨p, 0, none⟩), .pointer (some ⟨p, 0, none⟩), .pointer (some ⟨p, 0, none⟩), .agg #[.int .i64 r, .int .i64 s, .int .i64 b, .int .i64 o, .int .i64 c, .int .i64 y, .int .i64 z], .int .i64 (((sn : Nat) : Int) * c), .bool (decide (0 ≤ i) && decide (i < (((sn : Nat) : Int) * c))), .bool (!(decide (0 ≤ i) && decide (i < (((sn : Nat) : Int) * c)))), undef, undef, undef, undef, undef, undef, undef, undef, undef, undef, undef, undef, undef, undef, undef, undef, undef, undef, undef, undef, undef, undef, undef, undef, undef, undef, undef, undef, undef, undef, undef, undef, undef, undef, undef, undef, undef], defers := [] } (by kernel_rfl) ?_
  refine x_then ?_
  rw [kb]
  refine x_t (by kernel_rfl) ?_
  refine x_seq ?_
  refine x_region ?_
  refine x_val (.int .i64 0) (by kernel_rfl) rfl (by kernel_rfl) ?_
  refine x_val (.int .i64 0) (by kernel_rfl) rfl (by kernel_rfl) ?_
  refine x_val (.int .i64 0) (by kernel_rfl) rfl (by kernel_rfl) ?_
  refine x_val (.int .i64 12) (by kernel_rfl) rfl (by kernel_rfl) ?_
  refine x_nil ?_
  refine x_then ?_
  refine x_retc ?_
  refine x_then_ret ?_
  refine x_ret (.tuple #[.int .i64 0, .int .i64 0, .int .i64 0, .int .i64 12]) (by kernel_rfl) (by kernel_rfl) ?_
  exact ⟨rfl, H.below⟩

end Go.Proofs.Ytgpalgbdacoagaa
