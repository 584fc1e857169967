/- Contracts: inter.Page, lies, Index. -/
import Derived.Test.YtpmnnijjohlloaaRemapB
import Derived.Test.YtpmnnijjohlloaaPx2
import Derived.Test.YtpmnnijjohlloaaPxZ
namespace Go.Proofs.Ytpmnnijjohlloaa
open Go Go.RowKit
set_option linter.unusedVariables false
set_option linter.unusedSimpArgs false
def dg : Int → List Int → List Int
  | _, [] => []
  | n, b :: bs => n % b :: dg (n / b) bs
theorem cell3i (da db dc : Int) (k : Nat) (h : k < 3) : (#[Value.int .i64 da, .int .i64 db, .int .i64 dc] : Array Value)[k]? = some (.int .i64 (([da, db, dc] : List Int).getD k 0)) := by
  match k, h with
  | 0, _ => rfl
  | 1, _ => rfl
  | 2, _ => rfl
theorem pos3 {da db dc : Int} (ha : 1 ≤ da) (hb : 1 ≤ db) (hc : 1 ≤ dc) (k : Nat) (h : k < 3) : 1 ≤ ([da, db, dc] : List Int).getD k 0 := by
  match k, h with
  | 0, _ => exact ha
  | 1, _ => exact hb
  | 2, _ => exact hc
theorem dg3 (da db dc m : Int) (k : Nat) (h : k < 3) : dg m (([da, db, dc] : List Int).drop k) = m % ([da, db, dc] : List Int).getD k 0 :: dg (m / ([da, db, dc] : List Int).getD k 0) (([da, db, dc] : List Int).drop (k + 1)) := by
  match k, h with
  | 0, _ => rfl
  | 1, _ => rfl
  | 2, _ => rfl
theorem dg3' {da db dc m : Int} {k : Nat} {l X : List Int} (h : k < 3) (e : l ++ dg m (([da, db, dc] : List Int).drop k) = X) : (l ++ [m % ([da, db, dc] : List Int).getD k 0]) ++ dg (m / ([da, db, dc] : List Int).getD k 0) (([da, db, dc] : List Int).drop (k + 1)) = X := by
  rw [← e, dg3 da db dc m k h, List.append_assoc]; rfl
theorem div_bd {m q : Int} (h0 : 0 ≤ m) (h1 : m ≤ 9223372036854775807) (hq : 1 ≤ q) : 0 ≤ m / q ∧ m / q ≤ 9223372036854775807 :=
  ⟨Int.ediv_nonneg h0 (by omega), Int.le_trans (Int.ediv_le_self _ h0) h1⟩
theorem e_or (Z B X : Int) (k : Nat) (hk : k < 63) (hZ : Z = X * 2 ^ k) (h0 : 0 ≤ X) (h1 : Z ≤ 9223372036854775807) (h2 : 0 ≤ B) (h3 : B < 2 ^ k) : Value.int .i64 (bits .or .i64 Z B) = .int .i64 (Z + B) := by
  obtain ⟨x, rfl⟩ := Int.eq_ofNat_of_zero_le h0
  obtain ⟨y, rfl⟩ := Int.eq_ofNat_of_zero_le h2
  have hz : Z = ((x <<< k : Nat) : Int) := by rw [hZ, Nat.shiftLeft_eq, Int.natCast_mul, Int.natCast_pow]; rfl
  have hy : y < 2 ^ k := by exact_mod_cast h3
  have hy2 : y < 2 ^ 63 := Nat.lt_of_lt_of_le hy (Nat.pow_le_pow_right (by decide) (by omega))
  rw [hz] at h1 ⊢
  have hx : x <<< k < 2 ^ 63 := by
    obtain ⟨Zn, hZn⟩ : ∃ Zn, x <<< k = Zn := ⟨_, rfl⟩
    rw [hZn] at h1 ⊢
    omega
  rw [(bits_nat IntKind.i64 63 (by decide) (fun n h0 h1 => by rw [IntKind.wrap_i64]; omega) (x <<< k) y hx hy2).2, ← Nat.shiftLeft_add_eq_or_of_lt hy]
  rfl
theorem xor_nat (a b : Nat) (ha : a < 2 ^ 63) (hb : b < 2 ^ 63) : bits .xor .i64 (a : Int) (b : Int) = ((a ^^^ b : Nat) : Int) := by
  have ha' : a % 2 ^ 64 = a := Nat.mod_eq_of_lt (by omega)
  have hb' : b % 2 ^ 64 = b := Nat.mod_eq_of_lt (by omega)
  have hx := Nat.xor_lt_two_pow ha hb
  have e : (BitVec.ofNat 64 a ^^^ BitVec.ofNat 64 b).toNat = a ^^^ b := by rw [BitVec.toNat_xor, BitVec.toNat_ofNat, BitVec.toNat_ofNat, ha', hb']
  simp only [bits, IntKind.bits, BitVec.ofInt_natCast]
  exact (congrArg (fun n : Nat => IntKind.i64.wrap (n : Int)) e).trans (by show IntKind.i64.wrap ((a ^^^ b : Nat) : Int) = _; rw [IntKind.wrap_i64]; omega)
theorem xor_bd {b bk rw : Int} (hb : pwB b 16 = true) (h1 : 0 ≤ bk) (h2 : bk < b) (h3 : 0 ≤ rw) (h4 : rw ≤ 9223372036854775807) : 0 ≤ bits .xor .i64 bk (bits .and .i64 rw (b - 1)) ∧ bits .xor .i64 bk (bits .and .i64 rw (b - 1)) < b := by
  obtain ⟨k, hk, rfl, -⟩ := (pwB_iff b 16 (by decide)).1 hb
  have hm := bits_mask IntKind.i64 63 (by decide) (fun n h0 h1 => by rw [IntKind.wrap_i64]; omega) k (by omega) rw h3 (by omega)
  rw [hm]
  obtain ⟨x, rfl⟩ := Int.eq_ofNat_of_zero_le h1
  obtain ⟨y, rfl⟩ := Int.eq_ofNat_of_zero_le h3
  have hx : x < 2 ^ k := by exact_mod_cast h2
  have hy : y % 2 ^ k < 2 ^ k := Nat.mod_lt _ (Nat.two_pow_pos k)
  have hp : 2 ^ k ≤ 2 ^ 63 := Nat.pow_le_pow_right (by decide) (by omega)
  rw [show ((y : Int) % 2 ^ k) = ((y % 2 ^ k : Nat) : Int) by rw [Int.natCast_emod, Int.natCast_pow]; rfl, xor_nat x _ (by omega) (by omega)]
  have := Nat.xor_lt_two_pow hx hy
  exact ⟨Int.natCast_nonneg _, by exact_mod_cast this⟩
def pgRank (y r b o n : Int) : Int := if y = 0 then n / o / b % r else if y = 1 then n / b / o % r else n % r
def pgRow (y r b o n : Int) : Int := if y = 0 then n % o else if y = 1 then n / b % o else n / r / b % o
def pgBank0 (y r b o n : Int) : Int := if y = 0 then n / o % b else if y = 1 then n % b else n / r % b
def pgBank (y r b o n : Int) : Int := if y = 3 then bits .xor .i64 (pgBank0 y r b o n) (bits .and .i64 (pgRow y r b o n) (b - 1)) else pgBank0 y r b o n
def pgAt (y r b o n : Int) : Int := pgRank y r b o n * 16384 + pgBank y r b o n * 1024 + pgRow y r b o n
theorem emod_bd {x q : Int} (hq : 1 ≤ q) : 0 ≤ x % q ∧ x % q < q := ⟨Int.emod_nonneg _ (by omega), Int.emod_lt_of_pos _ (by omega)⟩
theorem pg_bd {r s b o c : Int} (y n : Int) (hg : geomOk r s b o c = true) : (0 ≤ pgRank y r b o n ∧ pgRank y r b o n < r) ∧ (0 ≤ pgBank y r b o n ∧ pgBank y r b o n < b) ∧ (0 ≤ pgRow y r b o n ∧ pgRow y r b o n < o) := by
  obtain ⟨⟨d1, _⟩, _, ⟨d3, _⟩, ⟨d4, d5⟩, _, _⟩ := geom_bd hg
  have hb : pwB b 16 = true := by
    unfold geomOk at hg
    simp only [Bool.and_eq_true] at hg
    exact hg.2.2.2.1
  have hr : 0 ≤ pgRow y r b o n ∧ pgRow y r b o n < o := by unfold pgRow; split; exact emod_bd d4; split <;> exact emod_bd d4
  have hk : 0 ≤ pgBank0 y r b o n ∧ pgBank0 y r b o n < b := by unfold pgBank0; split; exact emod_bd d3; split <;> exact emod_bd d3
  refine ⟨?_, ?_, hr⟩
  · unfold pgRank; split; exact emod_bd d1; split <;> exact emod_bd d1
  · unfold pgBank; split
    · exact xor_bd hb hk.1 hk.2 hr.1 (by omega)
    · exact hk
set_option maxRecDepth 100000 in
set_option maxHeartbeats 1000000 in
theorem digits_w (n da db dc : Int) (h0 : 0 ≤ n) (h1 : n ≤ 9223372036854775807) (ha : 1 ≤ da) (hb : 1 ≤ db) (hc : 1 ≤ dc) (gb cb : Nat) (w0 : World) (hR : Ro w0 [.blk gb #[.int .i64 da, .int .i64 db, .int .i64 dc] 3]) :
    Calls Try.prog 127 #[.int .i64 n, .slice (some ⟨gb, 0, none⟩) 3 cb] w0 fun e w' => ∃ gx cx, e = .returned (.slice (some ⟨gx, 0, none⟩) 3 cx) ∧ Hs [] w0 w' [.row (.slice (some ⟨gx, 0, none⟩) 3 cx) 3 1 3 (List.map (Value.int .i64) (dg n [da, db, dc]))] := by
  refine z_enter Try.func127 rfl ?_
  have H := Hs.nil w0
  have R0 := hR
  refine x_seq <| x_region <| x_b H [.m] <| x_nil <| x_then <| x_seq <| x_region ?_
  refine x_b H [.m] <| x_nil <| x_then <| x_seq <| x_seq <| x_region <| x_b H [.m, .m, .m] ?_
  refine x_nil <| x_then <| x_block ?_
  replace H := H.nilRow 3 1
  refine x_loop (G := Nat × Int × Value × List Int) (fun gh a w' => match gh with | (k, m, vl, l) => ∃ uf1 : Nat → Value, a = frm 25 uf1 [(0, .int .i64 m), (5, vl), (8, .slice (some ⟨gb, 0, none⟩) 3 cb), (9, .int .i64 3), (10, .int .i64 (k : Int))] [] ∧ Hs [] w0 w' [.row (vl) 3 1 k (List.map (Value.int .i64) l)] ∧ (l ++ dg m (([da, db, dc] : List Int).drop k) = dg n [da, db, dc]) ∧ (0 ≤ m ∧ m ≤ 9223372036854775807) ∧ (k ≤ 3)) (fun gh => match gh with | (k, m, vl, l) => 3 - k) (0, n, .slice none 0 0, []) ⟨_, frm_of, H, rfl, ⟨h0, h1⟩, (by decide)⟩ ?_
  clear H
  rintro ⟨k, m, vl, l⟩ _ v1 ⟨uf1, rfl, H, r1, r2, r3⟩
  obtain ⟨m0, m1⟩ := r2
  refine x_seq <| x_region <| x_b H [.v (.bool (decide ((k : Int) < 3)))] <| x_nil <| x_then <| x_seq ?_
  cases h1 : decide ((k : Int) < 3)
  · skip
    have h1p := of_decide_eq_false h1
    refine x_f (by kernel_rfl) <| x_exit <| x_then_exit <| x_then_exit <| x_blk_exit <| x_then <| x_seq ?_
    refine x_region <| x_b H [.m, .m] <| x_nil <| x_then <| x_retc <| x_ret (vl) (by kernel_rfl) (by kernel_rfl) ?_
    obtain rfl : k = 3 := by omega
    obtain rfl : l = dg n [da, db, dc] := by rw [← r1]; simp [dg]
    obtain ⟨gx, cx, rfl, -⟩ := rowSome (H.ok 0 _ rfl) (by decide)
    exact ⟨gx, cx, rfl, H.pick [0] _ (by decide) rfl⟩
  have h1p := of_decide_eq_true h1
  refine x_t (by kernel_rfl) <| x_skipc <| x_then <| x_seq <| x_block <| x_seq <| x_region ?_
  refine x_ix (t := 40) gb 0 k 3 cb 3 1 k (by omega) (by omega) (by kernel_rfl) (by kernel_rfl) (by kernel_rfl) rfl (by kernel_rfl) <| x_loadc gb k (.int .i64 (([da, db, dc] : List Int).getD k 0)) ((H.ro R0).cell 0 rfl k (cell3i da db dc k (by omega))) (by kernel_rfl) rfl (by kernel_rfl) <| x_b H [.m] <| x_nil <| x_then <| x_seq <| x_region ?_
  refine x_b H [.m, .m, .m] ?_
  have hq := pos3 ha hb hc k (by omega)
  refine x_rem m (([da, db, dc] : List Int).getD k 0) (m % (([da, db, dc] : List Int).getD k 0)) rfl (by omega) (by omega) (by kernel_rfl) rfl (by kernel_rfl) <| x_box' H #[.int .i64 (m % (([da, db, dc] : List Int).getD k 0))] 3 1 (by kernel_rfl) rfl (by kernel_rfl) ?_
  clear H
  intro v2 g1 H
  refine x_append H 1 (vl) 40 3 1 8 k (.int .i64 0) (List.map (Value.int .i64) l) ⟨g1, 0, none⟩ 1 1 [.int .i64 (m % (([da, db, dc] : List Int).getD k 0))] rfl (by kernel_rfl) (by kernel_rfl) rfl (by decide) (by decide) rfl (fun j u hj => by rw [add_none]; exact cellOf (H.blk 0 rfl) (by simpa using hj)) (List.all_eq_true.1 (by kernel_rfl)) (by unfold maxLen; omega) (by omega) (by kernel_rfl) rfl (by kernel_rfl) ?_
  clear H
  intro v3 g2 c2 hc2 H
  rw [show (List.map (Value.int .i64) l) ++ [.int .i64 (m % (([da, db, dc] : List Int).getD k 0))] = (List.map (Value.int .i64) (l ++ [m % (([da, db, dc] : List Int).getD k 0)])) from (by rw [List.map_append]; rfl)] at H
  replace H := H.pk [1]
  refine x_b H [.m] <| x_nil <| x_then <| x_region <| x_b H [.m, .m] <| x_quo m (([da, db, dc] : List Int).getD k 0) (m / (([da, db, dc] : List Int).getD k 0)) rfl (by omega) ⟨by omega, by omega⟩ (by kernel_rfl) rfl (by kernel_rfl) <| x_b H [.m] ?_
  refine x_nil <| x_blk <| x_then <| x_region <| z_ar ((k : Int) + 1) <| x_b H [.m] <| x_nil ?_
  refine x_then ?_
  exact ⟨(k + 1, m / ([da, db, dc] : List Int).getD k 0, .slice (some ⟨g2, 0, none⟩) (k + 1) c2, (l ++ [m % (([da, db, dc] : List Int).getD k 0)])), (by dsimp only; omega), _, frm_of, H, (dg3' (by omega) r1), (div_bd m0 m1 (by omega)), (by omega)⟩
set_option maxRecDepth 100000 in
set_option maxHeartbeats 1000000 in
theorem gbelow_any (i n : Int) (w0 : World) :
    Calls Try.prog 135 #[.int .i64 i, .int .i64 n] w0 fun e w' => e = .returned (.bool (decide (0 ≤ i) && decide (i < n))) ∧ Below w0.heap.size w0 w' := by
  refine z_enter Try.func135 rfl ?_
  have H := Hs.nil w0
  refine x_seq <| x_region <| x_b H [.m] <| x_nil <| x_then <| x_seq <| x_region ?_
  refine x_b H [.m, .v (.bool (decide (0 ≤ i))), .v (.bool (decide (0 ≤ i)))] ?_
  cases h1 : decide (0 ≤ i)
  · skip
    have h1p := of_decide_eq_false h1
    refine x_b H [.k, .k, .k, .m, .m] <| x_nil <| x_then <| x_retc <| x_ret (.bool false) (by kernel_rfl) (by kernel_rfl) ?_
    exact ⟨by simp [h1], H.below⟩
  have h1p := of_decide_eq_true h1
  refine x_b H [.m, .m, .v (.bool (decide (i < n))), .v (.bool (decide (i < n))), .v (.bool (decide (i < n)))] <| x_nil <| x_then <| x_retc <| x_ret (.bool (decide (i < n))) (by kernel_rfl) (by kernel_rfl) ?_
  exact ⟨by simp [h1], H.below⟩
set_option maxRecDepth 100000 in
set_option maxHeartbeats 1000000 in
theorem Holds_in {r s b o c rk bk rw cl : Int} (hg : geomOk r s b o c = true) (q1 : 0 ≤ rk ∧ rk < r + s) (q2 : 0 ≤ bk ∧ bk < b) (q3 : 0 ≤ rw ∧ rw < o) (q4 : 0 ≤ cl ∧ cl < c) (w0 : World) :
    Calls Try.prog 132 #[.agg #[.int .i64 r, .int .i64 s, .int .i64 b, .int .i64 o, .int .i64 c], .agg #[.int .i64 rk, .int .i64 bk, .int .i64 rw, .int .i64 cl]] w0 fun e w' => e = .returned (.bool true) ∧ Below w0.heap.size w0 w' := by
  refine z_enter Try.func132 rfl ?_
  have H := Hs.nil w0
  obtain ⟨⟨d1, d2⟩, ⟨d3, d4⟩, ⟨d5, d6⟩, ⟨d7, d8⟩, ⟨d9, d10⟩, _⟩ := geom_bd hg
  have kq1 : (decide (0 ≤ rk) && decide (rk < (r + s))) = true := by simp; omega
  have kq2 : (decide (0 ≤ bk) && decide (bk < b)) = true := by simp; omega
  have kq3 : (decide (0 ≤ rw) && decide (rw < o)) = true := by simp; omega
  have kq4 : (decide (0 ≤ cl) && decide (cl < c)) = true := by simp; omega
  refine x_seq <| x_region <| z_box H #[.int .i64 r, .int .i64 s, .int .i64 b, .int .i64 o, .int .i64 c] 23 (fun v1 g1 H => ?_)
  refine z_box H #[.int .i64 rk, .int .i64 bk, .int .i64 rw, .int .i64 cl] 171 (fun v2 g2 H => ?_)
  refine x_b H [.m] <| x_nil <| x_then <| x_seq <| x_region <| x_b H [.n 1 0 5 23] <| z_callB (v := .bool (geomOk r s b o c)) H (gRight_any _ _ _ _ _ (by omega) (by omega) (by omega) (by omega) _) fun v3 H => ?_
  refine x_b H [.v (.bool (geomOk r s b o c))] ?_
  rw [hg]
  refine x_b H [.m, .l 0 0, .m, .l 1 0, .m, .l 1 1] <| z_ar (r + s) <| z_callB (v := .bool (decide (0 ≤ rk) && decide (rk < (r + s)))) H (gbelow_any _ _ _) fun v4 H => x_b H [.v (.bool (decide (0 ≤ rk) && decide (rk < (r + s)))), .v (.bool (decide (0 ≤ rk) && decide (rk < (r + s))))] ?_
  rw [kq1]
  refine x_b H [.m, .l 0 1, .m, .l 1 2] <| z_callB (v := .bool (decide (0 ≤ bk) && decide (bk < b))) H (gbelow_any _ _ _) fun v5 H => x_b H [.v (.bool (decide (0 ≤ bk) && decide (bk < b))), .v (.bool (decide (0 ≤ bk) && decide (bk < b)))] ?_
  rw [kq2]
  refine x_b H [.m, .l 0 2, .m, .l 1 3] <| z_callB (v := .bool (decide (0 ≤ rw) && decide (rw < o))) H (gbelow_any _ _ _) fun v6 H => x_b H [.v (.bool (decide (0 ≤ rw) && decide (rw < o))), .v (.bool (decide (0 ≤ rw) && decide (rw < o)))] ?_
  rw [kq3]
  refine x_b H [.m, .l 0 3, .m, .l 1 4] <| z_callB (v := .bool (decide (0 ≤ cl) && decide (cl < c))) H (gbelow_any _ _ _) fun v7 H => x_b H [.v (.bool (decide (0 ≤ cl) && decide (cl < c))), .v (.bool (decide (0 ≤ cl) && decide (cl < c)))] <| x_nil <| x_then <| x_retc <| x_ret (.bool (decide (0 ≤ cl) && decide (cl < c))) (by kernel_rfl) (by kernel_rfl) ?_
  exact ⟨by rw [kq4], H.below⟩
set_option maxRecDepth 100000 in
set_option maxHeartbeats 1000000 in
theorem index_in {r s b o c rk bk rw cl : Int} (hg : geomOk r s b o c = true) (q1 : 0 ≤ rk ∧ rk < r + s) (q2 : 0 ≤ bk ∧ bk < b) (q3 : 0 ≤ rw ∧ rw < o) (q4 : 0 ≤ cl ∧ cl < c) (w0 : World) :
    Calls Try.prog 133 #[.agg #[.int .i64 rk, .int .i64 bk, .int .i64 rw, .int .i64 cl]] w0 fun e w' => e = .returned (.int .i64 (rk * 1048576 + bk * 65536 + rw * 64 + cl)) ∧ Below w0.heap.size w0 w' := by
  refine z_enter Try.func133 rfl ?_
  have H := Hs.nil w0
  obtain ⟨⟨d1, d2⟩, ⟨d3, d4⟩, ⟨d5, d6⟩, ⟨d7, d8⟩, ⟨d9, d10⟩, _⟩ := geom_bd hg
  have kq1 : (decide (0 ≤ rk) && decide (rk < (r + s))) = true := by simp; omega
  have kq2 : (decide (0 ≤ bk) && decide (bk < b)) = true := by simp; omega
  have kq3 : (decide (0 ≤ rw) && decide (rw < o)) = true := by simp; omega
  have kq4 : (decide (0 ≤ cl) && decide (cl < c)) = true := by simp; omega
  refine x_seq <| x_region <| z_box H #[.int .i64 rk, .int .i64 bk, .int .i64 rw, .int .i64 cl] 171 (fun v1 g1 H => ?_)
  refine x_b H [.m] <| x_nil <| x_then <| x_seq <| x_region <| x_b H [.m, .l 0 0] <| z_ar (rk * 1048576) ?_
  refine x_b H [.m, .l 0 1] <| z_ar (bk * 65536) <| x_eq (.int .i64 (rk * 1048576 + bk * 65536)) (e_or _ _ (rk) 20 (by decide) rfl (by omega) (by omega) (by omega) (by omega)) (by kernel_rfl) rfl (by kernel_rfl) <| x_b H [.m, .l 0 2] <| z_ar (rw * 64) <| x_eq (.int .i64 (rk * 1048576 + bk * 65536 + rw * 64)) (e_or _ _ (rk * 16 + bk) 16 (by decide) (by omega) (by omega) (by omega) (by omega) (by omega)) (by kernel_rfl) rfl (by kernel_rfl) <| x_b H [.m, .l 0 3] ?_
  refine x_eq (.int .i64 (rk * 1048576 + bk * 65536 + rw * 64 + cl)) (e_or _ _ (rk * 16384 + bk * 1024 + rw) 6 (by decide) (by omega) (by omega) (by omega) (by omega) (by omega)) (by kernel_rfl) rfl (by kernel_rfl) <| x_b H [.m] <| x_nil <| x_then <| x_retc <| x_ret (.int .i64 (rk * 1048576 + bk * 65536 + rw * 64 + cl)) (by kernel_rfl) (by kernel_rfl) ?_
  exact ⟨rfl, H.below⟩
set_option maxRecDepth 100000 in
set_option maxHeartbeats 1000000 in
theorem gIndex_in {r s b o c rk bk rw cl : Int} (hg : geomOk r s b o c = true) (q1 : 0 ≤ rk ∧ rk < r + s) (q2 : 0 ≤ bk ∧ bk < b) (q3 : 0 ≤ rw ∧ rw < o) (q4 : 0 ≤ cl ∧ cl < c) (w0 : World) :
    Calls Try.prog 128 #[.agg #[.int .i64 r, .int .i64 s, .int .i64 b, .int .i64 o, .int .i64 c], .agg #[.int .i64 rk, .int .i64 bk, .int .i64 rw, .int .i64 cl]] w0 fun e w' => e = .returned (.tuple #[.int .i64 (rk * 1048576 + bk * 65536 + rw * 64 + cl), .int .i64 0]) ∧ Below w0.heap.size w0 w' := by
  refine z_enter Try.func128 rfl ?_
  have H := Hs.nil w0
  obtain ⟨⟨d1, d2⟩, ⟨d3, d4⟩, ⟨d5, d6⟩, ⟨d7, d8⟩, ⟨d9, d10⟩, _⟩ := geom_bd hg
  have kq1 : (decide (0 ≤ rk) && decide (rk < (r + s))) = true := by simp; omega
  have kq2 : (decide (0 ≤ bk) && decide (bk < b)) = true := by simp; omega
  have kq3 : (decide (0 ≤ rw) && decide (rw < o)) = true := by simp; omega
  have kq4 : (decide (0 ≤ cl) && decide (cl < c)) = true := by simp; omega
  refine x_seq <| x_region <| z_box H #[.int .i64 r, .int .i64 s, .int .i64 b, .int .i64 o, .int .i64 c] 23 (fun v1 g1 H => ?_)
  refine z_box H #[.int .i64 rk, .int .i64 bk, .int .i64 rw, .int .i64 cl] 171 (fun v2 g2 H => ?_)
  refine x_b H [.m, .m] <| x_nil <| x_then <| x_seq <| x_seq <| x_region <| x_b H [.n 1 0 5 23, .n 0 0 4 171] ?_
  refine z_callB (v := .bool true) H (Holds_in hg (by omega) (by omega) (by omega) (by omega) _) fun v3 H => x_b H [.m] <| x_nil <| x_then <| x_f (by kernel_rfl) <| x_skipc <| x_then ?_
  refine x_seq <| x_region <| x_b H [.n 0 0 4 171] <| z_callB (v := .int .i64 (rk * 1048576 + bk * 65536 + rw * 64 + cl)) H (index_in hg (by omega) (by omega) (by omega) (by omega) _) fun v4 H => x_b H [.m, .m] <| x_nil <| x_then ?_
  refine x_retc <| x_ret (.tuple #[.int .i64 (rk * 1048576 + bk * 65536 + rw * 64 + cl), .int .i64 0]) (by kernel_rfl) (by kernel_rfl) ?_
  exact ⟨rfl, H.below⟩
set_option maxRecDepth 100000 in
set_option maxHeartbeats 1000000 in
theorem Page_in {r s b o c y z : Int} {pg sn ns : Nat} (hL : Lay r s b o c y z pg sn ns) (n : Int) (n0 : 0 ≤ n) (n1 : n < ((pg : Nat) : Int)) (w0 : World) :
    Calls Try.prog 113 #[.agg #[.int .i64 r, .int .i64 s, .int .i64 b, .int .i64 o, .int .i64 c], .int .i64 y, .int .i64 n] w0 fun e w' => e = .returned (.tuple #[.int .i64 (pgAt y r b o n), .int .i64 0]) ∧ Below w0.heap.size w0 w' := by
  refine z_enter Try.func113 rfl ?_
  have H := Hs.nil w0
  have hg : geomOk r s b o c = true := by have := hL.ok; unfold layoutOk interOk at this; simp only [Bool.and_eq_true] at this; exact this.1.1
  have hIo : interOk r s b o c y = true := by have := hL.ok; unfold layoutOk at this; simp only [Bool.and_eq_true] at this; exact this.1
  obtain ⟨-, r1, r8, s0, s8, b1, b2, o1, o2, c1, c2, y0, y4, z0, z2, hpg, hsn, hns, sn1, pg2, ln0, ln2⟩ := id hL
  have a1 := emod_bd (x := n) o1
  have a2 := emod_bd (x := n / o) b1
  have a3 := emod_bd (x := n / o / b) r1
  have a4 := emod_bd (x := n) b1
  have a5 := emod_bd (x := n / b) o1
  have a6 := emod_bd (x := n / b / o) r1
  have a7 := emod_bd (x := n) r1
  have a8 := emod_bd (x := n / r) b1
  have a9 := emod_bd (x := n / r / b) o1
  have hpb : pwB b 16 = true := by have := hg; unfold geomOk at this; simp only [Bool.and_eq_true] at this; exact this.2.2.2.1
  have a10 := xor_bd hpb a8.1 a8.2 a9.1 (by omega)
  have kn0 : (decide (n < 0)) = false := by simp; omega
  have kn1 : (decide ((pg : Int) ≤ n)) = false := by simp; omega
  refine x_seq <| x_region <| z_box H #[.int .i64 r, .int .i64 s, .int .i64 b, .int .i64 o, .int .i64 c] 23 (fun v1 g1 H => ?_)
  refine x_b H [.m, .m] <| x_nil <| x_then <| x_seq <| x_seq <| x_region <| x_b H [.n 0 0 5 23, .m] ?_
  refine z_callB (v := .bool (interOk r s b o c y)) H (iRight_any _ _ _ _ _ _ (by omega) (by omega) (by omega) (by omega) _) fun v2 H => x_b H [.v (.bool (!(interOk r s b o c y))), .v (.bool (!(interOk r s b o c y)))] ?_
  rw [hIo]
  refine x_b H [.m, .v (.bool (decide (n < 0))), .v (.bool (decide (n < 0))), .v (.bool (decide (n < 0)))] ?_
  rw [kn0]
  refine x_b H [.m, .n 0 0 5 23] <| z_callB H (pages_of hL _) fun v3 H => x_b H [.v (.bool (decide ((pg : Int) ≤ n))), .v (.bool (decide ((pg : Int) ≤ n)))] <| x_nil <| x_then ?_
  rw [kn1]
  refine x_f (by kernel_rfl) <| x_skipc <| x_then <| x_seq <| x_region <| z_box H #[.int .i64 0, .int .i64 0, .int .i64 0, .int .i64 0] 171 (fun v4 g2 H => ?_)
  refine x_nil <| x_then <| x_seq <| x_seq <| x_region <| x_b H [.m] <| x_nil ?_
  refine x_then <| x_block <| x_seq <| x_region <| x_b H [.v (.bool (decide (y = 0))), .v (.bool (decide (y = 0)))] <| x_nil <| x_then ?_
  cases h1 : decide (y = 0)
  · skip
    have h1p := of_decide_eq_false h1
    refine x_f (by kernel_rfl) <| x_seq <| x_region <| x_b H [.v (.bool (decide (y = 1))), .v (.bool (decide (y = 1)))] <| x_nil <| x_then ?_
    cases h2 : decide (y = 1)
    · skip
      have h2p := of_decide_eq_false h2
      refine x_f (by kernel_rfl) <| x_seq <| x_region <| x_b H [.m, .m, .l 1 0, .m, .l 1 2, .m, .l 1 3] <| x_box' H #[.int .i64 r, .int .i64 b, .int .i64 o] 3 3 (by kernel_rfl) rfl (by kernel_rfl) ?_
      clear H
      intro v5 g3 H
      refine z_call (digits_w n r b o (by omega) (by omega) (by omega) (by omega) (by omega) g3 3 _ (H.ro1 [0])) ?_
      rintro _ v6 ⟨gx, cx, rfl, hD⟩
      refine ⟨_, rfl, ?_⟩
      replace H := H.more hD
      clear hD
      refine x_b H [.m] <| x_nil <| x_then <| z_region_s H 15 [0, 1, 3] <| s_b [(0, .m), (1, .m)] 13 <| s_y 2 (y_loadc gx 0 (.int .i64 (n % r)) (fun _ H => H.rowCell 0 rfl 0 rfl) (by kernel_rfl) (fun _ => by kernel_rfl)) <| s_b [(3, .m), (4, .m)] 10 ?_
      refine s_y 5 (y_loadc gx 1 (.int .i64 (n / r % b)) (fun _ H => H.rowCell 0 rfl 1 rfl) (by kernel_rfl) (fun _ => by kernel_rfl)) <| s_b [(6, .m), (7, .m)] 7 <| s_y 8 (y_loadc gx 2 (.int .i64 (n / r / b % o)) (fun _ H => H.rowCell 0 rfl 2 rfl) (by kernel_rfl) (fun _ => by kernel_rfl)) <| s_b [(9, .m)] 5 <| s_one 10 rfl (by kernel_rfl) rfl ?_
      clear H
      intro v7 H
      refine z_store H 2 0 [.int .i64 (n % r)] (fun v8 H => ?_)
      refine x_nil <| x_then <| z_next H [0, 1, 3] [0, 1, 2] rfl <| s_b [(11, .m)] 3 <| s_one 12 rfl (by kernel_rfl) rfl ?_
      clear H
      intro v9 H
      refine z_store H 2 1 [.int .i64 (n / r % b)] (fun v10 H => ?_)
      refine x_nil <| x_then <| z_next H [0, 1, 3] [0, 1, 2] rfl <| s_b [(13, .m)] 1 <| s_one 14 rfl (by kernel_rfl) rfl ?_
      clear H
      intro v11 H
      refine z_store H 2 2 [.int .i64 (n / r / b % o)] (fun v12 H => ?_)
      refine x_nil <| x_then <| z_next H [0, 1, 2, 3] [0, 1, 3] rfl <| s_done (by kernel_rfl) ?_
      clear H
      intro v13 H
      refine z_fr 117 [(1, .int .i64 y), (3, .pointer (some ⟨g1, 0, none⟩)), (8, .pointer (some ⟨g2, 0, none⟩))] [] fun uf1 => x_blk <| x_then <| x_seq <| x_seq <| x_region <| x_b H [.m, .v (.bool (decide (y = 3)))] ?_
      refine x_nil <| x_then ?_
      cases h3 : decide (y = 3)
      · skip
        have h3p := of_decide_eq_false h3
        refine x_f (by kernel_rfl) <| x_skipc <| x_then <| x_seq <| x_region <| x_b H [.n 3 0 5 23, .n 2 0 4 171] <| z_callB (v := .tuple #[.int .i64 ((n % r) * 1048576 + (n / r % b) * 65536 + (n / r / b % o) * 64 + 0), .int .i64 0]) H (gIndex_in hg (by omega) (by omega) (by omega) (by omega) _) fun v14 H => ?_
        refine x_b H [.m, .m, .m, .m, .m] <| x_nil <| x_then <| x_seq <| x_region <| x_b H [.m] <| x_eq (.int .i64 (((n % r) * 1048576 + (n / r % b) * 65536 + (n / r / b % o) * 64 + 0) / 64)) (e_shr ((n % r) * 1048576 + (n / r % b) * 65536 + (n / r / b % o) * 64 + 0) 64 (by decide)) (by kernel_rfl) rfl (by kernel_rfl) ?_
        refine x_b H [.m, .m, .m] <| x_nil <| x_then <| x_retc <| x_ret (.tuple #[.int .i64 (((n % r) * 1048576 + (n / r % b) * 65536 + (n / r / b % o) * 64 + 0) / 64), .int .i64 0]) (by kernel_rfl) (by kernel_rfl) ?_
        have e : ((n % r) * 1048576 + (n / r % b) * 65536 + (n / r / b % o) * 64 + 0) / 64 = pgAt y r b o n := by simp only [pgAt, pgRank, pgRow, pgBank, pgBank0, if_neg h1p, if_neg h2p, if_neg h3p]; omega
        exact ⟨by rw [e], H.below⟩
      have h3p := of_decide_eq_true h3
      refine x_t (by kernel_rfl) <| x_region <| x_b H [.m, .l 2 1, .m, .l 2 2, .m, .l 3 2] <| z_ar (b - 1) <| x_b H [.m, .m, .m] <| z_store H 2 1 [.int .i64 (bits .xor .i64 (n / r % b) (bits .and .i64 (n / r / b % o) (b - 1)))] (fun v15 H => ?_)
      refine x_nil <| x_then <| x_seq <| x_region <| x_b H [.n 3 0 5 23, .n 2 0 4 171] <| z_callB (v := .tuple #[.int .i64 ((n % r) * 1048576 + (bits .xor .i64 (n / r % b) (bits .and .i64 (n / r / b % o) (b - 1))) * 65536 + (n / r / b % o) * 64 + 0), .int .i64 0]) H (gIndex_in hg (by omega) (by omega) (by omega) (by omega) _) fun v16 H => x_b H [.m, .m, .m, .m, .m] ?_
      refine x_nil <| x_then <| x_seq <| x_region <| x_b H [.m] <| x_eq (.int .i64 (((n % r) * 1048576 + (bits .xor .i64 (n / r % b) (bits .and .i64 (n / r / b % o) (b - 1))) * 65536 + (n / r / b % o) * 64 + 0) / 64)) (e_shr ((n % r) * 1048576 + (bits .xor .i64 (n / r % b) (bits .and .i64 (n / r / b % o) (b - 1))) * 65536 + (n / r / b % o) * 64 + 0) 64 (by decide)) (by kernel_rfl) rfl (by kernel_rfl) <| x_b H [.m, .m, .m] ?_
      refine x_nil <| x_then <| x_retc <| x_ret (.tuple #[.int .i64 (((n % r) * 1048576 + (bits .xor .i64 (n / r % b) (bits .and .i64 (n / r / b % o) (b - 1))) * 65536 + (n / r / b % o) * 64 + 0) / 64), .int .i64 0]) (by kernel_rfl) (by kernel_rfl) ?_
      have e : ((n % r) * 1048576 + (bits .xor .i64 (n / r % b) (bits .and .i64 (n / r / b % o) (b - 1))) * 65536 + (n / r / b % o) * 64 + 0) / 64 = pgAt y r b o n := by simp only [pgAt, pgRank, pgRow, pgBank, pgBank0, if_neg h1p, if_neg h2p, if_pos h3p]; omega
      exact ⟨by rw [e], H.below⟩
    have h2p := of_decide_eq_true h2
    refine x_t (by kernel_rfl) <| x_seq <| x_region <| x_b H [.m, .m, .l 1 2, .m, .l 1 3, .m, .l 1 0] <| x_box' H #[.int .i64 b, .int .i64 o, .int .i64 r] 3 3 (by kernel_rfl) rfl (by kernel_rfl) ?_
    clear H
    intro v17 g4 H
    refine z_call (digits_w n b o r (by omega) (by omega) (by omega) (by omega) (by omega) g4 3 _ (H.ro1 [0])) ?_
    rintro _ v18 ⟨gx, cx, rfl, hD⟩
    refine ⟨_, rfl, ?_⟩
    replace H := H.more hD
    clear hD
    refine x_b H [.m] <| x_nil <| x_then <| z_region_s H 15 [0, 1, 3] <| s_b [(0, .m), (1, .m)] 13 <| s_y 2 (y_loadc gx 0 (.int .i64 (n % b)) (fun _ H => H.rowCell 0 rfl 0 rfl) (by kernel_rfl) (fun _ => by kernel_rfl)) <| s_b [(3, .m), (4, .m)] 10 ?_
    refine s_y 5 (y_loadc gx 1 (.int .i64 (n / b % o)) (fun _ H => H.rowCell 0 rfl 1 rfl) (by kernel_rfl) (fun _ => by kernel_rfl)) <| s_b [(6, .m), (7, .m)] 7 <| s_y 8 (y_loadc gx 2 (.int .i64 (n / b / o % r)) (fun _ H => H.rowCell 0 rfl 2 rfl) (by kernel_rfl) (fun _ => by kernel_rfl)) <| s_b [(9, .m)] 5 <| s_one 10 rfl (by kernel_rfl) rfl ?_
    clear H
    intro v19 H
    refine z_store H 2 1 [.int .i64 (n % b)] (fun v20 H => ?_)
    refine x_nil <| x_then <| z_next H [0, 1, 3] [0, 1, 2] rfl <| s_b [(11, .m)] 3 <| s_one 12 rfl (by kernel_rfl) rfl ?_
    clear H
    intro v21 H
    refine z_store H 2 2 [.int .i64 (n / b % o)] (fun v22 H => ?_)
    refine x_nil <| x_then <| z_next H [0, 1, 3] [0, 1, 2] rfl <| s_b [(13, .m)] 1 <| s_one 14 rfl (by kernel_rfl) rfl ?_
    clear H
    intro v23 H
    refine z_store H 2 0 [.int .i64 (n / b / o % r)] (fun v24 H => ?_)
    refine x_nil <| x_then <| z_next H [0, 1, 2, 3] [0, 1, 3] rfl <| s_done (by kernel_rfl) ?_
    clear H
    intro v25 H
    refine z_fr 117 [(1, .int .i64 y), (3, .pointer (some ⟨g1, 0, none⟩)), (8, .pointer (some ⟨g2, 0, none⟩))] [] fun uf2 => x_blk <| x_then <| x_seq <| x_seq <| x_region <| x_b H [.m, .v (.bool (decide (y = 3)))] ?_
    refine x_nil <| x_then ?_
    cases h4 : decide (y = 3)
    · skip
      have h4p := of_decide_eq_false h4
      refine x_f (by kernel_rfl) <| x_skipc <| x_then <| x_seq <| x_region <| x_b H [.n 3 0 5 23, .n 2 0 4 171] <| z_callB (v := .tuple #[.int .i64 ((n / b / o % r) * 1048576 + (n % b) * 65536 + (n / b % o) * 64 + 0), .int .i64 0]) H (gIndex_in hg (by omega) (by omega) (by omega) (by omega) _) fun v26 H => ?_
      refine x_b H [.m, .m, .m, .m, .m] <| x_nil <| x_then <| x_seq <| x_region <| x_b H [.m] <| x_eq (.int .i64 (((n / b / o % r) * 1048576 + (n % b) * 65536 + (n / b % o) * 64 + 0) / 64)) (e_shr ((n / b / o % r) * 1048576 + (n % b) * 65536 + (n / b % o) * 64 + 0) 64 (by decide)) (by kernel_rfl) rfl (by kernel_rfl) ?_
      refine x_b H [.m, .m, .m] <| x_nil <| x_then <| x_retc <| x_ret (.tuple #[.int .i64 (((n / b / o % r) * 1048576 + (n % b) * 65536 + (n / b % o) * 64 + 0) / 64), .int .i64 0]) (by kernel_rfl) (by kernel_rfl) ?_
      have e : ((n / b / o % r) * 1048576 + (n % b) * 65536 + (n / b % o) * 64 + 0) / 64 = pgAt y r b o n := by simp only [pgAt, pgRank, pgRow, pgBank, pgBank0, if_neg h1p, if_pos h2p, if_neg h4p]; omega
      exact ⟨by rw [e], H.below⟩
    have h4p := of_decide_eq_true h4
    refine x_t (by kernel_rfl) <| x_region <| x_b H [.m, .l 2 1, .m, .l 2 2, .m, .l 3 2] <| z_ar (b - 1) <| x_b H [.m, .m, .m] <| z_store H 2 1 [.int .i64 (bits .xor .i64 (n % b) (bits .and .i64 (n / b % o) (b - 1)))] (fun v27 H => ?_)
    refine x_nil <| x_then <| x_seq <| x_region <| x_b H [.n 3 0 5 23, .n 2 0 4 171] <| z_callB (v := .tuple #[.int .i64 ((n / b / o % r) * 1048576 + (bits .xor .i64 (n % b) (bits .and .i64 (n / b % o) (b - 1))) * 65536 + (n / b % o) * 64 + 0), .int .i64 0]) H (gIndex_in hg (by omega) (by omega) (by omega) (by omega) _) fun v28 H => x_b H [.m, .m, .m, .m, .m] ?_
    refine x_nil <| x_then <| x_seq <| x_region <| x_b H [.m] <| x_eq (.int .i64 (((n / b / o % r) * 1048576 + (bits .xor .i64 (n % b) (bits .and .i64 (n / b % o) (b - 1))) * 65536 + (n / b % o) * 64 + 0) / 64)) (e_shr ((n / b / o % r) * 1048576 + (bits .xor .i64 (n % b) (bits .and .i64 (n / b % o) (b - 1))) * 65536 + (n / b % o) * 64 + 0) 64 (by decide)) (by kernel_rfl) rfl (by kernel_rfl) <| x_b H [.m, .m, .m] ?_
    refine x_nil <| x_then <| x_retc <| x_ret (.tuple #[.int .i64 (((n / b / o % r) * 1048576 + (bits .xor .i64 (n % b) (bits .and .i64 (n / b % o) (b - 1))) * 65536 + (n / b % o) * 64 + 0) / 64), .int .i64 0]) (by kernel_rfl) (by kernel_rfl) ?_
    exfalso; omega
  have h1p := of_decide_eq_true h1
  refine x_t (by kernel_rfl) <| x_seq <| x_region <| x_b H [.m, .m, .l 1 3, .m, .l 1 2, .m, .l 1 0] <| x_box' H #[.int .i64 o, .int .i64 b, .int .i64 r] 3 3 (by kernel_rfl) rfl (by kernel_rfl) ?_
  clear H
  intro v29 g5 H
  refine z_call (digits_w n o b r (by omega) (by omega) (by omega) (by omega) (by omega) g5 3 _ (H.ro1 [0])) ?_
  rintro _ v30 ⟨gx, cx, rfl, hD⟩
  refine ⟨_, rfl, ?_⟩
  replace H := H.more hD
  clear hD
  refine x_b H [.m] <| x_nil <| x_then <| z_region_s H 15 [0, 1, 3] <| s_b [(0, .m), (1, .m)] 13 <| s_y 2 (y_loadc gx 0 (.int .i64 (n % o)) (fun _ H => H.rowCell 0 rfl 0 rfl) (by kernel_rfl) (fun _ => by kernel_rfl)) <| s_b [(3, .m), (4, .m)] 10 ?_
  refine s_y 5 (y_loadc gx 1 (.int .i64 (n / o % b)) (fun _ H => H.rowCell 0 rfl 1 rfl) (by kernel_rfl) (fun _ => by kernel_rfl)) <| s_b [(6, .m), (7, .m)] 7 <| s_y 8 (y_loadc gx 2 (.int .i64 (n / o / b % r)) (fun _ H => H.rowCell 0 rfl 2 rfl) (by kernel_rfl) (fun _ => by kernel_rfl)) <| s_b [(9, .m)] 5 <| s_one 10 rfl (by kernel_rfl) rfl ?_
  clear H
  intro v31 H
  refine z_store H 2 2 [.int .i64 (n % o)] (fun v32 H => ?_)
  refine x_nil <| x_then <| z_next H [0, 1, 3] [0, 1, 2] rfl <| s_b [(11, .m)] 3 <| s_one 12 rfl (by kernel_rfl) rfl ?_
  clear H
  intro v33 H
  refine z_store H 2 1 [.int .i64 (n / o % b)] (fun v34 H => ?_)
  refine x_nil <| x_then <| z_next H [0, 1, 3] [0, 1, 2] rfl <| s_b [(13, .m)] 1 <| s_one 14 rfl (by kernel_rfl) rfl ?_
  clear H
  intro v35 H
  refine z_store H 2 0 [.int .i64 (n / o / b % r)] (fun v36 H => ?_)
  refine x_nil <| x_then <| z_next H [0, 1, 2, 3] [0, 1, 3] rfl <| s_done (by kernel_rfl) ?_
  clear H
  intro v37 H
  refine z_fr 117 [(1, .int .i64 y), (3, .pointer (some ⟨g1, 0, none⟩)), (8, .pointer (some ⟨g2, 0, none⟩))] [] fun uf3 => x_blk <| x_then <| x_seq <| x_seq <| x_region <| x_b H [.m, .v (.bool (decide (y = 3)))] ?_
  refine x_nil <| x_then ?_
  cases h5 : decide (y = 3)
  · skip
    have h5p := of_decide_eq_false h5
    refine x_f (by kernel_rfl) <| x_skipc <| x_then <| x_seq <| x_region <| x_b H [.n 3 0 5 23, .n 2 0 4 171] <| z_callB (v := .tuple #[.int .i64 ((n / o / b % r) * 1048576 + (n / o % b) * 65536 + (n % o) * 64 + 0), .int .i64 0]) H (gIndex_in hg (by omega) (by omega) (by omega) (by omega) _) fun v38 H => ?_
    refine x_b H [.m, .m, .m, .m, .m] <| x_nil <| x_then <| x_seq <| x_region <| x_b H [.m] <| x_eq (.int .i64 (((n / o / b % r) * 1048576 + (n / o % b) * 65536 + (n % o) * 64 + 0) / 64)) (e_shr ((n / o / b % r) * 1048576 + (n / o % b) * 65536 + (n % o) * 64 + 0) 64 (by decide)) (by kernel_rfl) rfl (by kernel_rfl) ?_
    refine x_b H [.m, .m, .m] <| x_nil <| x_then <| x_retc <| x_ret (.tuple #[.int .i64 (((n / o / b % r) * 1048576 + (n / o % b) * 65536 + (n % o) * 64 + 0) / 64), .int .i64 0]) (by kernel_rfl) (by kernel_rfl) ?_
    have e : ((n / o / b % r) * 1048576 + (n / o % b) * 65536 + (n % o) * 64 + 0) / 64 = pgAt y r b o n := by simp only [pgAt, pgRank, pgRow, pgBank, pgBank0, if_pos h1p, if_neg h5p]; omega
    exact ⟨by rw [e], H.below⟩
  have h5p := of_decide_eq_true h5
  refine x_t (by kernel_rfl) <| x_region <| x_b H [.m, .l 2 1, .m, .l 2 2, .m, .l 3 2] <| z_ar (b - 1) <| x_b H [.m, .m, .m] <| z_store H 2 1 [.int .i64 (bits .xor .i64 (n / o % b) (bits .and .i64 (n % o) (b - 1)))] (fun v39 H => ?_)
  refine x_nil <| x_then <| x_seq <| x_region <| x_b H [.n 3 0 5 23, .n 2 0 4 171] <| z_callB (v := .tuple #[.int .i64 ((n / o / b % r) * 1048576 + (bits .xor .i64 (n / o % b) (bits .and .i64 (n % o) (b - 1))) * 65536 + (n % o) * 64 + 0), .int .i64 0]) H (gIndex_in hg (by omega) (by omega) (by omega) (by omega) _) fun v40 H => x_b H [.m, .m, .m, .m, .m] ?_
  refine x_nil <| x_then <| x_seq <| x_region <| x_b H [.m] <| x_eq (.int .i64 (((n / o / b % r) * 1048576 + (bits .xor .i64 (n / o % b) (bits .and .i64 (n % o) (b - 1))) * 65536 + (n % o) * 64 + 0) / 64)) (e_shr ((n / o / b % r) * 1048576 + (bits .xor .i64 (n / o % b) (bits .and .i64 (n % o) (b - 1))) * 65536 + (n % o) * 64 + 0) 64 (by decide)) (by kernel_rfl) rfl (by kernel_rfl) <| x_b H [.m, .m, .m] ?_
  refine x_nil <| x_then <| x_retc <| x_ret (.tuple #[.int .i64 (((n / o / b % r) * 1048576 + (bits .xor .i64 (n / o % b) (bits .and .i64 (n % o) (b - 1))) * 65536 + (n % o) * 64 + 0) / 64), .int .i64 0]) (by kernel_rfl) (by kernel_rfl) ?_
  exfalso; omega
theorem pgAt_bd {r s b o c : Int} (y n : Int) (hg : geomOk r s b o c = true) : 0 ≤ pgAt y r b o n ∧ pgAt y r b o n < r * 16384 ∧ pgAt y r b o n / 16384 = pgRank y r b o n := by
  obtain ⟨h1, h2, h3⟩ := pg_bd y n hg
  obtain ⟨_, _, ⟨_, _⟩, ⟨_, _⟩, _⟩ := geom_bd hg
  unfold pgAt
  omega
theorem line_bd {k sn : Nat} {j c : Int} (hk : k < sn) (h0 : 0 ≤ j) (hj : j < c) : 0 ≤ (k : Int) * c + j ∧ (k : Int) * c + j < (sn : Int) * c ∧ ((k : Int) * c + j) / c = k ∧ ((k : Int) * c + j) % c = j := by
  have h1 : ((k : Int) + 1) * c ≤ (sn : Int) * c := Int.mul_le_mul_of_nonneg_right (by omega) (by omega)
  have h2 : 0 ≤ (k : Int) * c := Int.mul_nonneg (by omega) (by omega)
  rw [Int.add_mul] at h1
  refine ⟨by omega, by omega, ?_, ?_⟩
  · rw [Int.add_comm, Int.add_mul_ediv_right _ _ (by omega), Int.ediv_eq_zero_of_lt h0 hj]; simp
  · rw [Int.add_comm, Int.add_mul_emod_self_right, Int.emod_eq_of_lt h0 hj]
set_option maxRecDepth 100000 in
set_option maxHeartbeats 1000000 in
theorem lies_no {r s b o c y z : Int} {pg sn ns : Nat} (hL : Lay r s b o c y z pg sn ns) {p gl cl gd cd gs cs : Nat} {L : List Int} {D : List Bool} {S : List Int} {pu ru : Nat} (hM : MapOk z s sn pg ns L D S pu ru) (n q : Nat) (hn : n < pg) (hq : pgAt y r b o ((n : Nat) : Int) / 16384 = ((q : Nat) : Int)) (hqs : q < ns) (hs : S.getD q 0 = -1) (w0 : World) (hR : Ro w0 [.blk p #[.int .i64 r, .int .i64 s, .int .i64 b, .int .i64 o, .int .i64 c, .int .i64 y, .int .i64 z, .slice (some ⟨gl, 0, none⟩) sn cl, .slice (some ⟨gd, 0, none⟩) pg cd, .slice (some ⟨gs, 0, none⟩) ns cs, .int .i64 ((pu : Nat) : Int), .int .i64 ((ru : Nat) : Int)] 118, .row (.slice (some ⟨gl, 0, none⟩) sn cl) 3 1 sn (List.map (Value.int .i64) L), .row (.slice (some ⟨gd, 0, none⟩) pg cd) 4 1 pg (List.map Value.bool D), .row (.slice (some ⟨gs, 0, none⟩) ns cs) 3 1 ns (List.map (Value.int .i64) S)]) :
    Calls Try.prog 80 #[.pointer (some ⟨p, 0, none⟩), .int .i64 ((n : Nat) : Int)] w0 fun e w' => e = .returned (.tuple #[.int .i64 (pgAt y r b o ((n : Nat) : Int)), .int .i64 ((q : Nat) : Int), .int .i64 0]) ∧ Below w0.heap.size w0 w' := by
  refine z_enter Try.func80 rfl ?_
  have H := Hs.nil w0
  have R0 := hR
  obtain ⟨eL, eD, eS, hp, hr⟩ := id hM
  have hg : geomOk r s b o c = true := by have := hL.ok; unfold layoutOk interOk at this; simp only [Bool.and_eq_true] at this; exact this.1.1
  have hIo : interOk r s b o c y = true := by have := hL.ok; unfold layoutOk at this; simp only [Bool.and_eq_true] at this; exact this.1
  obtain ⟨-, r1, r8, s0, s8, b1, b2, o1, o2, c1, c2, y0, y4, z0, z2, hpg, hsn, hns, sn1, pg2, ln0, ln2⟩ := id hL
  obtain ⟨e1, e2, e3⟩ := pgAt_bd y (n : Int) hg
  refine x_seq <| x_region <| x_b H [.m, .m, .m] <| x_nil <| x_then <| x_seq <| z_region_whole H ?_
  refine q_b [.m, .m, .m, .m] <| q_loadcn (t := 23) p 0 [.int .i64 r, .int .i64 s, .int .i64 b, .int .i64 o, .int .i64 c] (fun _ H => (H.ro R0).cells 0 rfl 0 (by kernel_rfl)) (by kernel_rfl) (by kernel_rfl) (by kernel_rfl) <| q_b [.m, .m, .m, .m] <| q_loadc p 5 (.int .i64 y) (fun _ H => (H.ro R0).cell 0 rfl 5 rfl) (by kernel_rfl) (fun _ => by kernel_rfl) <| q_b [.m] <| q_callB (.tuple #[.int .i64 (pgAt y r b o (n : Int)), .int .i64 0]) (by kernel_rfl) (fun _ => by kernel_rfl) (fun _ => (Page_in hL (n : Int) (by omega) (by omega) _)) <| q_b [.m, .m, .m, .m, .m] ?_
  refine q_nil ?_
  clear H
  intro v1 H
  refine x_then <| x_seq <| x_seq <| x_region <| x_b H [.m, .m] <| x_nil <| x_then ?_
  refine x_f (by kernel_rfl) <| x_skipc <| x_then <| x_seq <| x_region <| x_b H [.m] <| x_eq (.int .i64 (q : Int)) ((e_shr _ 16384 (by decide)).trans (congrArg (Value.int .i64) hq)) (by kernel_rfl) rfl (by kernel_rfl) ?_
  refine x_b H [.m] <| x_nil <| x_then <| x_seq <| x_seq <| x_region <| x_b H [.m, .m] ?_
  refine z_callB H (Spare_no hL hM q hqs hs _ (H.ro R0)) fun v2 H => x_b H [.m, .m, .m, .m, .m] <| x_nil <| x_then <| x_seq <| x_region <| x_b H [.m] ?_
  refine x_nil <| x_then <| x_f (by kernel_rfl) <| x_skipc <| x_then <| x_seq <| x_region ?_
  refine x_b H [.m, .m, .m, .m, .m] <| x_nil <| x_then <| x_retc <| x_ret (.tuple #[.int .i64 (pgAt y r b o (n : Int)), .int .i64 (q : Int), .int .i64 0]) (by kernel_rfl) (by kernel_rfl) ?_
  exact ⟨rfl, H.below⟩
set_option maxRecDepth 100000 in
set_option maxHeartbeats 1000000 in
theorem Lies_no {r s b o c y z : Int} {pg sn ns : Nat} (hL : Lay r s b o c y z pg sn ns) {p gl cl gd cd gs cs : Nat} {L : List Int} {D : List Bool} {S : List Int} {pu ru : Nat} (hM : MapOk z s sn pg ns L D S pu ru) (n q : Nat) (hn : n < pg) (hq : pgAt y r b o ((n : Nat) : Int) / 16384 = ((q : Nat) : Int)) (hqs : q < ns) (hs : S.getD q 0 = -1) (w0 : World) (hR : Ro w0 [.blk p #[.int .i64 r, .int .i64 s, .int .i64 b, .int .i64 o, .int .i64 c, .int .i64 y, .int .i64 z, .slice (some ⟨gl, 0, none⟩) sn cl, .slice (some ⟨gd, 0, none⟩) pg cd, .slice (some ⟨gs, 0, none⟩) ns cs, .int .i64 ((pu : Nat) : Int), .int .i64 ((ru : Nat) : Int)] 118, .row (.slice (some ⟨gl, 0, none⟩) sn cl) 3 1 sn (List.map (Value.int .i64) L), .row (.slice (some ⟨gd, 0, none⟩) pg cd) 4 1 pg (List.map Value.bool D), .row (.slice (some ⟨gs, 0, none⟩) ns cs) 3 1 ns (List.map (Value.int .i64) S)]) :
    Calls Try.prog 29 #[.pointer (some ⟨p, 0, none⟩), .int .i64 ((n : Nat) : Int)] w0 fun e w' => e = .returned (.tuple #[.int .i64 (pgAt y r b o ((n : Nat) : Int)), .int .i64 0]) ∧ Below w0.heap.size w0 w' := by
  refine z_enter Try.func29 rfl ?_
  have H := Hs.nil w0
  have R0 := hR
  obtain ⟨eL, eD, eS, hp, hr⟩ := id hM
  have hg : geomOk r s b o c = true := by have := hL.ok; unfold layoutOk interOk at this; simp only [Bool.and_eq_true] at this; exact this.1.1
  have hIo : interOk r s b o c y = true := by have := hL.ok; unfold layoutOk at this; simp only [Bool.and_eq_true] at this; exact this.1
  obtain ⟨-, r1, r8, s0, s8, b1, b2, o1, o2, c1, c2, y0, y4, z0, z2, hpg, hsn, hns, sn1, pg2, ln0, ln2⟩ := id hL
  obtain ⟨e1, e2, e3⟩ := pgAt_bd y (n : Int) hg
  refine x_seq <| x_region <| x_b H [.m, .m] <| x_nil <| x_then <| x_seq <| x_region ?_
  refine x_b H [.m, .m] <| z_callB H (lies_no hL hM n q hn hq hqs hs _ (H.ro R0)) fun v1 H => x_b H [.m, .m, .m, .m, .m, .m, .m] <| x_nil <| x_then <| x_seq <| x_region ?_
  refine x_b H [.m, .m, .m, .m] <| x_nil <| x_then <| x_retc <| x_ret (.tuple #[.int .i64 (pgAt y r b o (n : Int)), .int .i64 0]) (by kernel_rfl) (by kernel_rfl) ?_
  exact ⟨rfl, H.below⟩
set_option maxRecDepth 100000 in
set_option maxHeartbeats 1000000 in
theorem Index_no {r s b o c y z : Int} {pg sn ns : Nat} (hL : Lay r s b o c y z pg sn ns) {p gl cl gd cd gs cs : Nat} {L : List Int} {D : List Bool} {S : List Int} {pu ru : Nat} (hM : MapOk z s sn pg ns L D S pu ru) (k j : Nat) (hk : k < sn) (hj : ((j : Nat) : Int) < c) (n q : Nat) (hn : n < pg) (hq : pgAt y r b o ((n : Nat) : Int) / 16384 = ((q : Nat) : Int)) (hqs : q < ns) (hLn : L.getD k 0 = ((n : Nat) : Int)) (hs : S.getD q 0 = -1) (w0 : World) (hR : Ro w0 [.blk p #[.int .i64 r, .int .i64 s, .int .i64 b, .int .i64 o, .int .i64 c, .int .i64 y, .int .i64 z, .slice (some ⟨gl, 0, none⟩) sn cl, .slice (some ⟨gd, 0, none⟩) pg cd, .slice (some ⟨gs, 0, none⟩) ns cs, .int .i64 ((pu : Nat) : Int), .int .i64 ((ru : Nat) : Int)] 118, .row (.slice (some ⟨gl, 0, none⟩) sn cl) 3 1 sn (List.map (Value.int .i64) L), .row (.slice (some ⟨gd, 0, none⟩) pg cd) 4 1 pg (List.map Value.bool D), .row (.slice (some ⟨gs, 0, none⟩) ns cs) 3 1 ns (List.map (Value.int .i64) S)]) :
    Calls Try.prog 30 #[.pointer (some ⟨p, 0, none⟩), .int .i64 (((k : Nat) : Int) * c + ((j : Nat) : Int))] w0 fun e w' => e = .returned (.tuple #[.int .i64 ((pgAt y r b o ((n : Nat) : Int)) * 64 + ((j : Nat) : Int)), .int .i64 ((n : Nat) : Int), .int .i64 ((q : Nat) : Int), .int .i64 0]) ∧ Below w0.heap.size w0 w' := by
  refine z_enter Try.func30 rfl ?_
  have H := Hs.nil w0
  have R0 := hR
  obtain ⟨eL, eD, eS, hp, hr⟩ := id hM
  have hg : geomOk r s b o c = true := by have := hL.ok; unfold layoutOk interOk at this; simp only [Bool.and_eq_true] at this; exact this.1.1
  have hIo : interOk r s b o c y = true := by have := hL.ok; unfold layoutOk at this; simp only [Bool.and_eq_true] at this; exact this.1
  obtain ⟨-, r1, r8, s0, s8, b1, b2, o1, o2, c1, c2, y0, y4, z0, z2, hpg, hsn, hns, sn1, pg2, ln0, ln2⟩ := id hL
  obtain ⟨e1, e2, e3⟩ := pgAt_bd y (n : Int) hg
  obtain ⟨f1, f2, f3, f4⟩ := line_bd hk (Int.natCast_nonneg j) hj
  have kb : (decide (0 ≤ ((k : Int) * c + (j : Int))) && decide (((k : Int) * c + (j : Int)) < ((sn : Int) * c))) = true := by simp; omega
  refine x_seq <| x_region <| x_b H [.m, .m, .m, .m] <| x_nil <| x_then <| x_seq <| x_seq ?_
  refine x_region <| x_b H [.m, .m, .m, .m] <| x_loadcn (t := 25) p 0 [.int .i64 r, .int .i64 s, .int .i64 b, .int .i64 o, .int .i64 c, .int .i64 y, .int .i64 z] ((H.ro R0).cells 0 rfl 0 (by kernel_rfl)) (by kernel_rfl) rfl (by kernel_rfl) (by kernel_rfl) <| z_callB H (lines_of hL _) fun v1 H => z_callB (v := .bool (decide (0 ≤ ((k : Int) * c + (j : Int))) && decide (((k : Int) * c + (j : Int)) < ((sn : Int) * c)))) H (below_any _ _ _) fun v2 H => x_b H [.v (.bool (!(decide (0 ≤ ((k : Int) * c + (j : Int))) && decide (((k : Int) * c + (j : Int)) < ((sn : Int) * c)))))] <| x_nil ?_
  refine x_then ?_
  rw [kb]
  refine x_f (by kernel_rfl) <| x_skipc <| x_then <| x_seq <| z_region_whole H <| q_b [.m, .m, .m] <| q_loadc p 7 (.slice (some ⟨gl, 0, none⟩) sn cl) (fun _ H => (H.ro R0).cell 0 rfl 7 rfl) (by kernel_rfl) (fun _ => by kernel_rfl) ?_
  refine q_b [.m, .m, .m, .m, .m, .m] <| q_loadc p 4 (.int .i64 c) (fun _ H => (H.ro R0).cell 0 rfl 4 rfl) (by kernel_rfl) (fun _ => by kernel_rfl) <| q_quo ((k : Int) * c + (j : Int)) c (k : Int) f3 (by omega) ⟨by omega, by omega⟩ (by kernel_rfl) (fun _ => by kernel_rfl) <| q_ix (t := 40) gl 0 k sn cl 3 1 k (by omega) (by omega) (by kernel_rfl) (by kernel_rfl) (by kernel_rfl) (fun _ => by kernel_rfl) <| q_loadc gl k (.int .i64 (n : Int)) (fun _ H => cell_as ((H.ro R0).rowCell 1 rfl k (mapAt 0 (by omega))) (by rw [hLn])) (by kernel_rfl) (fun _ => by kernel_rfl) <| q_b [.m] <| q_nil ?_
  clear H
  intro v3 H
  refine x_then <| x_seq <| x_region <| x_b H [.m, .m] <| z_callB H (lies_no hL hM n q hn hq hqs hs _ (H.ro R0)) fun v4 H => x_b H [.m, .m, .m, .m, .m, .m, .m] <| x_nil ?_
  refine x_then <| x_seq <| x_seq <| x_region <| x_b H [.m, .m] <| x_nil <| x_then ?_
  refine x_f (by kernel_rfl) <| x_skipc <| x_then <| x_seq <| x_region <| x_b H [.m] <| z_ar ((pgAt y r b o (n : Int)) * 64) ?_
  refine x_b H [.m, .m, .m, .m, .m, .m] <| x_loadc p 4 (.int .i64 c) ((H.ro R0).cell 0 rfl 4 rfl) (by kernel_rfl) rfl (by kernel_rfl) <| x_rem ((k : Int) * c + (j : Int)) c (j : Int) f4 (by omega) (by omega) (by kernel_rfl) rfl (by kernel_rfl) <| x_eq (.int .i64 ((pgAt y r b o (n : Int)) * 64 + (j : Int))) (e_or _ _ (pgAt y r b o (n : Int)) 6 (by decide) rfl (by omega) (by omega) (by omega) (by omega)) (by kernel_rfl) rfl (by kernel_rfl) <| x_b H [.m, .m, .m, .m, .m, .m] <| x_nil <| z_fr 54 [(4, .int .i64 ((pgAt y r b o (n : Int)) * 64 + (j : Int))), (5, .int .i64 (n : Int)), (6, .int .i64 (q : Int)), (7, .int .i64 0)] [] fun uf1 => ?_
  refine x_then <| x_retc <| x_ret (.tuple #[.int .i64 ((pgAt y r b o (n : Int)) * 64 + (j : Int)), .int .i64 (n : Int), .int .i64 (q : Int), .int .i64 0]) (by kernel_rfl) (by kernel_rfl) ?_
  exact ⟨rfl, H.below⟩
set_option maxRecDepth 100000 in
set_option maxHeartbeats 1000000 in
theorem lies_yes {r s b o c y z : Int} {pg sn ns : Nat} (hL : Lay r s b o c y z pg sn ns) {p gl cl gd cd gs cs : Nat} {L : List Int} {D : List Bool} {S : List Int} {pu ru : Nat} (hM : MapOk z s sn pg ns L D S pu ru) (n q : Nat) (hn : n < pg) (hq : pgAt y r b o ((n : Nat) : Int) / 16384 = ((q : Nat) : Int)) (hqs : q < ns) (hs : ¬ S.getD q 0 = -1) (hv : 0 ≤ S.getD q 0 ∧ S.getD q 0 < r + s) (w0 : World) (hR : Ro w0 [.blk p #[.int .i64 r, .int .i64 s, .int .i64 b, .int .i64 o, .int .i64 c, .int .i64 y, .int .i64 z, .slice (some ⟨gl, 0, none⟩) sn cl, .slice (some ⟨gd, 0, none⟩) pg cd, .slice (some ⟨gs, 0, none⟩) ns cs, .int .i64 ((pu : Nat) : Int), .int .i64 ((ru : Nat) : Int)] 118, .row (.slice (some ⟨gl, 0, none⟩) sn cl) 3 1 sn (List.map (Value.int .i64) L), .row (.slice (some ⟨gd, 0, none⟩) pg cd) 4 1 pg (List.map Value.bool D), .row (.slice (some ⟨gs, 0, none⟩) ns cs) 3 1 ns (List.map (Value.int .i64) S)]) :
    Calls Try.prog 80 #[.pointer (some ⟨p, 0, none⟩), .int .i64 ((n : Nat) : Int)] w0 fun e w' => e = .returned (.tuple #[.int .i64 (pgAt y r b o ((n : Nat) : Int) + (S.getD q 0 - ((q : Nat) : Int)) * 16384), .int .i64 ((q : Nat) : Int), .int .i64 0]) ∧ Below w0.heap.size w0 w' := by
  refine z_enter Try.func80 rfl ?_
  have H := Hs.nil w0
  have R0 := hR
  obtain ⟨eL, eD, eS, hp, hr⟩ := id hM
  have hg : geomOk r s b o c = true := by have := hL.ok; unfold layoutOk interOk at this; simp only [Bool.and_eq_true] at this; exact this.1.1
  have hIo : interOk r s b o c y = true := by have := hL.ok; unfold layoutOk at this; simp only [Bool.and_eq_true] at this; exact this.1
  obtain ⟨-, r1, r8, s0, s8, b1, b2, o1, o2, c1, c2, y0, y4, z0, z2, hpg, hsn, hns, sn1, pg2, ln0, ln2⟩ := id hL
  obtain ⟨e1, e2, e3⟩ := pgAt_bd y (n : Int) hg
  obtain ⟨hv1, hv2⟩ := hv
  refine x_seq <| x_region <| x_b H [.m, .m, .m] <| x_nil <| x_then <| x_seq <| z_region_whole H ?_
  refine q_b [.m, .m, .m, .m] <| q_loadcn (t := 23) p 0 [.int .i64 r, .int .i64 s, .int .i64 b, .int .i64 o, .int .i64 c] (fun _ H => (H.ro R0).cells 0 rfl 0 (by kernel_rfl)) (by kernel_rfl) (by kernel_rfl) (by kernel_rfl) <| q_b [.m, .m, .m, .m] <| q_loadc p 5 (.int .i64 y) (fun _ H => (H.ro R0).cell 0 rfl 5 rfl) (by kernel_rfl) (fun _ => by kernel_rfl) <| q_b [.m] <| q_callB (.tuple #[.int .i64 (pgAt y r b o (n : Int)), .int .i64 0]) (by kernel_rfl) (fun _ => by kernel_rfl) (fun _ => (Page_in hL (n : Int) (by omega) (by omega) _)) <| q_b [.m, .m, .m, .m, .m] ?_
  refine q_nil ?_
  clear H
  intro v1 H
  refine x_then <| x_seq <| x_seq <| x_region <| x_b H [.m, .m] <| x_nil <| x_then ?_
  refine x_f (by kernel_rfl) <| x_skipc <| x_then <| x_seq <| x_region <| x_b H [.m] <| x_eq (.int .i64 (q : Int)) ((e_shr _ 16384 (by decide)).trans (congrArg (Value.int .i64) hq)) (by kernel_rfl) rfl (by kernel_rfl) ?_
  refine x_b H [.m] <| x_nil <| x_then <| x_seq <| x_seq <| x_region <| x_b H [.m, .m] ?_
  refine z_callB H (Spare_yes hL hM q hqs hs _ (H.ro R0)) fun v2 H => x_b H [.m, .m, .m, .m, .m] <| x_nil <| x_then <| x_seq <| x_region <| x_b H [.m] ?_
  refine x_nil <| x_then <| x_t (by kernel_rfl) <| x_region <| x_b H [.m, .m, .m] <| z_ar ((S.getD q 0) - (q : Int)) <| z_ar (((S.getD q 0) - (q : Int)) * 16384) ?_
  refine z_ar ((pgAt y r b o (n : Int)) + (((S.getD q 0) - (q : Int)) * 16384)) <| x_b H [.m] <| x_nil <| z_fr 45 [(5, .int .i64 (q : Int)), (7, .int .i64 ((pgAt y r b o (n : Int)) + (((S.getD q 0) - (q : Int)) * 16384)))] [] fun uf1 => x_then <| x_seq <| x_region ?_
  refine x_b H [.m, .m, .m, .m, .m] <| x_nil <| x_then <| x_retc <| x_ret (.tuple #[.int .i64 ((pgAt y r b o (n : Int)) + (((S.getD q 0) - (q : Int)) * 16384)), .int .i64 (q : Int), .int .i64 0]) (by kernel_rfl) (by kernel_rfl) ?_
  exact ⟨rfl, H.below⟩
set_option maxRecDepth 100000 in
set_option maxHeartbeats 1000000 in
theorem Lies_yes {r s b o c y z : Int} {pg sn ns : Nat} (hL : Lay r s b o c y z pg sn ns) {p gl cl gd cd gs cs : Nat} {L : List Int} {D : List Bool} {S : List Int} {pu ru : Nat} (hM : MapOk z s sn pg ns L D S pu ru) (n q : Nat) (hn : n < pg) (hq : pgAt y r b o ((n : Nat) : Int) / 16384 = ((q : Nat) : Int)) (hqs : q < ns) (hs : ¬ S.getD q 0 = -1) (hv : 0 ≤ S.getD q 0 ∧ S.getD q 0 < r + s) (w0 : World) (hR : Ro w0 [.blk p #[.int .i64 r, .int .i64 s, .int .i64 b, .int .i64 o, .int .i64 c, .int .i64 y, .int .i64 z, .slice (some ⟨gl, 0, none⟩) sn cl, .slice (some ⟨gd, 0, none⟩) pg cd, .slice (some ⟨gs, 0, none⟩) ns cs, .int .i64 ((pu : Nat) : Int), .int .i64 ((ru : Nat) : Int)] 118, .row (.slice (some ⟨gl, 0, none⟩) sn cl) 3 1 sn (List.map (Value.int .i64) L), .row (.slice (some ⟨gd, 0, none⟩) pg cd) 4 1 pg (List.map Value.bool D), .row (.slice (some ⟨gs, 0, none⟩) ns cs) 3 1 ns (List.map (Value.int .i64) S)]) :
    Calls Try.prog 29 #[.pointer (some ⟨p, 0, none⟩), .int .i64 ((n : Nat) : Int)] w0 fun e w' => e = .returned (.tuple #[.int .i64 (pgAt y r b o ((n : Nat) : Int) + (S.getD q 0 - ((q : Nat) : Int)) * 16384), .int .i64 0]) ∧ Below w0.heap.size w0 w' := by
  refine z_enter Try.func29 rfl ?_
  have H := Hs.nil w0
  have R0 := hR
  obtain ⟨eL, eD, eS, hp, hr⟩ := id hM
  have hg : geomOk r s b o c = true := by have := hL.ok; unfold layoutOk interOk at this; simp only [Bool.and_eq_true] at this; exact this.1.1
  have hIo : interOk r s b o c y = true := by have := hL.ok; unfold layoutOk at this; simp only [Bool.and_eq_true] at this; exact this.1
  obtain ⟨-, r1, r8, s0, s8, b1, b2, o1, o2, c1, c2, y0, y4, z0, z2, hpg, hsn, hns, sn1, pg2, ln0, ln2⟩ := id hL
  obtain ⟨e1, e2, e3⟩ := pgAt_bd y (n : Int) hg
  obtain ⟨hv1, hv2⟩ := hv
  refine x_seq <| x_region <| x_b H [.m, .m] <| x_nil <| x_then <| x_seq <| x_region ?_
  refine x_b H [.m, .m] <| z_callB H (lies_yes hL hM n q hn hq hqs hs ⟨hv1, hv2⟩ _ (H.ro R0)) fun v1 H => x_b H [.m, .m, .m, .m, .m, .m, .m] <| x_nil <| x_then <| x_seq <| x_region ?_
  refine x_b H [.m, .m, .m, .m] <| x_nil <| x_then <| x_retc <| x_ret (.tuple #[.int .i64 (pgAt y r b o (n : Int) + (S.getD q 0 - (q : Int)) * 16384), .int .i64 0]) (by kernel_rfl) (by kernel_rfl) ?_
  exact ⟨rfl, H.below⟩
set_option maxRecDepth 100000 in
set_option maxHeartbeats 1000000 in
theorem Index_yes {r s b o c y z : Int} {pg sn ns : Nat} (hL : Lay r s b o c y z pg sn ns) {p gl cl gd cd gs cs : Nat} {L : List Int} {D : List Bool} {S : List Int} {pu ru : Nat} (hM : MapOk z s sn pg ns L D S pu ru) (k j : Nat) (hk : k < sn) (hj : ((j : Nat) : Int) < c) (n q : Nat) (hn : n < pg) (hq : pgAt y r b o ((n : Nat) : Int) / 16384 = ((q : Nat) : Int)) (hqs : q < ns) (hLn : L.getD k 0 = ((n : Nat) : Int)) (hs : ¬ S.getD q 0 = -1) (hv : 0 ≤ S.getD q 0 ∧ S.getD q 0 < r + s) (w0 : World) (hR : Ro w0 [.blk p #[.int .i64 r, .int .i64 s, .int .i64 b, .int .i64 o, .int .i64 c, .int .i64 y, .int .i64 z, .slice (some ⟨gl, 0, none⟩) sn cl, .slice (some ⟨gd, 0, none⟩) pg cd, .slice (some ⟨gs, 0, none⟩) ns cs, .int .i64 ((pu : Nat) : Int), .int .i64 ((ru : Nat) : Int)] 118, .row (.slice (some ⟨gl, 0, none⟩) sn cl) 3 1 sn (List.map (Value.int .i64) L), .row (.slice (some ⟨gd, 0, none⟩) pg cd) 4 1 pg (List.map Value.bool D), .row (.slice (some ⟨gs, 0, none⟩) ns cs) 3 1 ns (List.map (Value.int .i64) S)]) :
    Calls Try.prog 30 #[.pointer (some ⟨p, 0, none⟩), .int .i64 (((k : Nat) : Int) * c + ((j : Nat) : Int))] w0 fun e w' => e = .returned (.tuple #[.int .i64 ((pgAt y r b o ((n : Nat) : Int) + (S.getD q 0 - ((q : Nat) : Int)) * 16384) * 64 + ((j : Nat) : Int)), .int .i64 ((n : Nat) : Int), .int .i64 ((q : Nat) : Int), .int .i64 0]) ∧ Below w0.heap.size w0 w' := by
  refine z_enter Try.func30 rfl ?_
  have H := Hs.nil w0
  have R0 := hR
  obtain ⟨eL, eD, eS, hp, hr⟩ := id hM
  have hg : geomOk r s b o c = true := by have := hL.ok; unfold layoutOk interOk at this; simp only [Bool.and_eq_true] at this; exact this.1.1
  have hIo : interOk r s b o c y = true := by have := hL.ok; unfold layoutOk at this; simp only [Bool.and_eq_true] at this; exact this.1
  obtain ⟨-, r1, r8, s0, s8, b1, b2, o1, o2, c1, c2, y0, y4, z0, z2, hpg, hsn, hns, sn1, pg2, ln0, ln2⟩ := id hL
  obtain ⟨e1, e2, e3⟩ := pgAt_bd y (n : Int) hg
  obtain ⟨f1, f2, f3, f4⟩ := line_bd hk (Int.natCast_nonneg j) hj
  have kb : (decide (0 ≤ ((k : Int) * c + (j : Int))) && decide (((k : Int) * c + (j : Int)) < ((sn : Int) * c))) = true := by simp; omega
  obtain ⟨hv1, hv2⟩ := hv
  refine x_seq <| x_region <| x_b H [.m, .m, .m, .m] <| x_nil <| x_then <| x_seq <| x_seq ?_
  refine x_region <| x_b H [.m, .m, .m, .m] <| x_loadcn (t := 25) p 0 [.int .i64 r, .int .i64 s, .int .i64 b, .int .i64 o, .int .i64 c, .int .i64 y, .int .i64 z] ((H.ro R0).cells 0 rfl 0 (by kernel_rfl)) (by kernel_rfl) rfl (by kernel_rfl) (by kernel_rfl) <| z_callB H (lines_of hL _) fun v1 H => z_callB (v := .bool (decide (0 ≤ ((k : Int) * c + (j : Int))) && decide (((k : Int) * c + (j : Int)) < ((sn : Int) * c)))) H (below_any _ _ _) fun v2 H => x_b H [.v (.bool (!(decide (0 ≤ ((k : Int) * c + (j : Int))) && decide (((k : Int) * c + (j : Int)) < ((sn : Int) * c)))))] <| x_nil ?_
  refine x_then ?_
  rw [kb]
  refine x_f (by kernel_rfl) <| x_skipc <| x_then <| x_seq <| z_region_whole H <| q_b [.m, .m, .m] <| q_loadc p 7 (.slice (some ⟨gl, 0, none⟩) sn cl) (fun _ H => (H.ro R0).cell 0 rfl 7 rfl) (by kernel_rfl) (fun _ => by kernel_rfl) ?_
  refine q_b [.m, .m, .m, .m, .m, .m] <| q_loadc p 4 (.int .i64 c) (fun _ H => (H.ro R0).cell 0 rfl 4 rfl) (by kernel_rfl) (fun _ => by kernel_rfl) <| q_quo ((k : Int) * c + (j : Int)) c (k : Int) f3 (by omega) ⟨by omega, by omega⟩ (by kernel_rfl) (fun _ => by kernel_rfl) <| q_ix (t := 40) gl 0 k sn cl 3 1 k (by omega) (by omega) (by kernel_rfl) (by kernel_rfl) (by kernel_rfl) (fun _ => by kernel_rfl) <| q_loadc gl k (.int .i64 (n : Int)) (fun _ H => cell_as ((H.ro R0).rowCell 1 rfl k (mapAt 0 (by omega))) (by rw [hLn])) (by kernel_rfl) (fun _ => by kernel_rfl) <| q_b [.m] <| q_nil ?_
  clear H
  intro v3 H
  refine x_then <| x_seq <| x_region <| x_b H [.m, .m] <| z_callB H (lies_yes hL hM n q hn hq hqs hs ⟨hv1, hv2⟩ _ (H.ro R0)) fun v4 H => x_b H [.m, .m, .m, .m, .m, .m, .m] <| x_nil ?_
  refine x_then <| x_seq <| x_seq <| x_region <| x_b H [.m, .m] <| x_nil <| x_then ?_
  refine x_f (by kernel_rfl) <| x_skipc <| x_then <| x_seq <| x_region <| x_b H [.m] <| z_ar ((pgAt y r b o (n : Int) + (S.getD q 0 - (q : Int)) * 16384) * 64) ?_
  refine x_b H [.m, .m, .m, .m, .m, .m] <| x_loadc p 4 (.int .i64 c) ((H.ro R0).cell 0 rfl 4 rfl) (by kernel_rfl) rfl (by kernel_rfl) <| x_rem ((k : Int) * c + (j : Int)) c (j : Int) f4 (by omega) (by omega) (by kernel_rfl) rfl (by kernel_rfl) <| x_eq (.int .i64 ((pgAt y r b o (n : Int) + (S.getD q 0 - (q : Int)) * 16384) * 64 + (j : Int))) (e_or _ _ (pgAt y r b o (n : Int) + (S.getD q 0 - (q : Int)) * 16384) 6 (by decide) rfl (by omega) (by omega) (by omega) (by omega)) (by kernel_rfl) rfl (by kernel_rfl) <| x_b H [.m, .m, .m, .m, .m, .m] <| x_nil <| z_fr 54 [(4, .int .i64 ((pgAt y r b o (n : Int) + (S.getD q 0 - (q : Int)) * 16384) * 64 + (j : Int))), (5, .int .i64 (n : Int)), (6, .int .i64 (q : Int)), (7, .int .i64 0)] [] fun uf1 => ?_
  refine x_then <| x_retc <| x_ret (.tuple #[.int .i64 ((pgAt y r b o (n : Int) + (S.getD q 0 - (q : Int)) * 16384) * 64 + (j : Int)), .int .i64 (n : Int), .int .i64 (q : Int), .int .i64 0]) (by kernel_rfl) (by kernel_rfl) ?_
  exact ⟨rfl, H.below⟩
set_option maxRecDepth 100000 in
set_option maxHeartbeats 1000000 in
theorem Index_out {r s b o c y z : Int} {pg sn ns : Nat} (hL : Lay r s b o c y z pg sn ns) {p gl cl gd cd gs cs : Nat} {L : List Int} {D : List Bool} {S : List Int} {pu ru : Nat} (hM : MapOk z s sn pg ns L D S pu ru) (i : Int) (hi : 0 ≤ i → ((sn : Nat) : Int) * c ≤ i) (w0 : World) (hR : Ro w0 [.blk p #[.int .i64 r, .int .i64 s, .int .i64 b, .int .i64 o, .int .i64 c, .int .i64 y, .int .i64 z, .slice (some ⟨gl, 0, none⟩) sn cl, .slice (some ⟨gd, 0, none⟩) pg cd, .slice (some ⟨gs, 0, none⟩) ns cs, .int .i64 ((pu : Nat) : Int), .int .i64 ((ru : Nat) : Int)] 118, .row (.slice (some ⟨gl, 0, none⟩) sn cl) 3 1 sn (List.map (Value.int .i64) L), .row (.slice (some ⟨gd, 0, none⟩) pg cd) 4 1 pg (List.map Value.bool D), .row (.slice (some ⟨gs, 0, none⟩) ns cs) 3 1 ns (List.map (Value.int .i64) S)]) :
    Calls Try.prog 30 #[.pointer (some ⟨p, 0, none⟩), .int .i64 i] w0 fun e w' => e = .returned (.tuple #[.int .i64 0, .int .i64 0, .int .i64 0, .int .i64 12]) ∧ Below w0.heap.size w0 w' := by
  refine z_enter Try.func30 rfl ?_
  have H := Hs.nil w0
  have R0 := hR
  obtain ⟨eL, eD, eS, hp, hr⟩ := id hM
  have hg : geomOk r s b o c = true := by have := hL.ok; unfold layoutOk interOk at this; simp only [Bool.and_eq_true] at this; exact this.1.1
  have hIo : interOk r s b o c y = true := by have := hL.ok; unfold layoutOk at this; simp only [Bool.and_eq_true] at this; exact this.1
  obtain ⟨-, r1, r8, s0, s8, b1, b2, o1, o2, c1, c2, y0, y4, z0, z2, hpg, hsn, hns, sn1, pg2, ln0, ln2⟩ := id hL
  have kb : (decide (0 ≤ i) && decide (i < ((sn : Int) * c))) = false := by simpa using hi
  refine x_seq <| x_region <| x_b H [.m, .m, .m, .m] <| x_nil <| x_then <| x_seq <| x_seq ?_
  refine x_region <| x_b H [.m, .m, .m, .m] <| x_loadcn (t := 25) p 0 [.int .i64 r, .int .i64 s, .int .i64 b, .int .i64 o, .int .i64 c, .int .i64 y, .int .i64 z] ((H.ro R0).cells 0 rfl 0 (by kernel_rfl)) (by kernel_rfl) rfl (by kernel_rfl) (by kernel_rfl) <| z_callB H (lines_of hL _) fun v1 H => z_callB (v := .bool (decide (0 ≤ i) && decide (i < ((sn : Int) * c)))) H (below_any _ _ _) fun v2 H => x_b H [.v (.bool (!(decide (0 ≤ i) && decide (i < ((sn : Int) * c)))))] <| x_nil ?_
  refine x_then ?_
  rw [kb]
  refine x_t (by kernel_rfl) <| x_seq <| x_region <| x_b H [.m, .m, .m, .m] <| x_nil <| x_then <| x_retc ?_
  refine x_then_ret <| x_ret (.tuple #[.int .i64 0, .int .i64 0, .int .i64 0, .int .i64 12]) (by kernel_rfl) (by kernel_rfl) ?_
  exact ⟨rfl, H.below⟩
end Go.Proofs.Ytpmnnijjohlloaa
