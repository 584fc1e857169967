import Derived.Test.YtoflmffbkdekcaaGreatLIx
namespace Go.Proofs.YtoflmffbkdekcaaGreat
open Go Go.RowKit
set_option linter.unusedVariables false
set_option linter.unusedSimpArgs false
theorem radix {a b r s:Int} {m:Int} (hm:1≤m) (hr:a % m=b % m) (hq:a / m=b / m):a=b:=by
  rw [← Int.emod_add_mul_ediv a m,← Int.emod_add_mul_ediv b m,hr,hq]
theorem divB {n a b:Int} (hn:0≤n) (ha:1≤a) (h:n < b * a):0≤n / a∧n / a < b:=⟨Int.ediv_nonneg hn (by omega),Int.ediv_lt_of_lt_mul (by omega) h⟩
theorem modS {n a:Int} (h:0≤n∧n < a):n % a=n:=Int.emod_eq_of_lt h.1 h.2
theorem mix_inj {n a a' b:Int} (hn:powB n 16=true) (ha:0≤a∧a < n) (ha':0≤a'∧a' < n) (hb:0≤b∧b < 1024) (h:bits .xor .i64 a (bits .and .i64 b (IntKind.i64.wrap (n - 1)))=bits .xor .i64 a' (bits .and .i64 b (IntKind.i64.wrap (n - 1)))):a=a':=by
  obtain ⟨x,y,e1,e2,_,e4⟩:=mixB hn ha hb
  obtain ⟨x',y',e1',e2',_,e4'⟩:=mixB hn ha' hb
  rw [e2,e2',e4,e4'] at h
  have h1:x ^^^ (b % n).toNat=x' ^^^ (b % n).toNat:=by omega
  have h2:x=x':=by
    have:=congrArg (fun z=>z ^^^ (b % n).toNat) h1
    simpa [Nat.xor_assoc] using this
  rw [e1,e1',h2]
theorem pgPl_inj {g : Gm} (hg : g.right = true) {w n m : Int} (hn : 0 ≤ n ∧ n < gpages_v0 g) (hm : 0 ≤ m ∧ m < gpages_v0 g) (h : pgPl g w n = pgPl g w m) : n = m := by
  have hr:=Gm.rt hg
  have hp:=(gpages_eq hg).1
  rw [hp] at hn hm
  have e1:g.ranks * g.banks * g.rows=g.ranks * g.banks * g.rows:=rfl
  have p1:∀ k:Int,0≤k∧k < g.ranks * g.banks * g.rows→(0≤k / g.rows∧k / g.rows < g.ranks * g.banks)∧(0≤k / g.rows / g.banks∧k / g.rows / g.banks < g.ranks):=fun k hk=>by
    have a:=divB hk.1 (a:=g.rows) (b:=g.ranks * g.banks) (by omega) hk.2
    exact ⟨a,divB a.1 (by omega) a.2⟩
  have p2:∀ k:Int,0≤k∧k < g.ranks * g.banks * g.rows→(0≤k / g.banks∧k / g.banks < g.ranks * g.rows)∧(0≤k / g.banks / g.rows∧k / g.banks / g.rows < g.ranks):=fun k hk=>by
    have a:=divB hk.1 (a:=g.banks) (b:=g.ranks * g.rows) (by omega) (by rw [Int.mul_right_comm]; exact hk.2)
    exact ⟨a,divB a.1 (by omega) a.2⟩
  have p3:∀ k:Int,0≤k∧k < g.ranks * g.banks * g.rows→(0≤k / g.ranks∧k / g.ranks < g.rows * g.banks)∧(0≤k / g.ranks / g.banks∧k / g.ranks / g.banks < g.rows):=fun k hk=>by
    have a:=divB hk.1 (a:=g.ranks) (b:=g.rows * g.banks) (by omega) (by rw [show g.rows * g.banks * g.ranks=g.ranks * g.banks * g.rows by rw [Int.mul_comm g.ranks g.banks,Int.mul_comm g.rows,Int.mul_assoc,Int.mul_comm g.rows,← Int.mul_assoc]]; exact hk.2)
    exact ⟨a,divB a.1 (by omega) a.2⟩
  unfold pgPl at h
  cases h0:decide (w=0) with
  | true =>
    rw [h0] at h
    simp only [cond_true,Pl.mk.injEq] at h
    rw [modS (p1 n hn).2,modS (p1 m hm).2] at h
    exact radix (r:=0) (s:=0) (by omega) h.2.2.1 (radix (r:=0) (s:=0) (by omega) h.2.1 h.1)
  | false =>
    rw [h0] at h
    simp only [cond_false] at h
    cases h1:decide (w=1) with
    | true =>
      rw [h1] at h
      simp only [cond_true,Pl.mk.injEq] at h
      rw [modS (p2 n hn).2,modS (p2 m hm).2] at h
      exact radix (r:=0) (s:=0) (by omega) h.2.1 (radix (r:=0) (s:=0) (by omega) h.2.2.1 h.1)
    | false =>
      rw [h1] at h
      simp only [cond_false] at h
      cases h3:decide (w=3) with
      | true =>
        rw [h3] at h
        simp only [cond_true,Pl.mk.injEq] at h
        obtain ⟨k1,k2,k3,_⟩:=h
        rw [k3] at k2
        have k4:=mix_inj (Gm.pw hg) (modB (by omega)) (modB (by omega)) (by have:=modB (n:=m / g.ranks / g.banks) (a:=g.rows) (by omega); omega) k2
        rw [modS (p3 n hn).2,modS (p3 m hm).2] at k3
        exact radix (r:=0) (s:=0) (by omega) k1 (radix (r:=0) (s:=0) (by omega) k4 k3)
      | false =>
        rw [h3] at h
        simp only [cond_false,Pl.mk.injEq] at h
        rw [modS (p3 n hn).2,modS (p3 m hm).2] at h
        exact radix (r:=0) (s:=0) (by omega) h.1 (radix (r:=0) (s:=0) (by omega) h.2.1 h.2.2.1)
theorem liveL_at:∀ k i,i < k→(liveL k).getD i eI0=((i:Nat):Int)
  | 0,i,h=>absurd h (Nat.not_lt_zero _)
  | k + 1,i,h=>by
    rw [liveL,List.getD_eq_getElem?_getD,List.getElem?_append,liveL_len]
    by_cases e:i < k
    · rw [if_pos e,← List.getD_eq_getElem?_getD]; exact liveL_at k i e
    · rw [if_neg e,show i=k by omega,Nat.sub_self]; rfl
theorem spOf_new (l:Ly) (r:Int):spOf (mNew_s l) r=r:=by
  have e:mSpare_v1 (mNew_s l) r=false:=by
    unfold mSpare_v1
    cases q:rbel_v0 r (((mNew_s l).sp.length:Nat):Int) with
    | false=>rfl
    | true =>
      have hb:=rbel_t q
      have h:=spL_in _ _ (gDm (l:=(mNew_s l).sp) (i:=r.toNat) eI0 (by omega))
      rw [cond_true,decide_eq_true h]; rfl
  unfold spOf
  rw [e]; rfl
theorem mNew_mp {l:Ly} (h:lyRight_v0 l=true):MpIn (mNew_s l):=by
  have hl:=ly_rt h
  refine ⟨fun x hx=>?_,fun x hx=>Or.inl (spL_in _ x hx)⟩
  have:=liveL_in _ x hx
  show 0≤x∧x < gpages_v0 l.g
  omega
def ixl (l:Ly) (n:Int):Int:=mIndex_v0 (mNew_s l) n
def plN0 (l:Ly) (n:Int):Pl:=⟨(pgPl l.g l.way (n / l.g.cols)).rank,(pgPl l.g l.way (n / l.g.cols)).bank,(pgPl l.g l.way (n / l.g.cols)).row,n % l.g.cols⟩
theorem ixl_eq {l:Ly} (h:lyRight_v0 l=true) {n:Int} (hn:0≤n∧n < IntKind.i64.wrap ((lySeen_v0 l) * l.g.cols)):ixl l n=(plN0 l n).ix∧l.g.holds (plN0 l n)=true∧(0≤n / l.g.cols∧n / l.g.cols < gpages_v0 l.g):=by
  have hm:=mNew_mp h
  obtain ⟨e1,e2,_,_⟩:=mIndex_eq (s:=mNew_s l) (mNew_ok h) hm.lv hm.sp hn
  obtain ⟨b1,b2,_,_,_⟩:=line_b h hn
  have hl:=ly_rt h
  have el:(mNew_s l).lives.getD (n / (mNew_s l).l.g.cols).toNat eI0=n / l.g.cols:=by
    show (liveL (lySeen_v0 l).toNat).getD (n / l.g.cols).toNat eI0=_
    rw [liveL_at _ _ (by omega)]; omega
  rw [el] at e1 e2
  have ep:lnPl (mNew_s l) (n / l.g.cols) (n % (mNew_s l).l.g.cols)=plN0 l n:=by
    unfold lnPl plN0
    rw [spOf_new]; rfl
  rw [ep] at e1 e2
  exact ⟨e1,e2,by omega⟩
theorem ixl_inj {l:Ly} (h:lyRight_v0 l=true) {n m:Int} (hn:0≤n∧n < IntKind.i64.wrap ((lySeen_v0 l) * l.g.cols)) (hm:0≤m∧m < IntKind.i64.wrap ((lySeen_v0 l) * l.g.cols)) (e:ixl l n=ixl l m):n=m:=by
  have hl:=ly_rt h
  have hg:=Gm.rt hl.1
  obtain ⟨a1,a2,a3⟩:=ixl_eq h hn
  obtain ⟨b1,b2,b3⟩:=ixl_eq h hm
  rw [a1,b1] at e
  have k:=ix_inj a2 b2 e
  have i1:=pg_in hl.1 l.way (n / l.g.cols)
  have i2:=pg_in hl.1 l.way (m / l.g.cols)
  unfold plN0 at k
  simp only [Pl.mk.injEq] at k
  have kp:pgPl l.g l.way (n / l.g.cols)=pgPl l.g l.way (m / l.g.cols):=by
    have q1:=i1.2.2.2
    have q2:=i2.2.2.2
    generalize pgPl l.g l.way (n / l.g.cols)=p at k q1 ⊢
    generalize pgPl l.g l.way (m / l.g.cols)=q at k q2 ⊢
    obtain ⟨x1,x2,x3,x4⟩:=p
    obtain ⟨y1,y2,y3,y4⟩:=q
    simp only at k q1 q2
    simp only [Pl.mk.injEq]
    exact ⟨k.1,k.2.1,k.2.2.1,by rw [q1,q2]⟩
  exact radix (r:=0) (s:=0) (by omega) k.2.2.2 (pgPl_inj hl.1 a3 b3 kp)
end Go.Proofs.YtoflmffbkdekcaaGreat
