import Derived.Test.YtoflmffbkdekcaaGreatLRt
namespace Go.Proofs.YtoflmffbkdekcaaGreat
open Go Go.RowKit
set_option linter.unusedVariables false
set_option linter.unusedSimpArgs false
theorem orB {k x b:Nat} (hb:b < 2 ^ k) (h:2 ^ k * x + b < 9223372036854775808):bits .or .i64 ((2 ^ k * x:Nat):Int) ((b:Nat):Int)=((2 ^ k * x + b:Nat):Int):=by
  have e:bits .or .i64 ((2 ^ k * x:Nat):Int) ((b:Nat):Int)=IntKind.i64.wrap (((BitVec.ofInt 64 ((2 ^ k * x:Nat):Int) ||| BitVec.ofInt 64 ((b:Nat):Int)).toNat:Nat):Int):=rfl
  rw [e,BitVec.toNat_or,bvN (n:=64) (show 2 ^ k * x < 2 ^ 64 by omega),bvN (n:=64) (show b < 2 ^ 64 by omega),← Nat.two_pow_add_eq_or_of_lt hb]
  exact i64ok ⟨by omega,by omega⟩
theorem andK (n:Int) (k:Nat) (hk:k < 63):bits .and .i64 n ((2 ^ k - 1:Nat):Int)=((n % 18446744073709551616).toNat % 2 ^ k:Nat):=by
  have hp:2 ^ k≤2 ^ 62:=Nat.pow_le_pow_right (by decide) (by omega)
  have hp0:0 < 2 ^ k:=Nat.pos_of_ne_zero (by simp)
  have hm:(n % 18446744073709551616).toNat % 2 ^ k < 2 ^ k:=Nat.mod_lt _ hp0
  have e:bits .and .i64 n ((2 ^ k - 1:Nat):Int)=IntKind.i64.wrap (((BitVec.ofInt 64 n &&& BitVec.ofInt 64 ((2 ^ k - 1:Nat):Int)).toNat:Nat):Int):=rfl
  rw [e,BitVec.toNat_and,bvN (n:=64) (show 2 ^ k - 1 < 2 ^ 64 by omega),Nat.and_two_pow_sub_one_eq_mod,BitVec.toNat_ofInt]
  exact i64ok ⟨by omega,by omega⟩
theorem ix_eq {p:Pl} (a:0≤p.rank∧p.rank < 16) (b:0≤p.bank∧p.bank < 16) (c:0≤p.row∧p.row < 1024) (d:0≤p.col∧p.col < 64):p.ix=p.rank * 1048576 + p.bank * 65536 + p.row * 64 + p.col:=by
  obtain ⟨r,bk,w,co⟩:=p
  simp only at a b c d
  obtain ⟨r,rfl⟩:∃ x:Nat,r=((x:Nat):Int):=⟨r.toNat,by omega⟩
  obtain ⟨bk,rfl⟩:∃ x:Nat,bk=((x:Nat):Int):=⟨bk.toNat,by omega⟩
  obtain ⟨w,rfl⟩:∃ x:Nat,w=((x:Nat):Int):=⟨w.toNat,by omega⟩
  obtain ⟨co,rfl⟩:∃ x:Nat,co=((x:Nat):Int):=⟨co.toNat,by omega⟩
  unfold Pl.ix
  simp only
  rw [wrapN (x:=((r:Nat):Int) * 2 ^ 20) (by omega),wrapN (x:=((bk:Nat):Int) * 2 ^ 16) (by omega),wrapN (x:=((w:Nat):Int) * 2 ^ 6) (by omega)]
  rw [show ((r:Nat):Int) * 2 ^ 20=((2 ^ 20 * r:Nat):Int) by omega,show ((bk:Nat):Int) * 2 ^ 16=((2 ^ 16 * bk:Nat):Int) by omega,show ((w:Nat):Int) * 2 ^ 6=((2 ^ 6 * w:Nat):Int) by omega]
  rw [orB (k:=20) (x:=r) (b:=2 ^ 16 * bk) (by omega) (by omega)]
  rw [show 2 ^ 20 * r + 2 ^ 16 * bk=2 ^ 16 * (16 * r + bk) by omega,orB (k:=16) (b:=2 ^ 6 * w) (by omega) (by omega)]
  rw [show 2 ^ 16 * (16 * r + bk) + 2 ^ 6 * w=2 ^ 6 * (1024 * (16 * r + bk) + w) by omega,orB (k:=6) (by omega) (by omega)]
  omega
theorem plOf_eq {i:Int} (h:0≤i∧i < 16777216):plOf i=⟨i / 1048576,i / 65536 % 16,i / 64 % 1024,i % 64⟩:=by
  have a1:=andK (i / 65536) 4 (by decide)
  have a2:=andK (i / 64) 10 (by decide)
  have a3:=andK i 6 (by decide)
  unfold plOf
  rw [Int.fdiv_eq_ediv_of_nonneg _ (by decide),Int.fdiv_eq_ediv_of_nonneg _ (by decide),Int.fdiv_eq_ediv_of_nonneg _ (by decide)]
  rw [show (2:Int) ^ 20=1048576 from rfl,show (2:Int) ^ 16=65536 from rfl,show (2:Int) ^ 6=64 from rfl]
  rw [show bits .and .i64 (i / 65536) 15=_ from a1,show bits .and .i64 (i / 64) 1023=_ from a2,show bits .and .i64 i 63=_ from a3]
  congr 1 <;> omega
theorem plOf_ix {p:Pl} (a:0≤p.rank∧p.rank < 16) (b:0≤p.bank∧p.bank < 16) (c:0≤p.row∧p.row < 1024) (d:0≤p.col∧p.col < 64):plOf p.ix=p:=by
  have e:=ix_eq a b c d
  rw [plOf_eq (by omega),e]
  obtain ⟨r,bk,w,co⟩:=p
  simp only at a b c d ⊢
  congr 1 <;> omega
theorem holds_16 {g:Gm} {p:Pl} (h:g.holds p=true):(0≤p.rank∧p.rank < 16)∧(0≤p.bank∧p.bank < 16)∧(0≤p.row∧p.row < 1024)∧(0≤p.col∧p.col < 64):=by
  obtain ⟨h0,h1,h2,h3,h4⟩:=holds_t h
  have hg:=Gm.rt h0
  omega
theorem atB_ix {g:Gm} {p:Pl} (h:g.holds p=true):g.atB p.ix=true:=by
  obtain ⟨a,b,c,d⟩:=holds_16 h
  unfold Gm.atB
  rw [plOf_ix a b c d,h,ix_eq a b c d,decide_eq_false (by omega)]; rfl
theorem ix_inj {g:Gm} {p q:Pl} (hp:g.holds p=true) (hq:g.holds q=true) (h:p.ix=q.ix):p=q:=by
  obtain ⟨a,b,c,d⟩:=holds_16 hp
  obtain ⟨a',b',c',d'⟩:=holds_16 hq
  rw [← plOf_ix a b c d,h,plOf_ix a' b' c' d']
def pgPl (g:Gm) (w n:Int):Pl :=
  bif decide (w=0) then ⟨n / g.rows / g.banks % g.ranks,n / g.rows % g.banks,n % g.rows,0⟩
  else (bif decide (w=1) then ⟨n / g.banks / g.rows % g.ranks,n % g.banks,n / g.banks % g.rows,0⟩
  else (bif decide (w=3) then ⟨n % g.ranks,bits .xor .i64 (n / g.ranks % g.banks) (bits .and .i64 (n / g.ranks / g.banks % g.rows) (IntKind.i64.wrap (g.banks - 1))),n / g.ranks / g.banks % g.rows,0⟩
  else ⟨n % g.ranks,n / g.ranks % g.banks,n / g.ranks / g.banks % g.rows,0⟩))
theorem mixR {g:Gm} (hg:g.right=true) {b w:Int} (h1:0≤b∧b < g.banks) (h2:0≤w∧w < g.rows):0≤bits .xor .i64 b (bits .and .i64 w (IntKind.i64.wrap (g.banks - 1)))∧bits .xor .i64 b (bits .and .i64 w (IntKind.i64.wrap (g.banks - 1))) < g.banks:=by
  have hr:=Gm.rt hg
  obtain ⟨x,y,_,e,h3,_⟩:=mixB (Gm.pw hg) h1 (b:=w) (by omega)
  rw [e]; omega
theorem pg_in {g:Gm} (hg:g.right=true) (w n:Int):(0≤(pgPl g w n).rank∧(pgPl g w n).rank < g.ranks)∧(0≤(pgPl g w n).bank∧(pgPl g w n).bank < g.banks)∧(0≤(pgPl g w n).row∧(pgPl g w n).row < g.rows)∧(pgPl g w n).col=0:=by
  have hr:=Gm.rt hg
  let p:=fun x:Pl=>(0≤x.rank∧x.rank < g.ranks)∧(0≤x.bank∧x.bank < g.banks)∧(0≤x.row∧x.row < g.rows)∧x.col=0
  unfold pgPl
  exact bifG (p:=p) ⟨modB (by omega),modB (by omega),modB (by omega),rfl⟩ (bifG (p:=p) ⟨modB (by omega),modB (by omega),modB (by omega),rfl⟩ (bifG (p:=p) ⟨modB (by omega),mixR hg (modB (by omega)) (modB (by omega)),modB (by omega),rfl⟩ ⟨modB (by omega),modB (by omega),modB (by omega),rfl⟩))
theorem iPage_eq {g:Gm} {w n:Int} (hi:interRight_v0 g w=true) (hg:g.right=true) (hn:0≤n∧n < gpages_v0 g):iPage_v0 g w n=(pgPl g w n).rank * 16384 + (pgPl g w n).bank * 1024 + (pgPl g w n).row:=by
  have hr:=Gm.rt hg
  have hp:=gpages_eq hg
  have hq:=pg_in hg w n
  have d1:=dig (n:=n) (a:=g.rows) (b:=g.banks) (c:=g.ranks) (by omega) (by omega) (by omega) (by omega)
  have d2:=dig (n:=n) (a:=g.banks) (b:=g.rows) (c:=g.ranks) (by omega) (by omega) (by omega) (by omega)
  have d3:=dig (n:=n) (a:=g.ranks) (b:=g.banks) (c:=g.rows) (by omega) (by omega) (by omega) (by omega)
  have e:iPage_v0 g w n=(g.ix (pgPl g w n)).fdiv (2 ^ 6):=by
    unfold iPage_v0 pgPl
    rw [hi,decide_eq_false (show ¬ n < 0 by omega),decide_eq_false (show ¬ gpages_v0 g≤n by omega),d1.1,d1.2.1,d1.2.2,d2.1,d2.2.1,d2.2.2,d3.1,d3.2.1,d3.2.2]
    simp only [cond_true,cond_false]
    cases h0:decide (w=0) with
    | true=>rw [decide_eq_false (show ¬ w=3 by have:=of_decide_eq_true h0; omega)]; rfl
    | false =>
      simp only [cond_false]
      cases h1:decide (w=1) with
      | true=>rw [decide_eq_false (show ¬ w=3 by have:=of_decide_eq_true h1; omega)]; rfl
      | false=>cases decide (w=3) <;> rfl
  have hh:g.holds (pgPl g w n)=true:=holds_of hg ⟨hq.1.1,by omega⟩ hq.2.1 hq.2.2.1 (by omega)
  obtain ⟨a,b,c,d⟩:=holds_16 hh
  rw [e]
  unfold Gm.ix
  rw [hh,cond_true,ix_eq a b c d,Int.fdiv_eq_ediv_of_nonneg _ (by decide),show (2:Int) ^ 6=64 from rfl]
  omega
def spOf (s:MapS) (r:Int):Int:=bif mSpare_v1 s r then mSpare_v0 s r else r
theorem spOf_in {s:MapS} (ok:MapOk s) (sp:SpIn s) {r:Int} (h:0≤r∧r < s.l.g.ranks):0≤spOf s r∧spOf s r < s.l.g.ranks + s.l.g.spares:=by
  have hg:=Gm.rt (ly_rt ok.right).1
  have hns:=ok.ns
  have hm:s.sp.getD r.toNat eI0 ∈ s.sp:=gDm eI0 (by omega)
  unfold spOf mSpare_v1 mSpare_v0
  rw [rbel_of (show 0≤r∧r < ((s.sp.length:Nat):Int) by omega)]
  simp only [cond_true]
  rcases sp _ hm with h1 | h1
  · rw [decide_eq_true h1]; exact ⟨h.1,by show r < _; omega⟩
  · rw [decide_eq_false (show ¬ s.sp.getD r.toNat eI0=-1 by omega)]
    simp only [cond_false,cond_true]
    omega
theorem mlies_eq {s:MapS} (ok:MapOk s) (sp:SpIn s) {h:Int} (hh:0≤h∧h < gpages_v0 s.l.g):mlies_v0 s h=spOf s (pgPl s.l.g s.l.way h).rank * 16384 + (pgPl s.l.g s.l.way h).bank * 1024 + (pgPl s.l.g s.l.way h).row∧mlies_v1 s h=(pgPl s.l.g s.l.way h).rank:=by
  have hl:=ly_rt ok.right
  have hg:=Gm.rt hl.1
  have hq:=pg_in hl.1 s.l.way h
  have e:=iPage_eq hl.2.1 hl.1 hh
  have er:(iPage_v0 s.l.g s.l.way h).fdiv (2 ^ 14)=(pgPl s.l.g s.l.way h).rank:=by
    rw [e,Int.fdiv_eq_ediv_of_nonneg _ (by decide),show (2:Int) ^ 14=16384 from rfl]; omega
  have hs:=spOf_in ok sp hq.1
  unfold mlies_v0 mlies_v1
  rw [iPage_in hl.2.1 hl.1 hh,er]
  refine ⟨?_,rfl⟩
  unfold spOf at hs ⊢
  rw [show decide ((0:Int)=0)=true from rfl]
  cases q:mSpare_v1 s (pgPl s.l.g s.l.way h).rank with
  | false=>simp only [cond_true,cond_false]; exact e
  | true =>
    rw [q] at hs
    simp only [cond_true] at hs ⊢
    rw [e,wrap_ok (x:=mSpare_v0 s (pgPl s.l.g s.l.way h).rank - (pgPl s.l.g s.l.way h).rank) (by omega) (by omega),show (2:Int) ^ 14=16384 from rfl,wrap_ok (x:=(mSpare_v0 s (pgPl s.l.g s.l.way h).rank - (pgPl s.l.g s.l.way h).rank) * 16384) (by omega) (by omega),wrapN (by omega)]
    omega
def lnPl (s:MapS) (h k:Int):Pl:=⟨spOf s (pgPl s.l.g s.l.way h).rank,(pgPl s.l.g s.l.way h).bank,(pgPl s.l.g s.l.way h).row,k⟩
theorem lnPl_in {s:MapS} (ok:MapOk s) (sp:SpIn s) {h k:Int} (hh:0≤h∧h < gpages_v0 s.l.g) (hk:0≤k∧k < s.l.g.cols):s.l.g.holds (lnPl s h k)=true:=by
  have hl:=ly_rt ok.right
  have hq:=pg_in hl.1 s.l.way h
  exact holds_of hl.1 (spOf_in ok sp hq.1) hq.2.1 hq.2.2.1 hk
theorem lies_ix {s:MapS} (ok:MapOk s) (sp:SpIn s) {h k:Int} (hh:0≤h∧h < gpages_v0 s.l.g) (hk:0≤k∧k < s.l.g.cols):bits .or .i64 (IntKind.i64.wrap (mlies_v0 s h * 2 ^ 6)) k=(lnPl s h k).ix:=by
  have hl:=ly_rt ok.right
  have hg:=Gm.rt hl.1
  have hq:=pg_in hl.1 s.l.way h
  have hs:=spOf_in ok sp hq.1
  obtain ⟨a,b,c,d⟩:=holds_16 (lnPl_in ok sp hh hk)
  rw [ix_eq a b c d,(mlies_eq ok sp hh).1]
  show _=spOf s (pgPl s.l.g s.l.way h).rank * 1048576 + (pgPl s.l.g s.l.way h).bank * 65536 + (pgPl s.l.g s.l.way h).row * 64 + k
  generalize spOf s (pgPl s.l.g s.l.way h).rank=r at hs ⊢
  generalize (pgPl s.l.g s.l.way h).bank=b at hq ⊢
  generalize (pgPl s.l.g s.l.way h).row=w at hq ⊢
  rw [show (2:Int) ^ 6=64 from rfl,wrapN (by omega)]
  have h1:=orB (k:=6) (x:=(r * 16384 + b * 1024 + w).toNat) (b:=k.toNat) (by omega) (by omega)
  rw [show (((2 ^ 6 * (r * 16384 + b * 1024 + w).toNat:Nat)):Int)=(r * 16384 + b * 1024 + w) * 64 by omega,show ((k.toNat:Nat):Int)=k by omega] at h1
  rw [h1]; omega
theorem mIndex_eq {s:MapS} (ok:MapOk s) (lv:LvIn s) (sp:SpIn s) {n:Int} (hn:0≤n∧n < IntKind.i64.wrap ((lySeen_v0 s.l) * s.l.g.cols)) :
    mIndex_v0 s n=(lnPl s (s.lives.getD (n / s.l.g.cols).toNat eI0) (n % s.l.g.cols)).ix∧s.l.g.holds (lnPl s (s.lives.getD (n / s.l.g.cols).toNat eI0) (n % s.l.g.cols))=true ∧
    mIndex_v1 s n=s.lives.getD (n / s.l.g.cols).toNat eI0∧mIndex_v2 s n=(pgPl s.l.g s.l.way (s.lives.getD (n / s.l.g.cols).toNat eI0)).rank:=by
  have hl:=ly_rt ok.right
  have hg:=Gm.rt hl.1
  obtain ⟨b1,b2,b3,b4,b5⟩:=line_b ok.right hn
  have hlv:0≤s.lives.getD (n / s.l.g.cols).toNat eI0∧s.lives.getD (n / s.l.g.cols).toNat eI0 < gpages_v0 s.l.g:=lv _ (gDm eI0 (by have:=ok.nl; omega))
  have hk:0≤n % s.l.g.cols∧n % s.l.g.cols < s.l.g.cols:=modB (by omega)
  unfold mIndex_v0 mIndex_v1 mIndex_v2
  rw [rbel_of hn,b3,b4,mlies_0 ok hlv,(mlies_eq ok sp hlv).2]
  exact ⟨lies_ix ok sp hlv hk,lnPl_in ok sp hlv hk,rfl,rfl⟩
theorem atE_0 {g:Gm} {i:Int} (h:g.atB i=true):g.atE i=0:=by unfold Gm.atE; rw [h]; rfl
theorem jroute_at {j : Jb} {s : MapS} (ok : MapOk s) (mp : MpIn s) (hg : 0 ≤ j.goal ∧ j.goal ≤ 1048576) {n : Int} (hn : 0 ≤ n ∧ n < IntKind.i64.wrap ((lySeen_v0 s.l) * s.l.g.cols)) : s.l.g.atB (jroute_v0 j s n) = true := by
  have hl:=ly_rt ok.right
  have hr:=Gm.rt hl.1
  have h0:=mIndex_0 ok mp.lv hn
  obtain ⟨e0,e1,_,_⟩:=mIndex_eq ok mp.lv mp.sp hn
  have hi:s.l.g.atB (mIndex_v0 s n)=true:=by rw [e0]; exact atB_ix e1
  have hc:=cnt_b (j:=j) hl.1
  obtain ⟨b1,b2,b3,b4,b5⟩:=line_b ok.right hn
  unfold jroute_v0
  rw [h0,show decide ((0:Int)=0)=true from rfl,cond_true]
  cases hj:jright_v0 j s with
  | false=>exact hi
  | true =>
    have hb:=goal_b ok hj hg
    let p:=fun x:Int=>s.l.g.atB x=true
    have k2:p (bif decide (j.kind=2) then (bif decide ((mIndex_v2 s n)=j.src) then (bif decide ((gorder_v0 s.l.g (mIndex_v0 s n)) < j.next) then (jat_v0 j s j.goal (gorder_v0 s.l.g (mIndex_v0 s n))) else (mIndex_v0 s n)) else (mIndex_v0 s n)) else (mIndex_v0 s n)):=by
      cases q2:decide (j.kind=2) with
      | false=>exact hi
      | true =>
        have q2:=of_decide_eq_true q2
        rw [cond_true]
        refine bifG (p:=p) ?_ hi
        cases q4:decide ((gorder_v0 s.l.g (mIndex_v0 s n)) < j.next) with
        | false=>exact hi
        | true =>
          have q4:=of_decide_eq_true q4
          have hx:=cbel_t (jright_2 hj q2).1
          rw [wrapN (by omega)] at hx
          have hn0:=gorder_n s.l.g (mIndex_v0 s n)
          have ec:jbCount_v0 j s.l=perRank_v0 s.l.g:=by unfold jbCount_v0; rw [decide_eq_false (show ¬ j.kind=1 by omega),decide_eq_true q2]; rfl
          have hz:=nth_0 (r:=j.goal) (i:=gorder_v0 s.l.g (mIndex_v0 s n)) hl.1 (hb.2 q2) ⟨hn0,by omega⟩
          rw [cond_true]
          show p (jat_v0 j s j.goal (gorder_v0 s.l.g (mIndex_v0 s n)))
          unfold jat_v0
          rw [hj,cbel_of (show 0≤gorder_v0 s.l.g (mIndex_v0 s n)∧gorder_v0 s.l.g (mIndex_v0 s n) < jbCount_v0 j s.l by omega),decide_eq_true q2]
          simp only [cond_true]
          unfold nth_v1 Gm.ixE at hz
          unfold nth_v0 Gm.ix
          cases hh:s.l.g.holds (⟨j.goal,IntKind.i64.wrap ((IntKind.i64.wrap ((gorder_v0 s.l.g (mIndex_v0 s n)).tdiv s.l.g.cols)).tdiv s.l.g.rows),(IntKind.i64.wrap ((gorder_v0 s.l.g (mIndex_v0 s n)).tdiv s.l.g.cols)).tmod s.l.g.rows,(gorder_v0 s.l.g (mIndex_v0 s n)).tmod s.l.g.cols⟩:Pl) with
          | false=>rw [hh] at hz; exact absurd hz (by decide)
          | true=>exact atB_ix hh
    rw [cond_true]
    cases q1:decide (j.kind=1) with
    | false=>exact k2
    | true =>
      have q1:=of_decide_eq_true q1
      rw [cond_true]
      refine bifG (p:=p) ?_ k2
      cases q4:decide (n.tmod s.l.g.cols < j.next) with
      | false=>exact hi
      | true =>
        have q4:=of_decide_eq_true q4
        have hx:=cbel_t (jright_1 hj q1).1
        rw [wrapN (by omega)] at hx
        have hk:0≤n % s.l.g.cols∧n % s.l.g.cols < s.l.g.cols:=modB (by omega)
        rw [cond_true,b4]
        show p (jat_v0 j s j.goal (n % s.l.g.cols))
        rw [b4] at q4
        unfold jat_v0
        rw [hj,cbel_of (show 0≤n % s.l.g.cols∧n % s.l.g.cols < jbCount_v0 j s.l by omega),decide_eq_false (show ¬ j.kind=2 by omega),mlies_0 ok (hb.1 q1)]
        simp only [cond_true,cond_false,decide_true]
        rw [lies_ix ok mp.sp (hb.1 q1) hk]
        exact atB_ix (lnPl_in ok mp.sp (hb.1 q1) hk)
theorem cat_at {s:CtlS} (h:LIn s.le) {n:Int} (hn:0≤n∧n < IntKind.i64.wrap ((lySeen_v0 s.le.rep.m.l) * s.le.rep.m.l.g.cols)):s.le.rep.m.l.g.atE (cat_v0 s n)=0:=by
  refine atE_0 ?_
  unfold cat_v0
  rw [jroute_0 h.1.rep.m h.2.lv h.1.rep.g hn]
  exact jroute_at h.1.rep.m h.2 h.1.rep.g hn
end Go.Proofs.YtoflmffbkdekcaaGreat
