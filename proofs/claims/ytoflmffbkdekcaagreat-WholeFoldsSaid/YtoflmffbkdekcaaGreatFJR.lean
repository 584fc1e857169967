import Derived.Test.YtoflmffbkdekcaaGreatFL25
namespace Go.Proofs.YtoflmffbkdekcaaGreat
open Go Go.RowKit
set_option linter.unusedVariables false
set_option linter.unusedSimpArgs false
set_option maxRecDepth 100000
def eA:Enc Acc:=⟨fun a=>[vt a.write,vi a.index,vi a.went,vt a.drop,vi a.exp,vt a.mark],97,6,fun a=>⟨rfl,rfl,rfl⟩⟩
def gaT {α:Type} (d:α) (l:List α):Nat→List α
 | 0=>[]
 | n + 1=>gaT d l n ++ [l.getD n d]
theorem gaT_eq {α:Type} (d:α) (l:List α):∀ n,n≤l.length→gaT d l n=l.take n
 | 0,_=>rfl
 | n + 1,h=>by rw [gaT,gaT_eq d l n (by omega),List.take_add_one,List.getElem?_eq_getElem (by omega),List.getD_eq_getElem?_getD,List.getElem?_eq_getElem (by omega)]; rfl
theorem gaT_all {α:Type} (d:α) (l:List α):gaT d l l.length=l:=by rw [gaT_eq d l _ (Nat.le_refl _),List.take_length]
theorem gaT_len {α:Type} (d:α) (l:List α):∀ n,(gaT d l n).length=n
 | 0=>rfl
 | n + 1=>by rw [gaT,List.length_append,gaT_len d l n]; rfl
theorem aof (a:Acc) :Sp P 86 [.ag [vt a.write,vi a.index,vi a.went,vt a.drop,vi a.exp,vt a.mark]] [] (.ag [vt a.write,vi a.index,vi a.went,vt a.drop,vi a.exp,vt a.mark]) [] :=
 so Tryz.f86 4 [] .nil
theorem accs_raw (s:MchS) (hl:s.c.d.l.length≤100000000):Sp P 43 [.pt 0 0] ([.ro (.blk [.pt 16 0,.pt 1 0,.mp 30,.sl 31,.sl 32,vi s.scrubs,vi s.steps] 122)] ++ ros (bCtl s.c 1) ++ ros (bCode 25) ++ [.ro (.mp (.ar .u8 64 (nf (fun _=>0))) (mpC s.ideal)),.ro (.row eInj s.inj),.ro (.row eSrv s.srv)]) (.sl 33) ([.ro (.blk [.pt 16 0,.pt 1 0,.mp 30,.sl 31,.sl 32,vi s.scrubs,vi s.steps] 122)] ++ ros (bCtl s.c 1) ++ ros (bCode 25) ++ [.ro (.mp (.ar .u8 64 (nf (fun _=>0))) (mpC s.ideal)),.ro (.row eInj s.inj),.ro (.row eSrv s.srv),.row eA (gaT eAcc0 s.c.d.l s.c.d.l.length)]) :=
 so Tryz.f43 13 (ir 0 33 ++ .id 39 :: []) (.c (ir 0 33) (gDev s) (.c (ir 16 8) (xAccs s.c.d 0) (.lp s.c.d.l.length 40 [(39,.nil)] [(39,.id 43)] (fun i=>[(4,vn i)]) (fun i=>[(34,.blk [.sl 39] 89),(37,.lo .ready none),(39,.row eA (gaT eAcc0 s.c.d.l i))]) (fun i hi=>(.t (show (decide (((i:Nat):Int) < ((s.c.d.l.length:Nat):Int)))=true from decide_eq_true (by omega)) (.ix (i:=i) (m:=s.c.d.l.length) (by omega) (.el (e:=eAcc) (gDx (l:=s.c.d.l) (i:=i) eAcc0 (by omega)) (.c [] (aof (s.c.d.l.getD i eAcc0)) (.bs 14 (e:=eA) [(s.c.d.l.getD i eAcc0)] (.ap (e:=eA) (l:=gaT eAcc0 s.c.d.l i) (l':=[(s.c.d.l.getD i eAcc0)]) .row .row (by rw [gaT_len]; simp only [List.length_cons,List.length_nil]; omega) (.n (.e 15 (aAdd (a:=((i:Nat):Int)) (b:=1) (c:=((i + 1:Nat):Int)) (by omega)) .nil))))))))) (.t (show (decide (((s.c.d.l.length:Nat):Int) < ((s.c.d.l.length:Nat):Int)))=false from decide_eq_false (by omega)) .nil))))
theorem accs (s:MchS) (hl:s.c.d.l.length≤100000000):Sp P 43 [.pt 0 0] ([.ro (.blk [.pt 16 0,.pt 1 0,.mp 30,.sl 31,.sl 32,vi s.scrubs,vi s.steps] 122)] ++ ros (bCtl s.c 1) ++ ros (bCode 25) ++ [.ro (.mp (.ar .u8 64 (nf (fun _=>0))) (mpC s.ideal)),.ro (.row eInj s.inj),.ro (.row eSrv s.srv)]) (.sl 33) ([.ro (.blk [.pt 16 0,.pt 1 0,.mp 30,.sl 31,.sl 32,vi s.scrubs,vi s.steps] 122)] ++ ros (bCtl s.c 1) ++ ros (bCode 25) ++ [.ro (.mp (.ar .u8 64 (nf (fun _=>0))) (mpC s.ideal)),.ro (.row eInj s.inj),.ro (.row eSrv s.srv),.row eA s.c.d.l]):=by
 have h:=accs_raw s hl
 rw [gaT_all] at h
 exact h
def hx (x:Nat):Nat→Nat
 | 0=>x
 | i + 1=>hx x i / 2
def ow (x:Nat):Nat→Nat
 | 0=>0
 | i + 1=>ow x i + hx x i % 2
theorem hx_eq (x:Nat):∀ i,hx x i=x / 2 ^ i
 | 0=>(Nat.div_one x).symm
 | i + 1=>by rw [hx,hx_eq x i,Nat.div_div_eq_div_mul,Nat.pow_succ]
theorem hx_ne {x i:Nat} (h:i < bl x):0 < hx x i:=by rw [hx_eq]; exact Nat.pos_of_ne_zero (bl_ne h)
theorem hx_end (x:Nat):hx x (bl x)=0:=by rw [hx_eq]; exact bl_end x
theorem hx_le (x:Nat):∀ i,hx x i≤x
 | 0=>Nat.le_refl _
 | i + 1=>Nat.le_trans (Nat.div_le_self _ _) (hx_le x i)
theorem ow_le (x:Nat):∀ i,ow x i≤i
 | 0=>Nat.le_refl _
 | i + 1=>by rw [ow]; have:=ow_le x i; omega
theorem wt_uniq {x n:Nat} (h:clrs x n=0) (k:∀ i,i < n→clrs x i ≠ 0):wt x=n:=by
 rcases Nat.lt_trichotomy (wt x) n with h1 | h1 | h1
 ·exact absurd (wt_end x) (k _ h1)
 ·exact h1
 ·exact absurd h (wt_ne h1)
theorem wt_two (y:Nat):wt (2 * y)=wt y:=wt_uniq (by rw [clrs_two,wt_end]) fun i hi=>by rw [clrs_two]; have:=wt_ne hi; omega
theorem wt_odd (y:Nat):wt (2 * y + 1)=wt y + 1:=wt_uniq (by rw [clrs_succ,clr_odd,clrs_two,wt_end]) fun i hi=>by
 cases i with
 | zero=>show 2 * y + 1 ≠ 0; omega
 | succ i=>rw [clrs_succ,clr_odd,clrs_two]; have:=wt_ne (x:=y) (i:=i) (by omega); omega
theorem wt_half (x:Nat):wt x=x % 2 + wt (x / 2):=by
 rcases Nat.mod_two_eq_zero_or_one x with h | h
 ·have:=wt_two (x / 2); rw [show 2 * (x / 2)=x by omega] at this; omega
 ·have:=wt_odd (x / 2); rw [show 2 * (x / 2) + 1=x by omega] at this; omega
theorem ow_wt (x:Nat):∀ i,wt x=ow x i + wt (hx x i)
 | 0=>by rw [ow,hx,Nat.zero_add]
 | i + 1=>by rw [ow,hx,ow_wt x i]; have:=wt_half (hx x i); omega
theorem ow_all (x:Nat):ow x (bl x)=wt x:=by have:=ow_wt x (bl x); rw [hx_end,wt_zero] at this; omega
theorem uRem2 (a:Nat):Value.int .u64 (((a:Nat):Int).tmod 2)=.int .u64 ((a % 2:Nat):Int):=by rw [Int.tmod_eq_emod_of_nonneg (by omega)]; rfl
theorem uQuo2 (a:Nat) (h:a < 18446744073709551616):Value.int .u64 (IntKind.u64.wrap (((a:Nat):Int).tdiv 2))=.int .u64 ((a / 2:Nat):Int):=by
 rw [Int.tdiv_eq_ediv_of_nonneg (by omega),show ((a:Nat):Int) / 2=((a / 2:Nat):Int) by omega,wU64 (by omega)]
theorem iOf2 (a:Nat):Value.int .i64 (IntKind.i64.wrap ((a % 2:Nat):Int))=.int .i64 ((a % 2:Nat):Int):=aW ⟨by omega,by omega,rfl⟩
theorem cvU64i (a:Int):Value.int .u64 (IntKind.u64.wrap a)=.int .u64 (((a % 18446744073709551616).toNat:Nat):Int):=by
 congr 1
 unfold IntKind.wrap
 simp only [IntKind.bits,IntKind.signed,Bool.false_and,Bool.false_eq_true,if_false]
 omega
theorem uRem23 (a:Int):Value.int .u64 ((((a % 18446744073709551616).toNat:Nat):Int).tmod 8388608)=.int .u64 ((nu a:Nat):Int):=by
 rw [Int.tmod_eq_emod_of_nonneg (by omega)]
 congr 1
 unfold nu; omega
theorem rweight_raw (x:Nat) (h:x < 18446744073709551616):Sp P 136 [vu x] [] (vn (ow x (bl x))) [] :=
 so Tryz.f136 3 [] (.lp (bl x) 1 [] [] (fun i=>[(0,vu (hx x i)),(3,vn (ow x i))]) (fun i=>[]) (fun i hi=>(.t (show (decide (0 < ((hx x i:Nat):Int)))=true from decide_eq_true (by have:=hx_ne hi; omega)) (.e 8 (uRem2 (hx x i)) (.e 9 (iOf2 (hx x i)) (.e 10 (aAdd (a:=((ow x i:Nat):Int)) (b:=((hx x i % 2:Nat):Int)) (c:=(((ow x i) + (hx x i % 2):Nat):Int)) (by have:=ow_le x i; have:=bl_le (n:=64) h; omega)) (.e 12 (uQuo2 (hx x i) (Nat.lt_of_le_of_lt (hx_le x i) h)) .nil)))))) (.t (show (decide (0 < ((hx x (bl x):Nat):Int)))=false from decide_eq_false (by rw [hx_end]; decide)) .nil))
theorem rweight (x:Nat) (h:x < 18446744073709551616):Sp P 136 [vu x] [] (vn (wt x)) []:=by
 have k:=rweight_raw x h
 rw [ow_all] at k
 exact k
def rapart_v0 (m:Int) (a:Int) (b:Int):Bool:=bif decide (m=2) then (!(decide (((nu a:Nat):Int)=((nu b:Nat):Int)))) else (!(decide (((wt (nu a) % 2:Nat):Int)=((wt (nu b) % 2:Nat):Int))))
theorem rapart (m:Int) (a:Int) (b:Int) :Sp P 87 [vi m,vi a,vi b] [] (vt (rapart_v0 m a b)) []:=by
 generalize d0:rapart_v0 m a b=yd0
 unfold rapart_v0 at d0
 rcases bft (decide (m=2)) with q1 | q1
 ·rw [cpos q1] at d0
  subst d0
  exact so Tryz.f87 3 [] (.e 10 (cvU64i a) (.e 11 (uRem23 a) (.e 13 (cvU64i b) (.e 14 (uRem23 b) (.t q1 .nil)))))
 ·rw [cneg q1] at d0
  subst d0
  exact so Tryz.f87 3 [] (.e 10 (cvU64i a) (.e 11 (uRem23 a) (.e 13 (cvU64i b) (.e 14 (uRem23 b) (.t q1 (.c [] (rweight (nu a) (Nat.lt_trans (nu_lt a) (by decide))) (.e 22 (aRem (wt (nu a)) 2) (.c [] (rweight (nu b) (Nat.lt_trans (nu_lt b) (by decide))) (.e 25 (aRem (wt (nu b)) 2) .nil)))))))))
def radd (p:Lk) (m:Int) (a:Acc):Lk:=bif a.drop then (⟨p.exp,true,true,p.tell⟩:Lk) else (bif decide (a.went=a.index) then { p with exp:=bif (decide (p.exp < bif a.mark then (IntKind.i64.wrap (a.exp + 1)) else a.exp)) then (bif a.mark then (IntKind.i64.wrap (a.exp + 1)) else a.exp) else p.exp } else (bif a.write then (⟨p.exp,true,bif (decide (0 < a.exp)) then true else p.drop,p.tell⟩:Lk) else (⟨p.exp,true,bif (decide (0 < a.exp)) then true else p.drop,bif (rapart_v0 m a.index a.went) then p.tell else false⟩:Lk)))
def rsee (m:Int) (l:List Acc):Nat→Lk
 | 0=>⟨0,false,false,true⟩
 | n + 1=>radd (rsee m l n) m (l.getD n eAcc0)
theorem rlook (m:Int) (l:List Acc) (hl:l.length≤100000000):Sp P 44 [vi m,.sl 0] [.ro (.row eA l)] (.ag [vi (rsee m l l.length).exp,vt (rsee m l l.length).astray,vt (rsee m l l.length).drop,vt (rsee m l l.length).tell]) [.ro (.row eA l)] :=
 so Tryz.f44 5 [.id 0] (.lp l.length 4 [] [] (fun i=>[(6,vn i)]) (fun i=>[(3,.blk [vi (rsee m l i).exp,vt (rsee m l i).astray,vt (rsee m l i).drop,vt (rsee m l i).tell] 92)]) (fun i hi=>(.t (show (decide (((i:Nat):Int) < ((l.length:Nat):Int)))=true from decide_eq_true (by omega)) (.cs 2 (l.getD i eAcc0).drop 4 [] [] (fun z=>[]) (fun z=>[(3,.blk [vi (bif z then (⟨(rsee m l i).exp,true,true,(rsee m l i).tell⟩:Lk) else (bif decide ((l.getD i eAcc0).went=(l.getD i eAcc0).index) then { (rsee m l i) with exp:=bif (decide ((rsee m l i).exp < bif (l.getD i eAcc0).mark then (IntKind.i64.wrap ((l.getD i eAcc0).exp + 1)) else (l.getD i eAcc0).exp)) then (bif (l.getD i eAcc0).mark then (IntKind.i64.wrap ((l.getD i eAcc0).exp + 1)) else (l.getD i eAcc0).exp) else (rsee m l i).exp } else (bif (l.getD i eAcc0).write then (⟨(rsee m l i).exp,true,bif (decide (0 < (l.getD i eAcc0).exp)) then true else (rsee m l i).drop,(rsee m l i).tell⟩:Lk) else (⟨(rsee m l i).exp,true,bif (decide (0 < (l.getD i eAcc0).exp)) then true else (rsee m l i).drop,bif (rapart_v0 m (l.getD i eAcc0).index (l.getD i eAcc0).went) then (rsee m l i).tell else false⟩:Lk)))).exp,vt (bif z then (⟨(rsee m l i).exp,true,true,(rsee m l i).tell⟩:Lk) else (bif decide ((l.getD i eAcc0).went=(l.getD i eAcc0).index) then { (rsee m l i) with exp:=bif (decide ((rsee m l i).exp < bif (l.getD i eAcc0).mark then (IntKind.i64.wrap ((l.getD i eAcc0).exp + 1)) else (l.getD i eAcc0).exp)) then (bif (l.getD i eAcc0).mark then (IntKind.i64.wrap ((l.getD i eAcc0).exp + 1)) else (l.getD i eAcc0).exp) else (rsee m l i).exp } else (bif (l.getD i eAcc0).write then (⟨(rsee m l i).exp,true,bif (decide (0 < (l.getD i eAcc0).exp)) then true else (rsee m l i).drop,(rsee m l i).tell⟩:Lk) else (⟨(rsee m l i).exp,true,bif (decide (0 < (l.getD i eAcc0).exp)) then true else (rsee m l i).drop,bif (rapart_v0 m (l.getD i eAcc0).index (l.getD i eAcc0).went) then (rsee m l i).tell else false⟩:Lk)))).astray,vt (bif z then (⟨(rsee m l i).exp,true,true,(rsee m l i).tell⟩:Lk) else (bif decide ((l.getD i eAcc0).went=(l.getD i eAcc0).index) then { (rsee m l i) with exp:=bif (decide ((rsee m l i).exp < bif (l.getD i eAcc0).mark then (IntKind.i64.wrap ((l.getD i eAcc0).exp + 1)) else (l.getD i eAcc0).exp)) then (bif (l.getD i eAcc0).mark then (IntKind.i64.wrap ((l.getD i eAcc0).exp + 1)) else (l.getD i eAcc0).exp) else (rsee m l i).exp } else (bif (l.getD i eAcc0).write then (⟨(rsee m l i).exp,true,bif (decide (0 < (l.getD i eAcc0).exp)) then true else (rsee m l i).drop,(rsee m l i).tell⟩:Lk) else (⟨(rsee m l i).exp,true,bif (decide (0 < (l.getD i eAcc0).exp)) then true else (rsee m l i).drop,bif (rapart_v0 m (l.getD i eAcc0).index (l.getD i eAcc0).went) then (rsee m l i).tell else false⟩:Lk)))).drop,vt (bif z then (⟨(rsee m l i).exp,true,true,(rsee m l i).tell⟩:Lk) else (bif decide ((l.getD i eAcc0).went=(l.getD i eAcc0).index) then { (rsee m l i) with exp:=bif (decide ((rsee m l i).exp < bif (l.getD i eAcc0).mark then (IntKind.i64.wrap ((l.getD i eAcc0).exp + 1)) else (l.getD i eAcc0).exp)) then (bif (l.getD i eAcc0).mark then (IntKind.i64.wrap ((l.getD i eAcc0).exp + 1)) else (l.getD i eAcc0).exp) else (rsee m l i).exp } else (bif (l.getD i eAcc0).write then (⟨(rsee m l i).exp,true,bif (decide (0 < (l.getD i eAcc0).exp)) then true else (rsee m l i).drop,(rsee m l i).tell⟩:Lk) else (⟨(rsee m l i).exp,true,bif (decide (0 < (l.getD i eAcc0).exp)) then true else (rsee m l i).drop,bif (rapart_v0 m (l.getD i eAcc0).index (l.getD i eAcc0).went) then (rsee m l i).tell else false⟩:Lk)))).tell] 92)]) (fun hq1=>(.cs 2 (l.getD i eAcc0).write 4 [] [] (fun z=>[]) (fun z=>[(3,.blk [vi (⟨(rsee m l i).exp,true,true,(rsee m l i).tell⟩:Lk).exp,vt (⟨(rsee m l i).exp,true,true,(rsee m l i).tell⟩:Lk).astray,vt (⟨(rsee m l i).exp,true,true,(rsee m l i).tell⟩:Lk).drop,vt (⟨(rsee m l i).exp,true,true,(rsee m l i).tell⟩:Lk).tell] 92)]) (fun hq2=>(.ix (i:=i) (m:=l.length) (by omega) (.el (e:=eA) (gDx (l:=l) (i:=i) eAcc0 (by omega)) (.g hq1 (.g hq1 (.g hq1 (.g hq1 (.g hq1 (.g hq1 (.n (.t hq1 (.t hq1 (.t hq1 (.t hq1 (.y (.g hq2 (.g hq2 (.g hq2 (.g hq2 (.n (.n (.n (.n (.n (.n (.n (.n (.n .nil)))))))))))))))))))))))))))) (fun hq2=>(.ix (i:=i) (m:=l.length) (by omega) (.el (e:=eA) (gDx (l:=l) (i:=i) eAcc0 (by omega)) (.g hq1 (.g hq1 (.g hq1 (.g hq1 (.g hq1 (.g hq1 (.n (.t hq1 (.t hq1 (.t hq1 (.t hq1 (.y (.g hq2 (.g hq2 (.g hq2 (.g hq2 (.g hq1 (.g hq1 (.g hq1 (.g hq1 (.g hq1 (.g hq1 (.g hq1 (.g hq1 (.n .nil)))))))))))))))))))))))))))) .nil)) (fun hq1=>(.cs 2 (decide ((l.getD i eAcc0).went=(l.getD i eAcc0).index)) 4 [] [] (fun z=>[]) (fun z=>[(3,.blk [vi (bif z then { (rsee m l i) with exp:=bif (decide ((rsee m l i).exp < bif (l.getD i eAcc0).mark then (IntKind.i64.wrap ((l.getD i eAcc0).exp + 1)) else (l.getD i eAcc0).exp)) then (bif (l.getD i eAcc0).mark then (IntKind.i64.wrap ((l.getD i eAcc0).exp + 1)) else (l.getD i eAcc0).exp) else (rsee m l i).exp } else (bif (l.getD i eAcc0).write then (⟨(rsee m l i).exp,true,bif (decide (0 < (l.getD i eAcc0).exp)) then true else (rsee m l i).drop,(rsee m l i).tell⟩:Lk) else (⟨(rsee m l i).exp,true,bif (decide (0 < (l.getD i eAcc0).exp)) then true else (rsee m l i).drop,bif (rapart_v0 m (l.getD i eAcc0).index (l.getD i eAcc0).went) then (rsee m l i).tell else false⟩:Lk))).exp,vt (bif z then { (rsee m l i) with exp:=bif (decide ((rsee m l i).exp < bif (l.getD i eAcc0).mark then (IntKind.i64.wrap ((l.getD i eAcc0).exp + 1)) else (l.getD i eAcc0).exp)) then (bif (l.getD i eAcc0).mark then (IntKind.i64.wrap ((l.getD i eAcc0).exp + 1)) else (l.getD i eAcc0).exp) else (rsee m l i).exp } else (bif (l.getD i eAcc0).write then (⟨(rsee m l i).exp,true,bif (decide (0 < (l.getD i eAcc0).exp)) then true else (rsee m l i).drop,(rsee m l i).tell⟩:Lk) else (⟨(rsee m l i).exp,true,bif (decide (0 < (l.getD i eAcc0).exp)) then true else (rsee m l i).drop,bif (rapart_v0 m (l.getD i eAcc0).index (l.getD i eAcc0).went) then (rsee m l i).tell else false⟩:Lk))).astray,vt (bif z then { (rsee m l i) with exp:=bif (decide ((rsee m l i).exp < bif (l.getD i eAcc0).mark then (IntKind.i64.wrap ((l.getD i eAcc0).exp + 1)) else (l.getD i eAcc0).exp)) then (bif (l.getD i eAcc0).mark then (IntKind.i64.wrap ((l.getD i eAcc0).exp + 1)) else (l.getD i eAcc0).exp) else (rsee m l i).exp } else (bif (l.getD i eAcc0).write then (⟨(rsee m l i).exp,true,bif (decide (0 < (l.getD i eAcc0).exp)) then true else (rsee m l i).drop,(rsee m l i).tell⟩:Lk) else (⟨(rsee m l i).exp,true,bif (decide (0 < (l.getD i eAcc0).exp)) then true else (rsee m l i).drop,bif (rapart_v0 m (l.getD i eAcc0).index (l.getD i eAcc0).went) then (rsee m l i).tell else false⟩:Lk))).drop,vt (bif z then { (rsee m l i) with exp:=bif (decide ((rsee m l i).exp < bif (l.getD i eAcc0).mark then (IntKind.i64.wrap ((l.getD i eAcc0).exp + 1)) else (l.getD i eAcc0).exp)) then (bif (l.getD i eAcc0).mark then (IntKind.i64.wrap ((l.getD i eAcc0).exp + 1)) else (l.getD i eAcc0).exp) else (rsee m l i).exp } else (bif (l.getD i eAcc0).write then (⟨(rsee m l i).exp,true,bif (decide (0 < (l.getD i eAcc0).exp)) then true else (rsee m l i).drop,(rsee m l i).tell⟩:Lk) else (⟨(rsee m l i).exp,true,bif (decide (0 < (l.getD i eAcc0).exp)) then true else (rsee m l i).drop,bif (rapart_v0 m (l.getD i eAcc0).index (l.getD i eAcc0).went) then (rsee m l i).tell else false⟩:Lk))).tell] 92)]) (fun hq2=>(.ix (i:=i) (m:=l.length) (by omega) (.el (e:=eA) (gDx (l:=l) (i:=i) eAcc0 (by omega)) (.g hq1 (.g hq1 (.g hq1 (.g hq1 (.g hq1 (.g hq1 (.t hq2 (.cs 0 (l.getD i eAcc0).mark 5 [] [] (fun z=>[(8,vi (bif z then (IntKind.i64.wrap ((l.getD i eAcc0).exp + 1)) else (l.getD i eAcc0).exp))]) (fun z=>[]) (fun hq3=>(.t hq3 .nil)) (fun hq3=>(.t hq3 .nil)) (.cs 0 (decide ((rsee m l i).exp < bif (l.getD i eAcc0).mark then (IntKind.i64.wrap ((l.getD i eAcc0).exp + 1)) else (l.getD i eAcc0).exp)) 5 [] [] (fun z=>[]) (fun z=>[(3,.blk [vi (bif z then (bif (l.getD i eAcc0).mark then (IntKind.i64.wrap ((l.getD i eAcc0).exp + 1)) else (l.getD i eAcc0).exp) else (rsee m l i).exp),vt (rsee m l i).astray,vt (rsee m l i).drop,vt (rsee m l i).tell] 92)]) (fun hq3=>(.t hq3 .nil)) (fun hq3=>(.t hq3 .nil)) .nil)))))))))))) (fun hq2=>(.cs 2 (l.getD i eAcc0).write 4 [] [] (fun z=>[]) (fun z=>[(3,.blk [vi (bif z then (⟨(rsee m l i).exp,true,bif (decide (0 < (l.getD i eAcc0).exp)) then true else (rsee m l i).drop,(rsee m l i).tell⟩:Lk) else (⟨(rsee m l i).exp,true,bif (decide (0 < (l.getD i eAcc0).exp)) then true else (rsee m l i).drop,bif (rapart_v0 m (l.getD i eAcc0).index (l.getD i eAcc0).went) then (rsee m l i).tell else false⟩:Lk)).exp,vt (bif z then (⟨(rsee m l i).exp,true,bif (decide (0 < (l.getD i eAcc0).exp)) then true else (rsee m l i).drop,(rsee m l i).tell⟩:Lk) else (⟨(rsee m l i).exp,true,bif (decide (0 < (l.getD i eAcc0).exp)) then true else (rsee m l i).drop,bif (rapart_v0 m (l.getD i eAcc0).index (l.getD i eAcc0).went) then (rsee m l i).tell else false⟩:Lk)).astray,vt (bif z then (⟨(rsee m l i).exp,true,bif (decide (0 < (l.getD i eAcc0).exp)) then true else (rsee m l i).drop,(rsee m l i).tell⟩:Lk) else (⟨(rsee m l i).exp,true,bif (decide (0 < (l.getD i eAcc0).exp)) then true else (rsee m l i).drop,bif (rapart_v0 m (l.getD i eAcc0).index (l.getD i eAcc0).went) then (rsee m l i).tell else false⟩:Lk)).drop,vt (bif z then (⟨(rsee m l i).exp,true,bif (decide (0 < (l.getD i eAcc0).exp)) then true else (rsee m l i).drop,(rsee m l i).tell⟩:Lk) else (⟨(rsee m l i).exp,true,bif (decide (0 < (l.getD i eAcc0).exp)) then true else (rsee m l i).drop,bif (rapart_v0 m (l.getD i eAcc0).index (l.getD i eAcc0).went) then (rsee m l i).tell else false⟩:Lk)).tell] 92)]) (fun hq3=>(.ix (i:=i) (m:=l.length) (by omega) (.el (e:=eA) (gDx (l:=l) (i:=i) eAcc0 (by omega)) (.g hq1 (.g hq1 (.g hq1 (.g hq1 (.g hq1 (.g hq1 (.t hq2 (.t hq1 (.t hq1 (.t hq1 (.t hq1 (.cs 0 (decide (0 < (l.getD i eAcc0).exp)) 5 [] [] (fun z=>[]) (fun z=>[(3,.blk [vi (rsee m l i).exp,vt true,vt (bif z then true else (rsee m l i).drop),vt (rsee m l i).tell] 92)]) (fun hq4=>(.t hq4 .nil)) (fun hq4=>(.t hq4 .nil)) (.g hq3 (.g hq3 (.g hq3 (.g hq3 (.n (.n (.n (.n (.n (.n (.n (.n (.n .nil)))))))))))))))))))))))))))) (fun hq3=>(.ix (i:=i) (m:=l.length) (by omega) (.el (e:=eA) (gDx (l:=l) (i:=i) eAcc0 (by omega)) (.g hq1 (.g hq1 (.g hq1 (.g hq1 (.g hq1 (.g hq1 (.t hq2 (.t hq1 (.t hq1 (.t hq1 (.t hq1 (.cs 0 (decide (0 < (l.getD i eAcc0).exp)) 5 [] [] (fun z=>[]) (fun z=>[(3,.blk [vi (rsee m l i).exp,vt true,vt (bif z then true else (rsee m l i).drop),vt (rsee m l i).tell] 92)]) (fun hq4=>(.t hq4 .nil)) (fun hq4=>(.t hq4 .nil)) (.g hq3 (.g hq3 (.g hq3 (.g hq3 (.g hq1 (.g hq1 (.g hq1 (.g hq1 (.g hq1 (.g hq1 (.c [] (rapart m (l.getD i eAcc0).index (l.getD i eAcc0).went) (.g hq1 (.g hq1 (.cs 0 (rapart_v0 m (l.getD i eAcc0).index (l.getD i eAcc0).went) 5 [] [] (fun z=>[]) (fun z=>[(3,.blk [vi (rsee m l i).exp,vt true,vt (bif (decide (0 < (l.getD i eAcc0).exp)) then true else (rsee m l i).drop),vt (bif z then (rsee m l i).tell else false)] 92)]) (fun hq4=>(.g hq4 .nil)) (fun hq4=>(.g hq4 .nil)) .nil))))))))))))))))))))))))))))) .nil)) .nil)) (.e 15 (aAdd (a:=((i:Nat):Int)) (b:=1) (c:=((i + 1:Nat):Int)) (by omega)) .nil)))) (.t (show (decide (((l.length:Nat):Int) < ((l.length:Nat):Int)))=false from decide_eq_false (by omega)) .nil))
def rcalm_v0 (l:List Acc):Bool:=bif (rsee 1 l l.length).astray then false else (decide ((rsee 1 l l.length).exp≤1))
theorem rcalm (l:List Acc) (hl:l.length≤100000000):Sp P 48 [.sl 0] [.ro (.row eA l)] (vt (rcalm_v0 l)) [.ro (.row eA l)]:=by
 generalize d0:rcalm_v0 l=yd0
 unfold rcalm_v0 at d0
 rcases bft (rsee 1 l l.length).astray with q1 | q1
 ·rw [cpos q1] at d0
  subst d0
  exact so Tryz.f48 3 [.id 0] (.c [.id 0] (rlook 1 l hl) (.g q1 (.g q1 (.g q1 (.g q1 .nil)))))
 ·rw [cneg q1] at d0
  subst d0
  exact so Tryz.f48 3 [.id 0] (.c [.id 0] (rlook 1 l hl) (.g q1 (.g q1 (.g q1 (.g q1 .nil)))))
def rdT (l:List Acc):Nat→List Acc
 | 0=>[]
 | n + 1=>bif (l.getD n eAcc0).write then rdT l n else rdT l n ++ [l.getD n eAcc0]
theorem rdT_len (l:List Acc):∀ n,(rdT l n).length≤n
 | 0=>Nat.le_refl _
 | n + 1=>by
  rw [rdT]
  have:=rdT_len l n
  cases (l.getD n eAcc0).write with
  | true=>show (rdT l n).length≤n + 1; omega
  | false=>show (rdT l n ++ [_]).length≤n + 1; rw [List.length_append]; show (rdT l n).length + 1≤n + 1; omega
def rwatched_v0 (m:Int) (l:List Acc):Bool:=bif (decide ((rsee m (rdT l l.length) (rdT l l.length).length).exp≤IntKind.i64.wrap (1 + m))) then (bif (rsee m (rdT l l.length) (rdT l l.length).length).drop then false else (rsee m (rdT l l.length) (rdT l l.length).length).tell) else false
theorem rwatched (m:Int) (l:List Acc) (hl:l.length≤100000000):Sp P 50 [vi m,.sl 0] [.ro (.row eA l)] (vt (rwatched_v0 m l)) [.ro (.row eA l)] :=
 so Tryz.f50 5 [.id 0] (.lp l.length 3 [(2,.nil)] [] (fun i=>[(6,vn i),(5,.sl 2)]) (fun i=>[(2,.row eA (rdT l i))]) (fun i hi=>(.t (show (decide (((i:Nat):Int) < ((l.length:Nat):Int)))=true from decide_eq_true (by omega)) (.ix (i:=i) (m:=l.length) (by omega) (.el (e:=eA) (gDx (l:=l) (i:=i) eAcc0 (by omega)) (.cs 0 (l.getD i eAcc0).write 3 [] [(2,.id 4)] (fun z=>[(5,.sl 2)]) (fun z=>[(2,.row eA (bif z then (rdT l i) else ((rdT l i) ++ [(l.getD i eAcc0)])))]) (fun hq1=>(.g hq1 .nil)) (fun hq1=>(.g hq1 (.ix (i:=i) (m:=l.length) (by omega) (.el (e:=eA) (gDx (l:=l) (i:=i) eAcc0 (by omega)) (.bs 25 (e:=eA) [(l.getD i eAcc0)] (.ap (e:=eA) (l:=rdT l i) (l':=[(l.getD i eAcc0)]) .row .row (by have:=rdT_len l i; simp only [List.length_cons,List.length_nil]; omega) .nil)))))) (.e 13 (aAdd (a:=((i:Nat):Int)) (b:=1) (c:=((i + 1:Nat):Int)) (by omega)) .nil)))))) (.t (show (decide (((l.length:Nat):Int) < ((l.length:Nat):Int)))=false from decide_eq_false (by omega)) (.c [.id 2] (rlook m (rdT l l.length) ((by have:=rdT_len l l.length; omega))) (.cs 1000008 (decide ((rsee m (rdT l l.length) (rdT l l.length).length).exp≤IntKind.i64.wrap (1 + m))) 4 [] [] (fun z=>[(4,vt (bif z then (bif (rsee m (rdT l l.length) (rdT l l.length).length).drop then false else (rsee m (rdT l l.length) (rdT l l.length).length).tell) else false))]) (fun z=>[]) (fun hq1=>(.cs 1000008 (rsee m (rdT l l.length) (rdT l l.length).length).drop 4 [] [] (fun z=>[(4,vt (bif z then false else (rsee m (rdT l l.length) (rdT l l.length).length).tell))]) (fun z=>[]) (fun hq2=>(.t hq1 (.t hq1 (.t hq1 (.t hq1 (.g hq2 (.g hq2 (.g hq2 .nil)))))))) (fun hq2=>(.t hq1 (.t hq1 (.t hq1 (.t hq1 (.g hq2 (.g hq2 (.g hq2 .nil)))))))) .nil)) (fun hq1=>(.t hq1 (.t hq1 (.t hq1 (.t hq1 (.n (.n (.n .nil)))))))) .nil))))
end Go.Proofs.YtoflmffbkdekcaaGreat
