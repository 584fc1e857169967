import Derived.Test.YtfhiggfmkjmeiaaGreatFRs
import Derived.Test.YtfhiggfmkjmeiaaGreatFHt
set_option linter.all false
namespace Go.Proofs.YtfhiggfmkjmeiaaGreat
open Go Go.RowKit
set_option maxRecDepth 100000
theorem Z9 (x:Nat) (h:x < 18446744073709551616):Value.int .u64 (IntKind.u64.wrap (x:Int))=.int .u64 (x:Int):=by rw [Aah h]
theorem Azr (x:Nat):Value.int .u8 (IntKind.u8.wrap (x:Int))=.int .u8 ((x % 256:Nat):Int):=by rw [mU8]
theorem B28 (i:Nat) (h:i < 8):256 * 2 ^ (8 * i)<=18446744073709551616:=by
 have key:∀ i:_root_.Fin 8,256 * 2 ^ (8 * i.1)<=18446744073709551616:=by decide +kernel
 exact key ⟨i,h⟩
theorem Ap5 (x i:Nat) (hx:x < 256) (h:i < 8):x * 2 ^ (8 * i) < 18446744073709551616:=by
 have h1:=B28 i h
 have h2:0 < 2 ^ (8 * i):=Nat.pow_pos (by decide)
 exact Nat.lt_of_lt_of_le (Nat.mul_lt_mul_of_pos_right hx h2) h1
theorem Ap4 (x i:Nat) (hx:x < 256) (h:i < 8):Value.int .u64 (IntKind.u64.wrap ((x:Int) * 2 ^ (min ((8 * i:Nat):Int).toNat 64)))=.int .u64 ((x * 2 ^ (8 * i):Nat):Int):=by
 rw [show min ((8 * i:Nat):Int).toNat 64=8 * i by omega,show (x:Int) * 2 ^ (8 * i)=((x * 2 ^ (8 * i):Nat):Int) by rw [Int.natCast_mul,Int.natCast_pow]; rfl,Aah (Ap5 x i hx h)]
theorem Aym (x i:Nat) (h:i < 8):Value.int .u64 ((x:Int).fdiv (2 ^ (min ((8 * i:Nat):Int).toNat 64)))=.int .u64 ((x / 2 ^ (8 * i):Nat):Int):=by
 rw [show min ((8 * i:Nat):Int).toNat 64=8 * i by omega,Int.fdiv_eq_ediv_of_nonneg _ (by have:(0:Int) < 2 ^ (8 * i):=Int.pow_pos (by decide); omega)]
 congr 1
def wdF (l:Nat->Nat) (k:Nat):Nat->Nat
 | 0=>0
 | i + 1=>wdF l k i ||| l (8 * k + i) * 2 ^ (8 * i)
theorem N0 {l:Nat->Nat} (hl:∀ j,l j < 256) (k:Nat):∀ i,i<=8->wdF l k i < 18446744073709551616
 | 0,_=>(by decide:(0:Nat) < 18446744073709551616)
 | i + 1,h=>Nat.or_lt_two_pow (n:=64) (N0 hl k i (by omega)) (Ap5 _ i (hl _) (by omega))
theorem Nl (l:Nat->Nat) (k:Nat) (hl:∀ j,l j < 256) (hk:k < 8):Sp P 283 [.ar .u8 64 (nf l),vn k] [] (vu (wdF l k 8)) [] :=
 so Tryz.f283 3 [] (.lp 8 2 [] [] (fun i=>[(7,vn i),(5,vu (wdF l k i))]) (fun i=>[]) (fun i hi=>(.t (sQT ((i:Int) < 8) (by omega)) (.e 12 (Ajn (a:=8) (b:=(k:Int)) (c:=((8 * k:Nat):Int)) (by omega)) (.e 14 (Ck (a:=((8 * k:Nat):Int)) (b:=(i:Int)) (c:=(((8 * k) + i:Nat):Int)) (by omega)) (.ix (i:=(8 * k) + i) (m:=64) (by omega) (.lt (i:=(8 * k) + i) (n:=64) (by omega) (.e 17 (Z9 (l (8 * k + i)) (Nat.lt_trans (hl _) (by decide))) (.e 19 (Ajn (a:=8) (b:=(i:Int)) (c:=((8 * i:Nat):Int)) (by omega)) (.e 20 (Z9 (8 * i) (by omega)) (.e 21 (Ap4 (l (8 * k + i)) i (hl _) hi) (.e 22 (A7e (wdF l k i) (l (8 * k + i) * 2 ^ (8 * i)) (N0 hl k i (by omega)) (Ap5 _ i (hl _) hi)) (.e 23 (Ck (a:=(i:Int)) (b:=1) (c:=((i + 1:Nat):Int)) (by omega)) .nil)))))))))))) (.n .nil))
theorem Aqe (l:Nat->Nat) :Sp P 246 [.ar .u8 64 (nf l)] [] (.fn (.func 282) [] [.pt 0 0]) [.blk [.ar .u8 64 (nf l)] 43] :=
 so Tryz.f246 3 [.id 1] .nil
theorem Aic (l:Nat->Nat) :Sp P 252 [.ar .u8 64 (nf l)] [] (.fn (.func 285) [] [.pt 0 0]) [.blk [.ar .u8 64 (nf l)] 43] :=
 so Tryz.f252 3 [.id 1] .nil
def fwi (w:Nat->Nat) (o:Nat->Int) (k:Nat):Nat->Nat->Int
 | 0=>o
 | i + 1=>upI (fwi w o k i) (8 * k + i) ((w k / 2 ^ (8 * i) % 256:Nat):Int)
def fwo (w:Nat->Nat):Nat->Nat->Int
 | 0=>fun _=>0
 | k + 1=>fwi w (fwo w k) k 8
def fwF (w:Nat->Nat) (j:Nat):Nat:=w (j / 8) / 2 ^ (8 * (j % 8)) % 256
theorem Axg (w:Nat->Nat) (j:Nat):fwF w j < 256:=Nat.mod_lt _ (by decide)
theorem Am5 (w:Nat->Nat) (o:Nat->Int) (k:Nat):∀ i,i<=8->∀ j,fwi w o k i j=if 8 * k<=j/\j < 8 * k + i then nf (fwF w) j else o j
 | 0,_,j=>by rw [fwi,if_neg (by omega)]
 | i + 1,h,j=>by
   rw [fwi]; unfold upI
   by_cases e:j=8 * k + i
   ·rw [if_pos e,if_pos (by omega)]
    unfold nf fwF
    rw [show j / 8=k by omega,show j % 8=i by omega]
   ·rw [if_neg e,Am5 w o k i (by omega) j]
    by_cases h2:8 * k<=j/\j < 8 * k + i
    ·rw [if_pos h2,if_pos (by omega)]
    ·rw [if_neg h2,if_neg (by omega)]
theorem Am6 (w:Nat->Nat):∀ k j,j < 8 * k->fwo w k j=nf (fwF w) j
 | 0,j,h=>by omega
 | k + 1,j,h=>by
   rw [fwo,Am5 w _ k 8 (Nat.le_refl _)]
   by_cases h2:8 * k<=j/\j < 8 * k + 8
   ·rw [if_pos h2]
   ·rw [if_neg h2,Am6 w k j (by omega)]
theorem A2c (w:Nat->Nat) :Sp P 292 [.ar .u64 8 (nf w)] [] (.ar .u8 64 (fwo w 8)) [] :=
 so Tryz.f292 5 [] (.lp 8 4 [] [] (fun k=>[(8,vn k)]) (fun k=>[(3,.blk [.ar .u8 64 (fwo w k)] 43)]) (fun k hk=>(.t (sQT ((k:Int) < 8) (by omega)) (.ix (i:=k) (m:=8) hk (.lp 8 4 [] [] (fun i=>[(12,vn i)]) (fun i=>[(3,.blk [.ar .u8 64 (fwi w (fwo w k) k i)] 43)]) (fun i hi=>(.t (sQT ((i:Int) < 8) (by omega)) (.e 16 (Ajn (a:=8) (b:=(k:Int)) (c:=((8 * k:Nat):Int)) (by omega)) (.e 18 (Ck (a:=((8 * k:Nat):Int)) (b:=(i:Int)) (c:=(((8 * k) + i:Nat):Int)) (by omega)) (.e 21 (Ajn (a:=8) (b:=(i:Int)) (c:=((8 * i:Nat):Int)) (by omega)) (.e 22 (Z9 (8 * i) (by omega)) (.e 23 (Aym (w k) i hi) (.e 24 (Azr (w k / 2 ^ (8 * i))) (.ix (i:=(8 * k) + i) (m:=64) (by omega) (.lt (i:=(8 * k) + i) (n:=64) (by omega) (.e 26 (Ck (a:=(i:Int)) (b:=1) (c:=((i + 1:Nat):Int)) (by omega)) .nil))))))))))) (.n (.e 27 (Ck (a:=(k:Int)) (b:=1) (c:=((k + 1:Nat):Int)) (by omega)) .nil)))))) (.n .nil))
theorem A5b (w:Nat->Nat):Sp P 292 [.ar .u64 8 (nf w)] [] (.ar .u8 64 (nf (fwF w))) [] :=
 (A2c w).resE (K4 fun j hj=>Am6 w 8 j (by omega)) rfl rfl rfl
def mgA (l o:Nat->Nat) (m:Nat):Nat->Nat->Int
 | 0=>nf l
 | i + 1=>bif decide (((hv m i % 2:Nat):Int)=1) then upI (mgA l o m i) i ((o i:Nat):Int) else mgA l o m i
def mgF (l o:Nat->Nat) (m j:Nat):Nat:=bif decide (((hv m j % 2:Nat):Int)=1) then o j else l j
theorem A0g {l o:Nat->Nat} (hl:∀ j,l j < 256) (ho:∀ j,o j < 256) (m j:Nat):mgF l o m j < 256:=by
 unfold mgF; cases decide (((hv m j % 2:Nat):Int)=1); exact hl _; exact ho _
theorem Anq (l o:Nat->Nat) (m:Nat):∀ i j,mgA l o m i j=if j < i then nf (mgF l o m) j else nf l j
 | 0,j=>by rw [mgA,if_neg (by omega)]
 | i + 1, j => by
   have ih:=Anq l o m i j
   by_cases e:j=i
   ·subst e
    rw [mgA,if_pos (by omega)]
    unfold nf mgF
    cases decide (((hv m j % 2:Nat):Int)=1) with
    | true=>unfold upI; rw [cond_true,cond_true,if_pos rfl]
    | false=>rw [cond_false,cond_false,ih,if_neg (by omega)]; rfl
   ·have h1:mgA l o m (i + 1) j=mgA l o m i j:=by
     rw [mgA]
     cases decide (((hv m i % 2:Nat):Int)=1) with
     | true=>unfold upI; rw [cond_true,if_neg e]
     | false=>rfl
    rw [h1,ih]
    by_cases h2:j < i
    ·rw [if_pos h2,if_pos (by omega)]
    ·rw [if_neg h2,if_neg (by omega)]
theorem Aya (l o:Nat->Nat) (m j:Nat):mgA l o m (bl m) j=nf (mgF l o m) j:=by
 rw [Anq]
 by_cases h:j < bl m
 ·rw [if_pos h]
 ·rw [if_neg h]
  have e:hv m j=0:=by
   have h1:=Aao m
   rw [X6,show j=bl m + (j - bl m) by omega,Nat.pow_add,← Nat.div_div_eq_div_mul,h1,Nat.zero_div]
  unfold nf mgF
  rw [e]; rfl
theorem Air (l:Nat->Nat) (o:Nat->Nat) (m:Nat) (hm:m < 18446744073709551616):Sp P 55 [.ar .u8 64 (nf l),.ar .u8 64 (nf o),vu m] [] (.ar .u8 64 (mgA l o m (bl m))) [] :=
 so Tryz.f55 8 [] (.c [] (A3f m) (.lp (bl m) 7 [] [] (fun i=>[(3,vn i)]) (fun i=>[(1,.blk [.ar .u8 64 (mgA l o m i)] 43),(4,.blk [vu (hv m i)] 44),(5,.lo .ready none)]) (fun i hi=>(.t (congrArg (!·) (sQF (((hv m i:Nat):Int)=0) (by have:=Auq hi; omega))) (.cs 2 (decide (((hv m i % 2:Nat):Int)=1)) 7 [] [] (fun z=>[(8,vu (hv m i)),(9,vu (hv m i % 2)),(10,vt (decide (((hv m i % 2:Nat):Int)=1))),(11,vt (decide (((hv m i % 2:Nat):Int)=1))),(16,vt false),(17,vu (hv m i)),(18,vu (hv m (i + 1)))]) (fun z=>[(1,.blk [.ar .u8 64 (bif z then (upI (mgA l o m i) i ((o i:Nat):Int)) else (mgA l o m i))] 43),(4,.blk [vu (hv m (i + 1))] 44),(5,.lo .ready none)]) (fun hq1=>(.e 9 (A70 (hv m i) (Aff hm i)) (.t2 hq1 (.t hq1 (.ix (i:=i) (m:=64) (by have:=Tm (n:=64) hm; omega) (.lt (i:=i) (n:=64) (by have:=Tm (n:=64) hm; omega) (.ix (i:=i) (m:=64) (by have:=Tm (n:=64) hm; omega) (.lt (i:=i) (n:=64) (by have:=Tm (n:=64) hm; omega) (.t2 hq1 (.n (.e 18 (Yo (hv m i)) .nil))))))))))) (fun hq1=>(.e 9 (A70 (hv m i) (Aff hm i)) (.t2 hq1 (.t2 hq1 (.t hq1 (.n (.e 18 (Yo (hv m i)) .nil))))))) (.e 7 (Ck (a:=(i:Int)) (b:=1) (c:=((i + 1:Nat):Int)) (by have:=Tm (n:=64) hm; omega)) .nil)))) (.t (congrArg (!·) (sQT (((hv m (bl m):Nat):Int)=0) (by rw [Amk]; rfl))) .nil)))
theorem A0f (l o:Nat->Nat) (m:Nat) (hm:m < 18446744073709551616):Sp P 55 [.ar .u8 64 (nf l),.ar .u8 64 (nf o),vu m] [] (.ar .u8 64 (nf (mgF l o m))) [] :=
 (Air l o m hm).resE (K4 fun j hj=>Aya l o m j) rfl rfl rfl
theorem Y3 (m:Nat) (hm:m < 18446744073709551616):Sp P 124 [vu m] [] (vt (decide (((wt m:Nat):Int)=64))) [] :=
 so Tryz.f124 3 [] (.c [] (Jd m (by first | assumption | omega)) .nil)
def h8 (x:Nat):Nat->Nat
 | 0=>x
 | i + 1=>h8 x i / 256
theorem B2g (a:Nat):Value.int .u64 ((a:Int).fdiv (2 ^ 8))=.int .u64 ((a / 256:Nat):Int):=by
 rw [show (a:Int).fdiv (2 ^ 8)=((a / 256:Nat):Int) by rw [Int.fdiv_eq_ediv_of_nonneg _ (by decide)]; rfl]
def Pb (x:Nat):Nat->List Nat
 | 0=>[]
 | i + 1=>Pb x i ++ [h8 x i % 256]
theorem Fo (x:Nat):∀ i,(Pb x i).length=i
 | 0=>rfl
 | i + 1=>by rw [Pb,List.length_append,Fo x i]; rfl
theorem Afn (x:Nat):∀ i,B8 (Pb x i)
 | 0=>.mem fun y hy=>by cases hy
 | i + 1=>(Afn x i).app (.mem fun y hy=>by rw [List.mem_singleton.1 hy]; exact Nat.mod_lt _ (by decide))
def nbF (l:List Nat):Nat->Nat
 | 0=>0
 | i + 1=>nbF l i ||| l.getD i 0 * 2 ^ (8 * i)
theorem Acq {l:List Nat} (hl:B8 l):∀ i,i<=8->nbF l i < 18446744073709551616
 | 0,_=>(by decide:(0:Nat) < 18446744073709551616)
 | i + 1,h=>Nat.or_lt_two_pow (n:=64) (Acq hl i (by omega)) (Ap5 _ i (hl _) (by omega))
theorem Qp (x:Nat) :Sp P 248 [vu x] [] (.sl 0) [.row eB (Pb x 8)] :=
 so Tryz.f248 5 [.id 1] (.lp 8 2 [(1,.nil)] [(1,.id 3)] (fun i=>[(4,vn i),(0,vu (h8 x i)),(3,.sl 1)]) (fun i=>[(1,.row eB (Pb x i))]) (fun i hi=>(.t (sQT ((i:Int) < 8) (by omega)) (.e 8 (Azr (h8 x i)) (.bs 9 (e:=eB) [h8 x i % 256] (.ap (e:=eB) (l:=Pb x i) (l':=[h8 x i % 256]) .row .row (by rw [Fo]; show i + 1<=_; omega) (.e 12 (B2g (h8 x i)) (.e 13 (Ck (a:=(i:Int)) (b:=1) (c:=((i + 1:Nat):Int)) (by omega)) .nil))))))) (.n .nil))
theorem S2 (l:List Nat) (h8:l.length<=8) (bl:B8 l):Sp P 313 [.sl 0] [.ro (.row eB l)] (vu (nbF l l.length)) [.ro (.row eB l)] :=
 so Tryz.f313 3 [.id 0] (.lp l.length 2 [] [] (fun i=>[(8,vn i),(3,vu (nbF l i))]) (fun i=>[]) (fun i hi=>(.t (sQT ((i:Int) < (l.length:Int)) (by omega)) (.ix (i:=i) (m:=l.length) (by omega) (.el (e:=eB) (gD (l:=l) (i:=i) (by omega)) (.e 15 (Z9 (l.getD i 0) (Nat.lt_trans (bl _) (by decide))) (.e 17 (Ajn (a:=8) (b:=(i:Int)) (c:=((8 * i:Nat):Int)) (by omega)) (.e 18 (Z9 (8 * i) (by omega)) (.e 19 (Ap4 (l.getD i 0) i (bl _) (by omega)) (.e 20 (A7e (nbF l i) (l.getD i 0 * 2 ^ (8 * i)) (Acq bl i (by omega)) (Ap5 _ i (bl _) (by omega))) (.e 21 (Ck (a:=(i:Int)) (b:=1) (c:=((i + 1:Nat):Int)) (by omega)) .nil)))))))))) (.t (sQF ((l.length:Int) < (l.length:Int)) (by omega)) .nil))
theorem Axa  :Sp P 250 [vt true] [] (vn 1) [] :=
 so Tryz.f250 3 [] (.y .nil)
theorem Ax9  :Sp P 250 [vt false] [] (vn 0) [] :=
 so Tryz.f250 3 [] (.n .nil)
theorem Ll (b:Bool):Sp P 250 [vt b] [] (vn (bif b then 1 else 0)) []:=by
 cases b
 ·exact Ax9
 ·exact Axa
def nu (n:Int):Nat:=(n % 8388608).toNat
theorem Ag6 (n:Int):nu n < 8388608:=by unfold nu; omega
theorem Axo (n:Int):Value.int .i64 (bits .and .i64 n 8388607)=.int .i64 ((nu n:Nat):Int):=by
 have e:bits .and .i64 n 8388607=IntKind.i64.wrap (((BitVec.ofInt 64 n &&& BitVec.ofInt 64 ((8388607:Nat):Int)).toNat:Nat):Int):=rfl
 have h2:(BitVec.ofInt 64 n).toNat &&& 8388607=nu n:=by
  have:=Nat.and_two_pow_sub_one_eq_mod (BitVec.ofInt 64 n).toNat 23
  rw [show (8388607:Nat)=2 ^ 23 - 1 from rfl,this,BitVec.toNat_ofInt]; unfold nu
  show (n % 18446744073709551616).toNat % 8388608=_; omega
 rw [e,BitVec.toNat_and,bvN (n:=64) (by decide),h2]
 exact aW ⟨by have:=Ag6 n; omega,by have:=Ag6 n; omega,rfl⟩
theorem u8I (x:Int):IntKind.u8.wrap x=x % 256:=by
 unfold IntKind.wrap
 simp only [IntKind.bits,IntKind.signed,Bool.false_and,Bool.false_eq_true,if_false]
 omega
theorem B1q (n:Int):Value.int .u8 (IntKind.u8.wrap n)=.int .u8 ((nu n % 256:Nat):Int):=by rw [u8I]; congr 1; unfold nu; omega
theorem Azo (n:Int):Value.int .u8 (IntKind.u8.wrap (n.fdiv (2 ^ 8)))=.int .u8 ((nu n / 2 ^ 8 % 256:Nat):Int):=by
 rw [u8I,Int.fdiv_eq_ediv_of_nonneg _ (by decide)]
 refine congrArg (Value.int .u8) ?_
 show n / 256 % 256=((nu n / 256 % 256:Nat):Int)
 unfold nu; omega
def nh (n:Int):Nat:=(n / 65536 % 256).toNat
theorem B0h (n:Int):nh n < 256:=by unfold nh; omega
theorem Azp (n:Int):Value.int .u8 (IntKind.u8.wrap (n.fdiv (2 ^ 16)))=.int .u8 ((nh n:Nat):Int):=by
 rw [u8I,Int.fdiv_eq_ediv_of_nonneg _ (by decide)]
 refine congrArg (Value.int .u8) ?_
 show n / 65536 % 256=((nh n:Nat):Int)
 unfold nh; omega
theorem Azq (n:Nat) (h:n < 4294967296):Value.int .u32 (IntKind.u32.wrap (n:Int))=.int .u32 (n:Int):=by rw [Az6 h]
theorem iSh (n k:Nat):Value.int .i64 ((n:Int).fdiv (2 ^ k))=.int .i64 ((n / 2 ^ k:Nat):Int):=by
 rw [Int.fdiv_eq_ediv_of_nonneg _ (by have:(0:Int) < 2 ^ k:=Int.pow_pos (by decide); omega)]
 congr 1
theorem B1y (x:Nat) (h:x < 256):Value.int .u8 (bits .and .u8 (x:Int) 127)=.int .u8 ((x % 128:Nat):Int):=by
 have key:∀ a:_root_.Fin 256,bits .and .u8 (a.1:Int) 127=((a.1 % 128:Nat):Int):=by decide +kernel
 rw [key ⟨x,h⟩]
def Cp (n:Int):Nat:=wt (nu n) % 2
theorem Hj (n:Int):Cp n < 2:=Nat.mod_lt _ (by decide)
def byF (n:Int) (j:Nat):Nat:=if j=0 then nu n % 256 else if j=1 then nu n / 256 % 256 else if j=2 then nh n % 128 else 0
def byA (n:Int):Nat->Int:=upI (upI (upI (fun _=>0) 0 ((nu n % 256:Nat):Int)) 1 ((nu n / 2 ^ 8 % 256:Nat):Int)) 2 ((nh n % 128:Nat):Int)
theorem Aw1 (n:Int):∀ j,j < 3->byA n j=nf (byF n) j
 | 0,_=>rfl
 | 1,_=>rfl
 | 2,_=>rfl
 | j + 3,h=>absurd h (by omega)
theorem A4f (n:Int) (j:Nat):byF n j < 256:=by unfold byF; split; omega; split; omega; split; omega; decide
theorem Iz (n:Int) :Sp P 83 [vi n] [] (vn (Cp n)) [] :=
 so Tryz.f83 3 [] (.e 4 (Axo n) (.e 5 (Azq (nu n) (Nat.lt_trans (Ag6 n) (by decide))) (.c [] (Aiu (nu n) (Nat.lt_trans (Ag6 n) (by decide))) .nil)))
theorem Aby (n:Int) :Sp P 271 [vi n] [] (.ar .u8 3 (byA n)) [] :=
 so Tryz.f271 3 [] (.e 4 (B1q n) (.e 7 (Azo n) (.e 10 (Azp n) (.e 11 (B1y (nh n) (B0h n)) .nil))))
theorem Rr (n:Int):Sp P 271 [vi n] [] (.ar .u8 3 (nf (byF n))) []:=(Aby n).resE (K4 (Aw1 n)) rfl rfl rfl
def viF (n:Int) (b:Bool) (j:Nat):Nat:=if j=2 then (bif b then byF n 2 ||| 128 else byF n 2) else byF n j
theorem Kk (n:Int) (b:Bool) (j:Nat):viF n b j < 256:=by
 unfold viF
 split
 ·cases b
  ·exact A4f _ _
  ·exact Nat.or_lt_two_pow (n:=8) (A4f _ _) (by decide)
 ·exact A4f _ _
theorem B2i (n:Int):∀ j,j < 3->upI (nf (byF n)) 2 ((byF n 2 ||| 128:Nat):Int) j=nf (viF n true) j
 | 0,_=>rfl
 | 1,_=>rfl
 | 2,_=>rfl
 | j + 3,h=>absurd h (by omega)
theorem B2h (n:Int):∀ j,j < 3->nf (byF n) j=nf (viF n false) j
 | 0,_=>rfl
 | 1,_=>rfl
 | 2,_=>rfl
 | j + 3,h=>absurd h (by omega)
theorem Ajl (n:Int) :Sp P 251 [vi n,vt true] [] (.ar .u8 3 (upI (nf (byF n)) 2 ((byF n 2 ||| 128:Nat):Int))) [] :=
 so Tryz.f251 4 [] (.c [] (Rr n) (.y (.e 11 (Aqv (byF n 2) 128 (A4f _ _) (by decide)) .nil)))
theorem Ajk (n:Int) :Sp P 251 [vi n,vt false] [] (.ar .u8 3 (nf (byF n))) [] :=
 so Tryz.f251 4 [] (.c [] (Rr n) (.n .nil))
theorem J5 (n:Int) (b:Bool):Sp P 251 [vi n,vt b] [] (.ar .u8 3 (nf (viF n b))) []:=by
 cases b
 ·exact (Ajk n).resE (K4 (B2h n)) rfl rfl rfl
 ·exact (Ajl n).resE (K4 (B2i n)) rfl rfl rfl
def eN:Enc Nat:=⟨fun a=>[vn a],3,1,fun a=>⟨rfl,rfl,rfl⟩⟩
theorem mxN (a b:Nat):Value.int .i64 (if (b:Int) > (a:Int) then (b:Int) else (a:Int))=.int .i64 ((max a b:Nat):Int):=by
 congr 1
 split <;> omega
def jk (l:List Nat):Nat->Nat
 | 0=>0
 | i + 1=>max (jk l i) (l.getD i 0)
def jf (l:List Nat):Nat->Nat
 | 0=>0
 | i + 1=>jf l i + (bif decide (((l.getD i 0:Nat):Int)=1) then 1 else 0)
theorem Aut (l:List Nat):∀ i,jf l i<=i
 | 0=>Nat.le_refl _
 | i + 1=>by
   have:=Aut l i
   rw [jf]
   cases decide (((l.getD i 0:Nat):Int)=1) <;> simp only [cond_true,cond_false] <;> omega
theorem Axq (l:List Nat) (i:Nat):(bif decide (((l.getD i 0:Nat):Int)=1) then 1 else 0)<=1:=by cases decide (((l.getD i 0:Nat):Int)=1) <;> decide
def Zx (l:List Nat):Nat:=bif decide (((jk l l.length:Nat):Int)=1) then jf l l.length else 0
theorem Y5 (l:List Nat) (hl:l.length<=1000):Sp P 259 [.sl 0] [.ro (.row eN l)] (.ag [vn (jk l l.length),vn (Zx l)]) [.ro (.row eN l)] :=
 so Tryz.f259 6 [.id 0] (.lp l.length 4 [] [] (fun i=>[(8,vn i)]) (fun i=>[(3,.blk [vn (jk l i),vn (jf l i)] 96)]) (fun i hi=>(.t (sQT ((i:Int) < (l.length:Int)) (by omega)) (.ix (i:=i) (m:=l.length) (by omega) (.el (e:=eN) (gD (l:=l) (i:=i) (by omega)) (.e 15 (mxN (jk l i) (l.getD i 0)) (.c [] (Ll (decide (((l.getD i 0:Nat):Int)=1))) (.e 22 (Ck (a:=((jf l i:Nat):Int)) (b:=((bif (decide (((l.getD i 0:Nat):Int)=1)) then 1 else 0:Nat):Int)) (c:=(((jf l i) + (bif (decide (((l.getD i 0:Nat):Int)=1)) then 1 else 0):Nat):Int)) (by have:=Aut l i; have:=Axq l i; omega)) (.e 24 (Ck (a:=(i:Int)) (b:=1) (c:=((i + 1:Nat):Int)) (by omega)) .nil)))))))) (.t (sQF ((l.length:Int) < (l.length:Int)) (by omega)) (.cs 0 (decide (((jk l l.length:Nat):Int)=1)) 4 [] [] (fun z=>[]) (fun z=>[(3,.blk [vn (jk l l.length),vn (bif z then (jf l l.length) else 0)] 96)]) (fun hq1=>(.g hq1 .nil)) (fun hq1=>(.g hq1 .nil)) .nil)))
def Dy (r:Nat->Nat) (o n:Nat) (g:Nat->Nat):Nat->Nat:=fun i=>if o<=i/\i < o + n then g (i - o) else r i
theorem Yg {r g:Nat->Nat} (hr:∀ j,r j < 256) (hg:∀ j,g j < 256) (o n j:Nat):Dy r o n g j < 256:=by
 unfold Dy; split; exact hg _; exact hr _
theorem Agb (r:Nat->Nat) (o n:Nat) (g:Nat->Nat):nf (Dy r o n g)=upR (nf r) o n (nf g):=by
 funext i
 unfold nf Dy upR
 by_cases h:o<=i/\i < o + n
 ·rw [if_pos h,if_pos h]
 ·rw [if_neg h,if_neg h]
theorem Af1 (k:IntKind) (n:Nat) (f:Nat->Int):V.flat ρN [.ar k n f]=arV k f n 0:=by simp only [V.flat,V.den,List.append_nil]; rfl
theorem cpN (m:Nat) (r:Nat->Nat) {o n:Nat} {l:List Nat} (hl:l.length=n) (h:o + n<=m):V.flat ρN [.ar .u8 m (nf (Dy r o n (fun j=>l.getD j 0)))]=(V.flat ρN [.ar .u8 m (nf r)]).take o ++ eB.cs l ++ (V.flat ρN [.ar .u8 m (nf r)]).drop (o + l.length * eB.sz):=by
 rw [Af1,Af1,Agb,A42 .u8 (nf r) _ h,Ys (fun j=>l.getD j 0),Yr n 0 (by omega),List.drop_zero]
 show _=_ ++ _ ++ List.drop (o + l.length * 1) _
 rw [Nat.mul_one,hl]
def A4 (r:Nat->Nat) (o n:Nat):List Nat:=[] ++ arL (fun j=>r (o + j)) n 0
theorem Af (r:Nat->Nat) (o n:Nat):(A4 r o n).length=n:=by unfold A4; rw [List.nil_append,Bh]
theorem Au {r:Nat->Nat} (h:∀ j,r j < 256) (o n:Nat):B8 (A4 r o n):=by unfold A4; rw [List.nil_append]; exact Ij (fun j=>h _) _ _
theorem Es  :Sp P 133 [vn 1] [] (vt true) [] :=
 so Tryz.f133 3 [] (.y2 (.y .nil))
theorem Ch  :Sp P 139 [vn 1] [] (vn 9) [] :=
 so Tryz.f139 3 [] (.y .nil)
theorem Dp  :Sp P 284 [vn 1] [] (vn 8) [] :=
 so Tryz.f284 3 [] (.c [] (Es) (.n (.c [] (Ch) .nil)))
theorem At8 (r:Nat->Nat) (l:List Nat) (hl:l.length=9):Sp P 247 [.ar .u8 72 (nf r),vn 1,vn 0,.sl 0] [.ro (.row eB l)] (.ar .u8 72 (nf (Dy r 0 9 (fun j=>l.getD j 0)))) [.ro (.row eB l)] :=
 so Tryz.f247 4 [.id 0] (.c [] (Ch) (.y2 (.y (.c [] (Dp) (.y4 (.y2 (.y (.t (sQT ((l.length:Int)=9) (by rw [hl]; rfl)) (.sl (i:=0) (n:=72) (m:=72) (by decide) (.cp (xs:=l) (n:=72) .row (by omega) (cpN 72 r (o:=0) (n:=9) hl (by decide)) .nil))))))))))
theorem A1p (r:Nat->Nat) :Sp P 290 [.ar .u8 72 (nf r),vn 1,vn 0] [] (.sl 0) [.row eB (A4 r 0 9)] :=
 so Tryz.f290 5 [.id 3] (.n2 (.n (.c [] (Dp) (.n2 (.n (.c [] (Ch) (.bs 18 (e:=eB) [] (.sl (i:=0) (n:=9) (m:=72) (by decide) (.ap (e:=eB) (l:=[]) (l':=arL (fun j=>r (0 + j)) 9 0) .row (.flat [.ar .u8 9 (nf r)] _ (by have h:=Ef r 9; simpa only [Nat.zero_add] using h)) (by rw [Bh]; decide) .nil)))))))))
theorem At9 (r:Nat->Nat) (l:List Nat) (hl:l.length=9):Sp P 247 [.ar .u8 72 (nf r),vn 1,vn 1,.sl 0] [.ro (.row eB l)] (.ar .u8 72 (nf (Dy r 9 9 (fun j=>l.getD j 0)))) [.ro (.row eB l)] :=
 so Tryz.f247 4 [.id 0] (.c [] (Ch) (.y2 (.y (.c [] (Dp) (.y4 (.y2 (.y (.t (sQT ((l.length:Int)=9) (by rw [hl]; rfl)) (.sl (i:=9) (n:=63) (m:=72) (by decide) (.cp (xs:=l) (n:=63) .row (by omega) (cpN 72 r (o:=9) (n:=9) hl (by decide)) .nil))))))))))
theorem A1q (r:Nat->Nat) :Sp P 290 [.ar .u8 72 (nf r),vn 1,vn 1] [] (.sl 0) [.row eB (A4 r 9 9)] :=
 so Tryz.f290 5 [.id 3] (.n2 (.n (.c [] (Dp) (.n2 (.n (.c [] (Ch) (.bs 18 (e:=eB) [] (.sl (i:=9) (n:=9) (m:=72) (by decide) (.ap (e:=eB) (l:=[]) (l':=arL (fun j=>r (9 + j)) 9 0) .row (.flat _ _ (Ef (fun j=>r (9 + j)) 9)) (by rw [Bh]; decide) .nil)))))))))
theorem Ata (r:Nat->Nat) (l:List Nat) (hl:l.length=9):Sp P 247 [.ar .u8 72 (nf r),vn 1,vn 2,.sl 0] [.ro (.row eB l)] (.ar .u8 72 (nf (Dy r 18 9 (fun j=>l.getD j 0)))) [.ro (.row eB l)] :=
 so Tryz.f247 4 [.id 0] (.c [] (Ch) (.y2 (.y (.c [] (Dp) (.y4 (.y2 (.y (.t (sQT ((l.length:Int)=9) (by rw [hl]; rfl)) (.sl (i:=18) (n:=54) (m:=72) (by decide) (.cp (xs:=l) (n:=54) .row (by omega) (cpN 72 r (o:=18) (n:=9) hl (by decide)) .nil))))))))))
theorem A1r (r:Nat->Nat) :Sp P 290 [.ar .u8 72 (nf r),vn 1,vn 2] [] (.sl 0) [.row eB (A4 r 18 9)] :=
 so Tryz.f290 5 [.id 3] (.n2 (.n (.c [] (Dp) (.n2 (.n (.c [] (Ch) (.bs 18 (e:=eB) [] (.sl (i:=18) (n:=9) (m:=72) (by decide) (.ap (e:=eB) (l:=[]) (l':=arL (fun j=>r (18 + j)) 9 0) .row (.flat _ _ (Ef (fun j=>r (18 + j)) 9)) (by rw [Bh]; decide) .nil)))))))))
theorem Atb (r:Nat->Nat) (l:List Nat) (hl:l.length=9):Sp P 247 [.ar .u8 72 (nf r),vn 1,vn 3,.sl 0] [.ro (.row eB l)] (.ar .u8 72 (nf (Dy r 27 9 (fun j=>l.getD j 0)))) [.ro (.row eB l)] :=
 so Tryz.f247 4 [.id 0] (.c [] (Ch) (.y2 (.y (.c [] (Dp) (.y4 (.y2 (.y (.t (sQT ((l.length:Int)=9) (by rw [hl]; rfl)) (.sl (i:=27) (n:=45) (m:=72) (by decide) (.cp (xs:=l) (n:=45) .row (by omega) (cpN 72 r (o:=27) (n:=9) hl (by decide)) .nil))))))))))
theorem A1s (r:Nat->Nat) :Sp P 290 [.ar .u8 72 (nf r),vn 1,vn 3] [] (.sl 0) [.row eB (A4 r 27 9)] :=
 so Tryz.f290 5 [.id 3] (.n2 (.n (.c [] (Dp) (.n2 (.n (.c [] (Ch) (.bs 18 (e:=eB) [] (.sl (i:=27) (n:=9) (m:=72) (by decide) (.ap (e:=eB) (l:=[]) (l':=arL (fun j=>r (27 + j)) 9 0) .row (.flat _ _ (Ef (fun j=>r (27 + j)) 9)) (by rw [Bh]; decide) .nil)))))))))
theorem Atc (r:Nat->Nat) (l:List Nat) (hl:l.length=9):Sp P 247 [.ar .u8 72 (nf r),vn 1,vn 4,.sl 0] [.ro (.row eB l)] (.ar .u8 72 (nf (Dy r 36 9 (fun j=>l.getD j 0)))) [.ro (.row eB l)] :=
 so Tryz.f247 4 [.id 0] (.c [] (Ch) (.y2 (.y (.c [] (Dp) (.y4 (.y2 (.y (.t (sQT ((l.length:Int)=9) (by rw [hl]; rfl)) (.sl (i:=36) (n:=36) (m:=72) (by decide) (.cp (xs:=l) (n:=36) .row (by omega) (cpN 72 r (o:=36) (n:=9) hl (by decide)) .nil))))))))))
theorem A1t (r:Nat->Nat) :Sp P 290 [.ar .u8 72 (nf r),vn 1,vn 4] [] (.sl 0) [.row eB (A4 r 36 9)] :=
 so Tryz.f290 5 [.id 3] (.n2 (.n (.c [] (Dp) (.n2 (.n (.c [] (Ch) (.bs 18 (e:=eB) [] (.sl (i:=36) (n:=9) (m:=72) (by decide) (.ap (e:=eB) (l:=[]) (l':=arL (fun j=>r (36 + j)) 9 0) .row (.flat _ _ (Ef (fun j=>r (36 + j)) 9)) (by rw [Bh]; decide) .nil)))))))))
theorem Atd (r:Nat->Nat) (l:List Nat) (hl:l.length=9):Sp P 247 [.ar .u8 72 (nf r),vn 1,vn 5,.sl 0] [.ro (.row eB l)] (.ar .u8 72 (nf (Dy r 45 9 (fun j=>l.getD j 0)))) [.ro (.row eB l)] :=
 so Tryz.f247 4 [.id 0] (.c [] (Ch) (.y2 (.y (.c [] (Dp) (.y4 (.y2 (.y (.t (sQT ((l.length:Int)=9) (by rw [hl]; rfl)) (.sl (i:=45) (n:=27) (m:=72) (by decide) (.cp (xs:=l) (n:=27) .row (by omega) (cpN 72 r (o:=45) (n:=9) hl (by decide)) .nil))))))))))
theorem A1u (r:Nat->Nat) :Sp P 290 [.ar .u8 72 (nf r),vn 1,vn 5] [] (.sl 0) [.row eB (A4 r 45 9)] :=
 so Tryz.f290 5 [.id 3] (.n2 (.n (.c [] (Dp) (.n2 (.n (.c [] (Ch) (.bs 18 (e:=eB) [] (.sl (i:=45) (n:=9) (m:=72) (by decide) (.ap (e:=eB) (l:=[]) (l':=arL (fun j=>r (45 + j)) 9 0) .row (.flat _ _ (Ef (fun j=>r (45 + j)) 9)) (by rw [Bh]; decide) .nil)))))))))
theorem Ate (r:Nat->Nat) (l:List Nat) (hl:l.length=9):Sp P 247 [.ar .u8 72 (nf r),vn 1,vn 6,.sl 0] [.ro (.row eB l)] (.ar .u8 72 (nf (Dy r 54 9 (fun j=>l.getD j 0)))) [.ro (.row eB l)] :=
 so Tryz.f247 4 [.id 0] (.c [] (Ch) (.y2 (.y (.c [] (Dp) (.y4 (.y2 (.y (.t (sQT ((l.length:Int)=9) (by rw [hl]; rfl)) (.sl (i:=54) (n:=18) (m:=72) (by decide) (.cp (xs:=l) (n:=18) .row (by omega) (cpN 72 r (o:=54) (n:=9) hl (by decide)) .nil))))))))))
theorem A1v (r:Nat->Nat) :Sp P 290 [.ar .u8 72 (nf r),vn 1,vn 6] [] (.sl 0) [.row eB (A4 r 54 9)] :=
 so Tryz.f290 5 [.id 3] (.n2 (.n (.c [] (Dp) (.n2 (.n (.c [] (Ch) (.bs 18 (e:=eB) [] (.sl (i:=54) (n:=9) (m:=72) (by decide) (.ap (e:=eB) (l:=[]) (l':=arL (fun j=>r (54 + j)) 9 0) .row (.flat _ _ (Ef (fun j=>r (54 + j)) 9)) (by rw [Bh]; decide) .nil)))))))))
theorem Atf (r:Nat->Nat) (l:List Nat) (hl:l.length=9):Sp P 247 [.ar .u8 72 (nf r),vn 1,vn 7,.sl 0] [.ro (.row eB l)] (.ar .u8 72 (nf (Dy r 63 9 (fun j=>l.getD j 0)))) [.ro (.row eB l)] :=
 so Tryz.f247 4 [.id 0] (.c [] (Ch) (.y2 (.y (.c [] (Dp) (.y4 (.y2 (.y (.t (sQT ((l.length:Int)=9) (by rw [hl]; rfl)) (.sl (i:=63) (n:=9) (m:=72) (by decide) (.cp (xs:=l) (n:=9) .row (by omega) (cpN 72 r (o:=63) (n:=9) hl (by decide)) .nil))))))))))
theorem A1w (r:Nat->Nat) :Sp P 290 [.ar .u8 72 (nf r),vn 1,vn 7] [] (.sl 0) [.row eB (A4 r 63 9)] :=
 so Tryz.f290 5 [.id 3] (.n2 (.n (.c [] (Dp) (.n2 (.n (.c [] (Ch) (.bs 18 (e:=eB) [] (.sl (i:=63) (n:=9) (m:=72) (by decide) (.ap (e:=eB) (l:=[]) (l':=arL (fun j=>r (63 + j)) 9 0) .row (.flat _ _ (Ef (fun j=>r (63 + j)) 9)) (by rw [Bh]; decide) .nil)))))))))
theorem Et  :Sp P 133 [vn 2] [] (vt true) [] :=
 so Tryz.f133 3 [] (.n2 (.n .nil))
theorem G3  :Sp P 139 [vn 2] [] (vn 36) [] :=
 so Tryz.f139 3 [] (.n (.y .nil))
theorem Nz  :Sp P 284 [vn 2] [] (vn 2) [] :=
 so Tryz.f284 3 [] (.c [] (Et) (.n (.c [] (G3) .nil)))
theorem Atg (r:Nat->Nat) (l:List Nat) (hl:l.length=36):Sp P 247 [.ar .u8 72 (nf r),vn 2,vn 0,.sl 0] [.ro (.row eB l)] (.ar .u8 72 (nf (Dy r 0 36 (fun j=>l.getD j 0)))) [.ro (.row eB l)] :=
 so Tryz.f247 4 [.id 0] (.c [] (G3) (.y2 (.y (.c [] (Nz) (.y4 (.y2 (.y (.t (sQT ((l.length:Int)=36) (by rw [hl]; rfl)) (.sl (i:=0) (n:=72) (m:=72) (by decide) (.cp (xs:=l) (n:=72) .row (by omega) (cpN 72 r (o:=0) (n:=36) hl (by decide)) .nil))))))))))
theorem A1x (r:Nat->Nat) :Sp P 290 [.ar .u8 72 (nf r),vn 2,vn 0] [] (.sl 0) [.row eB (A4 r 0 36)] :=
 so Tryz.f290 5 [.id 3] (.n2 (.n (.c [] (Nz) (.n2 (.n (.c [] (G3) (.bs 18 (e:=eB) [] (.sl (i:=0) (n:=36) (m:=72) (by decide) (.ap (e:=eB) (l:=[]) (l':=arL (fun j=>r (0 + j)) 36 0) .row (.flat [.ar .u8 36 (nf r)] _ (by have h:=Ef r 36; simpa only [Nat.zero_add] using h)) (by rw [Bh]; decide) .nil)))))))))
theorem Ath (r:Nat->Nat) (l:List Nat) (hl:l.length=36):Sp P 247 [.ar .u8 72 (nf r),vn 2,vn 1,.sl 0] [.ro (.row eB l)] (.ar .u8 72 (nf (Dy r 36 36 (fun j=>l.getD j 0)))) [.ro (.row eB l)] :=
 so Tryz.f247 4 [.id 0] (.c [] (G3) (.y2 (.y (.c [] (Nz) (.y4 (.y2 (.y (.t (sQT ((l.length:Int)=36) (by rw [hl]; rfl)) (.sl (i:=36) (n:=36) (m:=72) (by decide) (.cp (xs:=l) (n:=36) .row (by omega) (cpN 72 r (o:=36) (n:=36) hl (by decide)) .nil))))))))))
theorem A1y (r:Nat->Nat) :Sp P 290 [.ar .u8 72 (nf r),vn 2,vn 1] [] (.sl 0) [.row eB (A4 r 36 36)] :=
 so Tryz.f290 5 [.id 3] (.n2 (.n (.c [] (Nz) (.n2 (.n (.c [] (G3) (.bs 18 (e:=eB) [] (.sl (i:=36) (n:=36) (m:=72) (by decide) (.ap (e:=eB) (l:=[]) (l':=arL (fun j=>r (36 + j)) 36 0) .row (.flat _ _ (Ef (fun j=>r (36 + j)) 36)) (by rw [Bh]; decide) .nil)))))))))
