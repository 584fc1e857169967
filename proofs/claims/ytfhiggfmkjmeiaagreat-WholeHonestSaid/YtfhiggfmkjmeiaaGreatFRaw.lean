import Derived.Test.YtfhiggfmkjmeiaaGreatFRs
import Derived.Test.YtfhiggfmkjmeiaaGreatFHt
set_option linter.unusedVariables false
set_option linter.unusedSimpArgs false
set_option linter.unusedSectionVars false
namespace Go.Proofs.YtfhiggfmkjmeiaaGreat
open Go Go.RowKit
set_option maxRecDepth 100000
theorem cvU64 (x:Nat) (h:x < 18446744073709551616):Value.int .u64 (IntKind.u64.wrap ((x:Nat):Int))=.int .u64 ((x:Nat):Int):=by rw [wU64 h]
theorem cvU8 (x:Nat):Value.int .u8 (IntKind.u8.wrap ((x:Nat):Int))=.int .u8 ((x % 256:Nat):Int):=by rw [mU8]
theorem p256 (i:Nat) (h:i < 8):256 * 2 ^ (8 * i)<=18446744073709551616:=by
 have key:∀ i:_root_.Fin 8,256 * 2 ^ (8 * i.1)<=18446744073709551616:=by decide +kernel
 exact key ⟨i,h⟩
theorem shlB (x i:Nat) (hx:x < 256) (h:i < 8):x * 2 ^ (8 * i) < 18446744073709551616:=by
 have h1:=p256 i h
 have h2:0 < 2 ^ (8 * i):=Nat.pow_pos (by decide)
 exact Nat.lt_of_lt_of_le (Nat.mul_lt_mul_of_pos_right hx h2) h1
theorem shl64B (x i:Nat) (hx:x < 256) (h:i < 8):Value.int .u64 (IntKind.u64.wrap (((x:Nat):Int) * 2 ^ (min ((8 * i:Nat):Int).toNat 64)))=.int .u64 ((x * 2 ^ (8 * i):Nat):Int):=by
 rw [show min ((8 * i:Nat):Int).toNat 64=8 * i by omega,show ((x:Nat):Int) * 2 ^ (8 * i)=((x * 2 ^ (8 * i):Nat):Int) by rw [Int.natCast_mul,Int.natCast_pow]; rfl,wU64 (shlB x i hx h)]
theorem shr64B (x i:Nat) (h:i < 8):Value.int .u64 (((x:Nat):Int).fdiv (2 ^ (min ((8 * i:Nat):Int).toNat 64)))=.int .u64 ((x / 2 ^ (8 * i):Nat):Int):=by
 rw [show min ((8 * i:Nat):Int).toNat 64=8 * i by omega,Int.fdiv_eq_ediv_of_nonneg _ (by have:(0:Int) < 2 ^ (8 * i):=Int.pow_pos (by decide); omega)]
 congr 1
def wdF (l:Nat->Nat) (k:Nat):Nat->Nat
 | 0=>0
 | i + 1=>wdF l k i ||| l (8 * k + i) * 2 ^ (8 * i)
theorem wdF_lt {l:Nat->Nat} (hl:∀ j,l j < 256) (k:Nat):∀ i,i<=8->wdF l k i < 18446744073709551616
 | 0,_=>(by decide:(0:Nat) < 18446744073709551616)
 | i + 1,h=>Nat.or_lt_two_pow (n:=64) (wdF_lt hl k i (by omega)) (shlB _ i (hl _) (by omega))
theorem word_sp (l:Nat->Nat) (k:Nat) (hl:∀ j,l j < 256) (hk:k < 8):Sp P 283 [.ar .u8 64 (nf l),vn k] [] (vu (wdF l k 8)) [] :=
 so Tryz.f283 3 [] (.lp 8 2 [] [] (fun i=>[(7,vn i),(5,vu (wdF l k i))]) (fun i=>[]) (fun i hi=>(.t (show (decide (((i:Nat):Int) < 8))=true from decide_eq_true (by omega)) (.e 12 (aMul (a:=8) (b:=((k:Nat):Int)) (c:=((8 * k:Nat):Int)) (by omega)) (.e 14 (aAdd (a:=((8 * k:Nat):Int)) (b:=((i:Nat):Int)) (c:=(((8 * k) + i:Nat):Int)) (by omega)) (.ix (i:=(8 * k) + i) (m:=64) (by omega) (.lt (i:=(8 * k) + i) (n:=64) (by omega) (.e 17 (cvU64 (l (8 * k + i)) (Nat.lt_trans (hl _) (by decide))) (.e 19 (aMul (a:=8) (b:=((i:Nat):Int)) (c:=((8 * i:Nat):Int)) (by omega)) (.e 20 (cvU64 (8 * i) (by omega)) (.e 21 (shl64B (l (8 * k + i)) i (hl _) hi) (.e 22 (bitsOr64 (wdF l k i) (l (8 * k + i) * 2 ^ (8 * i)) (wdF_lt hl k i (by omega)) (shlB _ i (hl _) hi)) (.e 23 (aAdd (a:=((i:Nat):Int)) (b:=1) (c:=((i + 1:Nat):Int)) (by omega)) .nil)))))))))))) (.n .nil))
theorem words_sp (l:Nat->Nat) :Sp P 246 [.ar .u8 64 (nf l)] [] (.fn (.func 282) [] [.pt 0 0]) [.blk [.ar .u8 64 (nf l)] 43] :=
 so Tryz.f246 3 [.id 1] .nil
theorem halves_sp (l:Nat->Nat) :Sp P 252 [.ar .u8 64 (nf l)] [] (.fn (.func 285) [] [.pt 0 0]) [.blk [.ar .u8 64 (nf l)] 43] :=
 so Tryz.f252 3 [.id 1] .nil
def fwi (w:Nat->Nat) (o:Nat->Int) (k:Nat):Nat->Nat->Int
 | 0=>o
 | i + 1=>upI (fwi w o k i) (8 * k + i) ((w k / 2 ^ (8 * i) % 256:Nat):Int)
def fwo (w:Nat->Nat):Nat->Nat->Int
 | 0=>fun _=>0
 | k + 1=>fwi w (fwo w k) k 8
def fwF (w:Nat->Nat) (j:Nat):Nat:=w (j / 8) / 2 ^ (8 * (j % 8)) % 256
theorem fwF_lt (w:Nat->Nat) (j:Nat):fwF w j < 256:=Nat.mod_lt _ (by decide)
theorem fwi_eq (w:Nat->Nat) (o:Nat->Int) (k:Nat):∀ i,i<=8->∀ j,fwi w o k i j=if 8 * k<=j∧j < 8 * k + i then nf (fwF w) j else o j
 | 0,_,j=>by rw [fwi,if_neg (by omega)]
 | i + 1,h,j=>by
   rw [fwi]; unfold upI
   by_cases e:j=8 * k + i
   ·rw [if_pos e,if_pos (by omega)]
    unfold nf fwF
    rw [show j / 8=k by omega,show j % 8=i by omega]
   ·rw [if_neg e,fwi_eq w o k i (by omega) j]
    by_cases h2:8 * k<=j∧j < 8 * k + i
    ·rw [if_pos h2,if_pos (by omega)]
    ·rw [if_neg h2,if_neg (by omega)]
theorem fwo_eq (w:Nat->Nat):∀ k j,j < 8 * k->fwo w k j=nf (fwF w) j
 | 0,j,h=>by omega
 | k + 1,j,h=>by
   rw [fwo,fwi_eq w _ k 8 (Nat.le_refl _)]
   by_cases h2:8 * k<=j∧j < 8 * k + 8
   ·rw [if_pos h2]
   ·rw [if_neg h2,fwo_eq w k j (by omega)]
theorem fromwords_raw (w:Nat->Nat) :Sp P 292 [.ar .u64 8 (nf w)] [] (.ar .u8 64 (fwo w 8)) [] :=
 so Tryz.f292 5 [] (.lp 8 4 [] [] (fun k=>[(8,vn k)]) (fun k=>[(3,.blk [.ar .u8 64 (fwo w k)] 43)]) (fun k hk=>(.t (show (decide (((k:Nat):Int) < 8))=true from decide_eq_true (by omega)) (.ix (i:=k) (m:=8) hk (.lp 8 4 [] [] (fun i=>[(12,vn i)]) (fun i=>[(3,.blk [.ar .u8 64 (fwi w (fwo w k) k i)] 43)]) (fun i hi=>(.t (show (decide (((i:Nat):Int) < 8))=true from decide_eq_true (by omega)) (.e 16 (aMul (a:=8) (b:=((k:Nat):Int)) (c:=((8 * k:Nat):Int)) (by omega)) (.e 18 (aAdd (a:=((8 * k:Nat):Int)) (b:=((i:Nat):Int)) (c:=(((8 * k) + i:Nat):Int)) (by omega)) (.e 21 (aMul (a:=8) (b:=((i:Nat):Int)) (c:=((8 * i:Nat):Int)) (by omega)) (.e 22 (cvU64 (8 * i) (by omega)) (.e 23 (shr64B (w k) i hi) (.e 24 (cvU8 (w k / 2 ^ (8 * i))) (.ix (i:=(8 * k) + i) (m:=64) (by omega) (.lt (i:=(8 * k) + i) (n:=64) (by omega) (.e 26 (aAdd (a:=((i:Nat):Int)) (b:=1) (c:=((i + 1:Nat):Int)) (by omega)) .nil))))))))))) (.n (.e 27 (aAdd (a:=((k:Nat):Int)) (b:=1) (c:=((k + 1:Nat):Int)) (by omega)) .nil)))))) (.n .nil))
theorem fromwords_sp (w:Nat->Nat):Sp P 292 [.ar .u64 8 (nf w)] [] (.ar .u8 64 (nf (fwF w))) [] :=
 (fromwords_raw w).resE (ar_den fun j hj=>fwo_eq w 8 j (by omega)) rfl rfl rfl
def mgA (l o:Nat->Nat) (m:Nat):Nat->Nat->Int
 | 0=>nf l
 | i + 1=>bif decide (((hv m i % 2:Nat):Int)=1) then upI (mgA l o m i) i ((o i:Nat):Int) else mgA l o m i
def mgF (l o:Nat->Nat) (m j:Nat):Nat:=bif decide (((hv m j % 2:Nat):Int)=1) then o j else l j
theorem mgF_lt {l o:Nat->Nat} (hl:∀ j,l j < 256) (ho:∀ j,o j < 256) (m j:Nat):mgF l o m j < 256:=by
 unfold mgF; cases decide (((hv m j % 2:Nat):Int)=1); exact hl _; exact ho _
theorem mgA_at (l o:Nat->Nat) (m:Nat):∀ i j,mgA l o m i j=if j < i then nf (mgF l o m) j else nf l j
 | 0,j=>by rw [mgA,if_neg (by omega)]
 | i + 1, j => by
   have ih:=mgA_at l o m i j
   by_cases e:j=i
   ·subst e
    rw [mgA,if_pos (by omega)]
    unfold nf mgF
    cases decide (((hv m j % 2:Nat):Int)=1) with
    | true=>unfold upI; rw [cond_true,cond_true,if_pos rfl]
    | false=>rw [cond_false,cond_false,ih,if_neg (by omega)]; rfl
   ·have h1:mgA l o m (i + 1) j=mgA l o m i j:=by
     rw [mgA]
     cases decide (((hv m i % 2:Nat):Int)=1) with
     | true=>unfold upI; rw [cond_true,if_neg e]
     | false=>rfl
    rw [h1,ih]
    by_cases h2:j < i
    ·rw [if_pos h2,if_pos (by omega)]
    ·rw [if_neg h2,if_neg (by omega)]
theorem mgA_eq (l o:Nat->Nat) (m j:Nat):mgA l o m (bl m) j=nf (mgF l o m) j:=by
 rw [mgA_at]
 by_cases h:j < bl m
 ·rw [if_pos h]
 ·rw [if_neg h]
  have e:hv m j=0:=by
   have h1:=bl_end m
   rw [hv_eq,show j=bl m + (j - bl m) by omega,Nat.pow_add,← Nat.div_div_eq_div_mul,h1,Nat.zero_div]
  unfold nf mgF
  rw [e]; rfl
theorem merge_raw (l:Nat->Nat) (o:Nat->Nat) (m:Nat) (hm:m < 18446744073709551616):Sp P 55 [.ar .u8 64 (nf l),.ar .u8 64 (nf o),vu m] [] (.ar .u8 64 (mgA l o m (bl m))) [] :=
 so Tryz.f55 8 [] (.c [] (ones64_sp m) (.lp (bl m) 7 [] [] (fun i=>[(3,vn i)]) (fun i=>[(1,.blk [.ar .u8 64 (mgA l o m i)] 43),(4,.blk [vu (hv m i)] 44),(5,.lo .ready none)]) (fun i hi=>(.t (congrArg (!·) (show (decide (((hv m i:Nat):Int)=0))=false from decide_eq_false (by have:=hv_ne hi; omega))) (.cs 2 (decide (((hv m i % 2:Nat):Int)=1)) 7 [] [] (fun z=>[(8,vu (hv m i)),(9,vu (hv m i % 2)),(10,vt (decide (((hv m i % 2:Nat):Int)=1))),(11,vt (decide (((hv m i % 2:Nat):Int)=1))),(16,vt false),(17,vu (hv m i)),(18,vu (hv m (i + 1)))]) (fun z=>[(1,.blk [.ar .u8 64 (bif z then (upI (mgA l o m i) i ((o i:Nat):Int)) else (mgA l o m i))] 43),(4,.blk [vu (hv m (i + 1))] 44),(5,.lo .ready none)]) (fun hq1=>(.e 9 (uLow64 (hv m i) (hv_lt hm i)) (.t2 hq1 (.t hq1 (.ix (i:=i) (m:=64) (by have:=bl_le (n:=64) hm; omega) (.lt (i:=i) (n:=64) (by have:=bl_le (n:=64) hm; omega) (.ix (i:=i) (m:=64) (by have:=bl_le (n:=64) hm; omega) (.lt (i:=i) (n:=64) (by have:=bl_le (n:=64) hm; omega) (.t2 hq1 (.n (.e 18 (uHalf64 (hv m i)) .nil))))))))))) (fun hq1=>(.e 9 (uLow64 (hv m i) (hv_lt hm i)) (.t2 hq1 (.t2 hq1 (.t hq1 (.n (.e 18 (uHalf64 (hv m i)) .nil))))))) (.e 7 (aAdd (a:=((i:Nat):Int)) (b:=1) (c:=((i + 1:Nat):Int)) (by have:=bl_le (n:=64) hm; omega)) .nil)))) (.t (congrArg (!·) (show (decide (((hv m (bl m):Nat):Int)=0))=true from decide_eq_true (by rw [hv_end]; rfl))) .nil)))
theorem merge_sp (l o:Nat->Nat) (m:Nat) (hm:m < 18446744073709551616):Sp P 55 [.ar .u8 64 (nf l),.ar .u8 64 (nf o),vu m] [] (.ar .u8 64 (nf (mgF l o m))) [] :=
 (merge_raw l o m hm).resE (ar_den fun j hj=>mgA_eq l o m j) rfl rfl rfl
theorem full_sp (m:Nat) (hm:m < 18446744073709551616):Sp P 124 [vu m] [] (vt (decide (((wt m:Nat):Int)=64))) [] :=
 so Tryz.f124 3 [] (.c [] (weight64_sp m (by first | assumption | omega)) .nil)
def h8 (x:Nat):Nat->Nat
 | 0=>x
 | i + 1=>h8 x i / 256
theorem uSh8 (a:Nat):Value.int .u64 (((a:Nat):Int).fdiv (2 ^ 8))=.int .u64 ((a / 256:Nat):Int):=by
 rw [show ((a:Nat):Int).fdiv (2 ^ 8)=((a / 256:Nat):Int) by rw [Int.fdiv_eq_ediv_of_nonneg _ (by decide)]; rfl]
def lowL (x:Nat):Nat->List Nat
 | 0=>[]
 | i + 1=>lowL x i ++ [h8 x i % 256]
theorem lowL_len (x:Nat):∀ i,(lowL x i).length=i
 | 0=>rfl
 | i + 1=>by rw [lowL,List.length_append,lowL_len x i]; rfl
theorem lowL_B8 (x:Nat):∀ i,B8 (lowL x i)
 | 0=>.mem fun y hy=>by cases hy
 | i + 1=>(lowL_B8 x i).app (.mem fun y hy=>by rw [List.mem_singleton.1 hy]; exact Nat.mod_lt _ (by decide))
def nbF (l:List Nat):Nat->Nat
 | 0=>0
 | i + 1=>nbF l i ||| l.getD i 0 * 2 ^ (8 * i)
theorem nbF_lt {l:List Nat} (hl:B8 l):∀ i,i<=8->nbF l i < 18446744073709551616
 | 0,_=>(by decide:(0:Nat) < 18446744073709551616)
 | i + 1,h=>Nat.or_lt_two_pow (n:=64) (nbF_lt hl i (by omega)) (shlB _ i (hl _) (by omega))
theorem low_sp (x:Nat) :Sp P 248 [vu x] [] (.sl 0) [.row eB (lowL x 8)] :=
 so Tryz.f248 5 [.id 1] (.lp 8 2 [(1,.nil)] [(1,.id 3)] (fun i=>[(4,vn i),(0,vu (h8 x i)),(3,.sl 1)]) (fun i=>[(1,.row eB (lowL x i))]) (fun i hi=>(.t (show (decide (((i:Nat):Int) < 8))=true from decide_eq_true (by omega)) (.e 8 (cvU8 (h8 x i)) (.bs 9 (e:=eB) [h8 x i % 256] (.ap (e:=eB) (l:=lowL x i) (l':=[h8 x i % 256]) .row .row (by rw [lowL_len]; show i + 1<=_; omega) (.e 12 (uSh8 (h8 x i)) (.e 13 (aAdd (a:=((i:Nat):Int)) (b:=1) (c:=((i + 1:Nat):Int)) (by omega)) .nil))))))) (.n .nil))
theorem number_sp (l:List Nat) (h8:l.length<=8) (bl:B8 l):Sp P 313 [.sl 0] [.ro (.row eB l)] (vu (nbF l l.length)) [.ro (.row eB l)] :=
 so Tryz.f313 3 [.id 0] (.lp l.length 2 [] [] (fun i=>[(8,vn i),(3,vu (nbF l i))]) (fun i=>[]) (fun i hi=>(.t (show (decide (((i:Nat):Int) < ((l.length:Nat):Int)))=true from decide_eq_true (by omega)) (.ix (i:=i) (m:=l.length) (by omega) (.el (e:=eB) (gD (l:=l) (i:=i) (by omega)) (.e 15 (cvU64 (l.getD i 0) (Nat.lt_trans (bl _) (by decide))) (.e 17 (aMul (a:=8) (b:=((i:Nat):Int)) (c:=((8 * i:Nat):Int)) (by omega)) (.e 18 (cvU64 (8 * i) (by omega)) (.e 19 (shl64B (l.getD i 0) i (bl _) (by omega)) (.e 20 (bitsOr64 (nbF l i) (l.getD i 0 * 2 ^ (8 * i)) (nbF_lt bl i (by omega)) (shlB _ i (bl _) (by omega))) (.e 21 (aAdd (a:=((i:Nat):Int)) (b:=1) (c:=((i + 1:Nat):Int)) (by omega)) .nil)))))))))) (.t (show (decide (((l.length:Nat):Int) < ((l.length:Nat):Int)))=false from decide_eq_false (by omega)) .nil))
theorem flag_t  :Sp P 250 [vt true] [] (vn 1) [] :=
 so Tryz.f250 3 [] (.y .nil)
theorem flag_f  :Sp P 250 [vt false] [] (vn 0) [] :=
 so Tryz.f250 3 [] (.n .nil)
theorem flag_sp (b:Bool):Sp P 250 [vt b] [] (vn (bif b then 1 else 0)) []:=by
 cases b
 ·exact flag_f
 ·exact flag_t
def nu (n:Int):Nat:=(n % 8388608).toNat
theorem nu_lt (n:Int):nu n < 8388608:=by unfold nu; omega
theorem iLow23 (n:Int):Value.int .i64 (bits .and .i64 n 8388607)=.int .i64 ((nu n:Nat):Int):=by
 have e:bits .and .i64 n 8388607=IntKind.i64.wrap (((BitVec.ofInt 64 n &&& BitVec.ofInt 64 ((8388607:Nat):Int)).toNat:Nat):Int):=rfl
 have h2:(BitVec.ofInt 64 n).toNat &&& 8388607=nu n:=by
  have:=Nat.and_two_pow_sub_one_eq_mod (BitVec.ofInt 64 n).toNat 23
  rw [show (8388607:Nat)=2 ^ 23 - 1 from rfl,this,BitVec.toNat_ofInt]; unfold nu
  show (n % 18446744073709551616).toNat % 8388608=_; omega
 rw [e,BitVec.toNat_and,bvN (n:=64) (by decide),h2]
 exact aW ⟨by have:=nu_lt n; omega,by have:=nu_lt n; omega,rfl⟩
theorem u8I (x:Int):IntKind.u8.wrap x=x % 256:=by
 unfold IntKind.wrap
 simp only [IntKind.bits,IntKind.signed,Bool.false_and,Bool.false_eq_true,if_false]
 omega
theorem cvI8 (n:Int):Value.int .u8 (IntKind.u8.wrap n)=.int .u8 ((nu n % 256:Nat):Int):=by rw [u8I]; congr 1; unfold nu; omega
theorem cvI8a (n:Int):Value.int .u8 (IntKind.u8.wrap (n.fdiv (2 ^ 8)))=.int .u8 ((nu n / 2 ^ 8 % 256:Nat):Int):=by
 rw [u8I,Int.fdiv_eq_ediv_of_nonneg _ (by decide)]
 refine congrArg (Value.int .u8) ?_
 show n / 256 % 256=((nu n / 256 % 256:Nat):Int)
 unfold nu; omega
def nh (n:Int):Nat:=(n / 65536 % 256).toNat
theorem nh_lt (n:Int):nh n < 256:=by unfold nh; omega
theorem cvI8b (n:Int):Value.int .u8 (IntKind.u8.wrap (n.fdiv (2 ^ 16)))=.int .u8 ((nh n:Nat):Int):=by
 rw [u8I,Int.fdiv_eq_ediv_of_nonneg _ (by decide)]
 refine congrArg (Value.int .u8) ?_
 show n / 65536 % 256=((nh n:Nat):Int)
 unfold nh; omega
theorem cvU32 (n:Nat) (h:n < 4294967296):Value.int .u32 (IntKind.u32.wrap ((n:Nat):Int))=.int .u32 ((n:Nat):Int):=by rw [wU32 h]
theorem iSh (n k:Nat):Value.int .i64 (((n:Nat):Int).fdiv (2 ^ k))=.int .i64 ((n / 2 ^ k:Nat):Int):=by
 rw [Int.fdiv_eq_ediv_of_nonneg _ (by have:(0:Int) < 2 ^ k:=Int.pow_pos (by decide); omega)]
 congr 1
theorem low7 (x:Nat) (h:x < 256):Value.int .u8 (bits .and .u8 ((x:Nat):Int) 127)=.int .u8 ((x % 128:Nat):Int):=by
 have key:∀ a:_root_.Fin 256,bits .and .u8 ((a.1:Nat):Int) 127=((a.1 % 128:Nat):Int):=by decide +kernel
 rw [key ⟨x,h⟩]
def parF (n:Int):Nat:=wt (nu n) % 2
theorem parF_lt (n:Int):parF n < 2:=Nat.mod_lt _ (by decide)
def byF (n:Int) (j:Nat):Nat:=if j=0 then nu n % 256 else if j=1 then nu n / 256 % 256 else if j=2 then nh n % 128 else 0
def byA (n:Int):Nat->Int:=upI (upI (upI (fun _=>0) 0 ((nu n % 256:Nat):Int)) 1 ((nu n / 2 ^ 8 % 256:Nat):Int)) 2 ((nh n % 128:Nat):Int)
theorem byA_eq (n:Int):∀ j,j < 3->byA n j=nf (byF n) j
 | 0,_=>rfl
 | 1,_=>rfl
 | 2,_=>rfl
 | j + 3,h=>absurd h (by omega)
theorem byF_lt (n:Int) (j:Nat):byF n j < 256:=by unfold byF; split; omega; split; omega; split; omega; decide
theorem gparity_sp (n:Int) :Sp P 83 [vi n] [] (vn (parF n)) [] :=
 so Tryz.f83 3 [] (.e 4 (iLow23 n) (.e 5 (cvU32 (nu n) (Nat.lt_trans (nu_lt n) (by decide))) (.c [] (parity_sp (nu n) (Nat.lt_trans (nu_lt n) (by decide))) .nil)))
theorem gbytes_raw (n:Int) :Sp P 271 [vi n] [] (.ar .u8 3 (byA n)) [] :=
 so Tryz.f271 3 [] (.e 4 (cvI8 n) (.e 7 (cvI8a n) (.e 10 (cvI8b n) (.e 11 (low7 (nh n) (nh_lt n)) .nil))))
theorem gbytes_sp (n:Int):Sp P 271 [vi n] [] (.ar .u8 3 (nf (byF n))) []:=(gbytes_raw n).resE (ar_den (byA_eq n)) rfl rfl rfl
def viF (n:Int) (b:Bool) (j:Nat):Nat:=if j=2 then (bif b then byF n 2 ||| 128 else byF n 2) else byF n j
theorem viF_lt (n:Int) (b:Bool) (j:Nat):viF n b j < 256:=by
 unfold viF
 split
 ·cases b
  ·exact byF_lt _ _
  ·exact Nat.or_lt_two_pow (n:=8) (byF_lt _ _) (by decide)
 ·exact byF_lt _ _
theorem vi_t (n:Int):∀ j,j < 3->upI (nf (byF n)) 2 ((byF n 2 ||| 128:Nat):Int) j=nf (viF n true) j
 | 0,_=>rfl
 | 1,_=>rfl
 | 2,_=>rfl
 | j + 3,h=>absurd h (by omega)
theorem vi_f (n:Int):∀ j,j < 3->nf (byF n) j=nf (viF n false) j
 | 0,_=>rfl
 | 1,_=>rfl
 | 2,_=>rfl
 | j + 3,h=>absurd h (by omega)
theorem virtual_t (n:Int) :Sp P 251 [vi n,vt true] [] (.ar .u8 3 (upI (nf (byF n)) 2 ((byF n 2 ||| 128:Nat):Int))) [] :=
 so Tryz.f251 4 [] (.c [] (gbytes_sp n) (.y (.e 11 (bitsOr8 (byF n 2) 128 (byF_lt _ _) (by decide)) .nil)))
theorem virtual_f (n:Int) :Sp P 251 [vi n,vt false] [] (.ar .u8 3 (nf (byF n))) [] :=
 so Tryz.f251 4 [] (.c [] (gbytes_sp n) (.n .nil))
theorem virtual_sp (n:Int) (b:Bool):Sp P 251 [vi n,vt b] [] (.ar .u8 3 (nf (viF n b))) []:=by
 cases b
 ·exact (virtual_f n).resE (ar_den (vi_f n)) rfl rfl rfl
 ·exact (virtual_t n).resE (ar_den (vi_t n)) rfl rfl rfl
def eN:Enc Nat:=⟨fun a=>[vn a],3,1,fun a=>⟨rfl,rfl,rfl⟩⟩
theorem mxN (a b:Nat):Value.int .i64 (if ((b:Nat):Int) > ((a:Nat):Int) then ((b:Nat):Int) else ((a:Nat):Int))=.int .i64 ((max a b:Nat):Int):=by
 congr 1
 split <;> omega
def jk (l:List Nat):Nat->Nat
 | 0=>0
 | i + 1=>max (jk l i) (l.getD i 0)
def jf (l:List Nat):Nat->Nat
 | 0=>0
 | i + 1=>jf l i + (bif decide (((l.getD i 0:Nat):Int)=1) then 1 else 0)
theorem jf_le (l:List Nat):∀ i,jf l i<=i
 | 0=>Nat.le_refl _
 | i + 1=>by
   have:=jf_le l i
   rw [jf]
   cases decide (((l.getD i 0:Nat):Int)=1) <;> simp only [cond_true,cond_false] <;> omega
theorem jf_one (l:List Nat) (i:Nat):(bif decide (((l.getD i 0:Nat):Int)=1) then 1 else 0)<=1:=by cases decide (((l.getD i 0:Nat):Int)=1) <;> decide
def jfix (l:List Nat):Nat:=bif decide (((jk l l.length:Nat):Int)=1) then jf l l.length else 0
theorem join_sp (l:List Nat) (hl:l.length<=1000):Sp P 259 [.sl 0] [.ro (.row eN l)] (.ag [vn (jk l l.length),vn (jfix l)]) [.ro (.row eN l)] :=
 so Tryz.f259 6 [.id 0] (.lp l.length 4 [] [] (fun i=>[(8,vn i)]) (fun i=>[(3,.blk [vn (jk l i),vn (jf l i)] 96)]) (fun i hi=>(.t (show (decide (((i:Nat):Int) < ((l.length:Nat):Int)))=true from decide_eq_true (by omega)) (.ix (i:=i) (m:=l.length) (by omega) (.el (e:=eN) (gD (l:=l) (i:=i) (by omega)) (.e 15 (mxN (jk l i) (l.getD i 0)) (.c [] (flag_sp (decide (((l.getD i 0:Nat):Int)=1))) (.e 22 (aAdd (a:=((jf l i:Nat):Int)) (b:=((bif (decide (((l.getD i 0:Nat):Int)=1)) then 1 else 0:Nat):Int)) (c:=(((jf l i) + (bif (decide (((l.getD i 0:Nat):Int)=1)) then 1 else 0):Nat):Int)) (by have:=jf_le l i; have:=jf_one l i; omega)) (.e 24 (aAdd (a:=((i:Nat):Int)) (b:=1) (c:=((i + 1:Nat):Int)) (by omega)) .nil)))))))) (.t (show (decide (((l.length:Nat):Int) < ((l.length:Nat):Int)))=false from decide_eq_false (by omega)) (.cs 0 (decide (((jk l l.length:Nat):Int)=1)) 4 [] [] (fun z=>[]) (fun z=>[(3,.blk [vn (jk l l.length),vn (bif z then (jf l l.length) else 0)] 96)]) (fun hq1=>(.g hq1 .nil)) (fun hq1=>(.g hq1 .nil)) .nil)))
def putN (r:Nat->Nat) (o n:Nat) (g:Nat->Nat):Nat->Nat:=fun i=>if o<=i∧i < o + n then g (i - o) else r i
theorem putN_lt {r g:Nat->Nat} (hr:∀ j,r j < 256) (hg:∀ j,g j < 256) (o n j:Nat):putN r o n g j < 256:=by
 unfold putN; split; exact hg _; exact hr _
theorem putN_nf (r:Nat->Nat) (o n:Nat) (g:Nat->Nat):nf (putN r o n g)=upR (nf r) o n (nf g):=by
 funext i
 unfold nf putN upR
 by_cases h:o<=i∧i < o + n
 ·rw [if_pos h,if_pos h]
 ·rw [if_neg h,if_neg h]
theorem flat1 (k:IntKind) (n:Nat) (f:Nat->Int):V.flat ρN [.ar k n f]=arV k f n 0:=by simp only [V.flat,V.den,List.append_nil]; rfl
theorem cpN (m:Nat) (r:Nat->Nat) {o n:Nat} {l:List Nat} (hl:l.length=n) (h:o + n<=m):V.flat ρN [.ar .u8 m (nf (putN r o n (fun j=>l.getD j 0)))]=(V.flat ρN [.ar .u8 m (nf r)]).take o ++ eB.cs l ++ (V.flat ρN [.ar .u8 m (nf r)]).drop (o + l.length * eB.sz):=by
 rw [flat1,flat1,putN_nf,arV_upR .u8 (nf r) _ h,arV_cs (fun j=>l.getD j 0),arL_getD n 0 (by omega),List.drop_zero]
 show _=_ ++ _ ++ List.drop (o + l.length * 1) _
 rw [Nat.mul_one,hl]
def wordR (r:Nat->Nat) (o n:Nat):List Nat:=[] ++ arL (fun j=>r (o + j)) n 0
theorem wordR_len (r:Nat->Nat) (o n:Nat):(wordR r o n).length=n:=by unfold wordR; rw [List.nil_append,arL_len]
theorem wordR_B8 {r:Nat->Nat} (h:∀ j,r j < 256) (o n:Nat):B8 (wordR r o n):=by unfold wordR; rw [List.nil_append]; exact arL_B8 (fun j=>h _) _ _
theorem rright_1  :Sp P 133 [vn 1] [] (vt true) [] :=
 so Tryz.f133 3 [] (.y2 (.y .nil))
theorem chips_1  :Sp P 139 [vn 1] [] (vn 9) [] :=
 so Tryz.f139 3 [] (.y .nil)
theorem cwords_1  :Sp P 284 [vn 1] [] (vn 8) [] :=
 so Tryz.f284 3 [] (.c [] (rright_1) (.n (.c [] (chips_1) .nil)))
theorem put_1_0 (r:Nat->Nat) (l:List Nat) (hl:l.length=9):Sp P 247 [.ar .u8 72 (nf r),vn 1,vn 0,.sl 0] [.ro (.row eB l)] (.ar .u8 72 (nf (putN r 0 9 (fun j=>l.getD j 0)))) [.ro (.row eB l)] :=
 so Tryz.f247 4 [.id 0] (.c [] (chips_1) (.y2 (.y (.c [] (cwords_1) (.y4 (.y2 (.y (.t (show (decide (((l.length:Nat):Int)=9))=true from decide_eq_true (by rw [hl]; rfl)) (.sl (i:=0) (n:=72) (m:=72) (by decide) (.cp (xs:=l) (n:=72) .row (by omega) (cpN 72 r (o:=0) (n:=9) hl (by decide)) .nil))))))))))
theorem word_1_0 (r:Nat->Nat) :Sp P 290 [.ar .u8 72 (nf r),vn 1,vn 0] [] (.sl 0) [.row eB (wordR r 0 9)] :=
 so Tryz.f290 5 [.id 3] (.n2 (.n (.c [] (cwords_1) (.n2 (.n (.c [] (chips_1) (.bs 18 (e:=eB) [] (.sl (i:=0) (n:=9) (m:=72) (by decide) (.ap (e:=eB) (l:=[]) (l':=arL (fun j=>r (0 + j)) 9 0) .row (.flat [.ar .u8 9 (nf r)] _ (by have h:=ar_flat r 9; simpa only [Nat.zero_add] using h)) (by rw [arL_len]; decide) .nil)))))))))
theorem put_1_1 (r:Nat->Nat) (l:List Nat) (hl:l.length=9):Sp P 247 [.ar .u8 72 (nf r),vn 1,vn 1,.sl 0] [.ro (.row eB l)] (.ar .u8 72 (nf (putN r 9 9 (fun j=>l.getD j 0)))) [.ro (.row eB l)] :=
 so Tryz.f247 4 [.id 0] (.c [] (chips_1) (.y2 (.y (.c [] (cwords_1) (.y4 (.y2 (.y (.t (show (decide (((l.length:Nat):Int)=9))=true from decide_eq_true (by rw [hl]; rfl)) (.sl (i:=9) (n:=63) (m:=72) (by decide) (.cp (xs:=l) (n:=63) .row (by omega) (cpN 72 r (o:=9) (n:=9) hl (by decide)) .nil))))))))))
theorem word_1_1 (r:Nat->Nat) :Sp P 290 [.ar .u8 72 (nf r),vn 1,vn 1] [] (.sl 0) [.row eB (wordR r 9 9)] :=
 so Tryz.f290 5 [.id 3] (.n2 (.n (.c [] (cwords_1) (.n2 (.n (.c [] (chips_1) (.bs 18 (e:=eB) [] (.sl (i:=9) (n:=9) (m:=72) (by decide) (.ap (e:=eB) (l:=[]) (l':=arL (fun j=>r (9 + j)) 9 0) .row (.flat _ _ (ar_flat (fun j=>r (9 + j)) 9)) (by rw [arL_len]; decide) .nil)))))))))
theorem put_1_2 (r:Nat->Nat) (l:List Nat) (hl:l.length=9):Sp P 247 [.ar .u8 72 (nf r),vn 1,vn 2,.sl 0] [.ro (.row eB l)] (.ar .u8 72 (nf (putN r 18 9 (fun j=>l.getD j 0)))) [.ro (.row eB l)] :=
 so Tryz.f247 4 [.id 0] (.c [] (chips_1) (.y2 (.y (.c [] (cwords_1) (.y4 (.y2 (.y (.t (show (decide (((l.length:Nat):Int)=9))=true from decide_eq_true (by rw [hl]; rfl)) (.sl (i:=18) (n:=54) (m:=72) (by decide) (.cp (xs:=l) (n:=54) .row (by omega) (cpN 72 r (o:=18) (n:=9) hl (by decide)) .nil))))))))))
theorem word_1_2 (r:Nat->Nat) :Sp P 290 [.ar .u8 72 (nf r),vn 1,vn 2] [] (.sl 0) [.row eB (wordR r 18 9)] :=
 so Tryz.f290 5 [.id 3] (.n2 (.n (.c [] (cwords_1) (.n2 (.n (.c [] (chips_1) (.bs 18 (e:=eB) [] (.sl (i:=18) (n:=9) (m:=72) (by decide) (.ap (e:=eB) (l:=[]) (l':=arL (fun j=>r (18 + j)) 9 0) .row (.flat _ _ (ar_flat (fun j=>r (18 + j)) 9)) (by rw [arL_len]; decide) .nil)))))))))
theorem put_1_3 (r:Nat->Nat) (l:List Nat) (hl:l.length=9):Sp P 247 [.ar .u8 72 (nf r),vn 1,vn 3,.sl 0] [.ro (.row eB l)] (.ar .u8 72 (nf (putN r 27 9 (fun j=>l.getD j 0)))) [.ro (.row eB l)] :=
 so Tryz.f247 4 [.id 0] (.c [] (chips_1) (.y2 (.y (.c [] (cwords_1) (.y4 (.y2 (.y (.t (show (decide (((l.length:Nat):Int)=9))=true from decide_eq_true (by rw [hl]; rfl)) (.sl (i:=27) (n:=45) (m:=72) (by decide) (.cp (xs:=l) (n:=45) .row (by omega) (cpN 72 r (o:=27) (n:=9) hl (by decide)) .nil))))))))))
theorem word_1_3 (r:Nat->Nat) :Sp P 290 [.ar .u8 72 (nf r),vn 1,vn 3] [] (.sl 0) [.row eB (wordR r 27 9)] :=
 so Tryz.f290 5 [.id 3] (.n2 (.n (.c [] (cwords_1) (.n2 (.n (.c [] (chips_1) (.bs 18 (e:=eB) [] (.sl (i:=27) (n:=9) (m:=72) (by decide) (.ap (e:=eB) (l:=[]) (l':=arL (fun j=>r (27 + j)) 9 0) .row (.flat _ _ (ar_flat (fun j=>r (27 + j)) 9)) (by rw [arL_len]; decide) .nil)))))))))
theorem put_1_4 (r:Nat->Nat) (l:List Nat) (hl:l.length=9):Sp P 247 [.ar .u8 72 (nf r),vn 1,vn 4,.sl 0] [.ro (.row eB l)] (.ar .u8 72 (nf (putN r 36 9 (fun j=>l.getD j 0)))) [.ro (.row eB l)] :=
 so Tryz.f247 4 [.id 0] (.c [] (chips_1) (.y2 (.y (.c [] (cwords_1) (.y4 (.y2 (.y (.t (show (decide (((l.length:Nat):Int)=9))=true from decide_eq_true (by rw [hl]; rfl)) (.sl (i:=36) (n:=36) (m:=72) (by decide) (.cp (xs:=l) (n:=36) .row (by omega) (cpN 72 r (o:=36) (n:=9) hl (by decide)) .nil))))))))))
theorem word_1_4 (r:Nat->Nat) :Sp P 290 [.ar .u8 72 (nf r),vn 1,vn 4] [] (.sl 0) [.row eB (wordR r 36 9)] :=
 so Tryz.f290 5 [.id 3] (.n2 (.n (.c [] (cwords_1) (.n2 (.n (.c [] (chips_1) (.bs 18 (e:=eB) [] (.sl (i:=36) (n:=9) (m:=72) (by decide) (.ap (e:=eB) (l:=[]) (l':=arL (fun j=>r (36 + j)) 9 0) .row (.flat _ _ (ar_flat (fun j=>r (36 + j)) 9)) (by rw [arL_len]; decide) .nil)))))))))
theorem put_1_5 (r:Nat->Nat) (l:List Nat) (hl:l.length=9):Sp P 247 [.ar .u8 72 (nf r),vn 1,vn 5,.sl 0] [.ro (.row eB l)] (.ar .u8 72 (nf (putN r 45 9 (fun j=>l.getD j 0)))) [.ro (.row eB l)] :=
 so Tryz.f247 4 [.id 0] (.c [] (chips_1) (.y2 (.y (.c [] (cwords_1) (.y4 (.y2 (.y (.t (show (decide (((l.length:Nat):Int)=9))=true from decide_eq_true (by rw [hl]; rfl)) (.sl (i:=45) (n:=27) (m:=72) (by decide) (.cp (xs:=l) (n:=27) .row (by omega) (cpN 72 r (o:=45) (n:=9) hl (by decide)) .nil))))))))))
theorem word_1_5 (r:Nat->Nat) :Sp P 290 [.ar .u8 72 (nf r),vn 1,vn 5] [] (.sl 0) [.row eB (wordR r 45 9)] :=
 so Tryz.f290 5 [.id 3] (.n2 (.n (.c [] (cwords_1) (.n2 (.n (.c [] (chips_1) (.bs 18 (e:=eB) [] (.sl (i:=45) (n:=9) (m:=72) (by decide) (.ap (e:=eB) (l:=[]) (l':=arL (fun j=>r (45 + j)) 9 0) .row (.flat _ _ (ar_flat (fun j=>r (45 + j)) 9)) (by rw [arL_len]; decide) .nil)))))))))
theorem put_1_6 (r:Nat->Nat) (l:List Nat) (hl:l.length=9):Sp P 247 [.ar .u8 72 (nf r),vn 1,vn 6,.sl 0] [.ro (.row eB l)] (.ar .u8 72 (nf (putN r 54 9 (fun j=>l.getD j 0)))) [.ro (.row eB l)] :=
 so Tryz.f247 4 [.id 0] (.c [] (chips_1) (.y2 (.y (.c [] (cwords_1) (.y4 (.y2 (.y (.t (show (decide (((l.length:Nat):Int)=9))=true from decide_eq_true (by rw [hl]; rfl)) (.sl (i:=54) (n:=18) (m:=72) (by decide) (.cp (xs:=l) (n:=18) .row (by omega) (cpN 72 r (o:=54) (n:=9) hl (by decide)) .nil))))))))))
theorem word_1_6 (r:Nat->Nat) :Sp P 290 [.ar .u8 72 (nf r),vn 1,vn 6] [] (.sl 0) [.row eB (wordR r 54 9)] :=
 so Tryz.f290 5 [.id 3] (.n2 (.n (.c [] (cwords_1) (.n2 (.n (.c [] (chips_1) (.bs 18 (e:=eB) [] (.sl (i:=54) (n:=9) (m:=72) (by decide) (.ap (e:=eB) (l:=[]) (l':=arL (fun j=>r (54 + j)) 9 0) .row (.flat _ _ (ar_flat (fun j=>r (54 + j)) 9)) (by rw [arL_len]; decide) .nil)))))))))
theorem put_1_7 (r:Nat->Nat) (l:List Nat) (hl:l.length=9):Sp P 247 [.ar .u8 72 (nf r),vn 1,vn 7,.sl 0] [.ro (.row eB l)] (.ar .u8 72 (nf (putN r 63 9 (fun j=>l.getD j 0)))) [.ro (.row eB l)] :=
 so Tryz.f247 4 [.id 0] (.c [] (chips_1) (.y2 (.y (.c [] (cwords_1) (.y4 (.y2 (.y (.t (show (decide (((l.length:Nat):Int)=9))=true from decide_eq_true (by rw [hl]; rfl)) (.sl (i:=63) (n:=9) (m:=72) (by decide) (.cp (xs:=l) (n:=9) .row (by omega) (cpN 72 r (o:=63) (n:=9) hl (by decide)) .nil))))))))))
theorem word_1_7 (r:Nat->Nat) :Sp P 290 [.ar .u8 72 (nf r),vn 1,vn 7] [] (.sl 0) [.row eB (wordR r 63 9)] :=
 so Tryz.f290 5 [.id 3] (.n2 (.n (.c [] (cwords_1) (.n2 (.n (.c [] (chips_1) (.bs 18 (e:=eB) [] (.sl (i:=63) (n:=9) (m:=72) (by decide) (.ap (e:=eB) (l:=[]) (l':=arL (fun j=>r (63 + j)) 9 0) .row (.flat _ _ (ar_flat (fun j=>r (63 + j)) 9)) (by rw [arL_len]; decide) .nil)))))))))
theorem rright_2  :Sp P 133 [vn 2] [] (vt true) [] :=
 so Tryz.f133 3 [] (.n2 (.n .nil))
theorem chips_2  :Sp P 139 [vn 2] [] (vn 36) [] :=
 so Tryz.f139 3 [] (.n (.y .nil))
theorem cwords_2  :Sp P 284 [vn 2] [] (vn 2) [] :=
 so Tryz.f284 3 [] (.c [] (rright_2) (.n (.c [] (chips_2) .nil)))
theorem put_2_0 (r:Nat->Nat) (l:List Nat) (hl:l.length=36):Sp P 247 [.ar .u8 72 (nf r),vn 2,vn 0,.sl 0] [.ro (.row eB l)] (.ar .u8 72 (nf (putN r 0 36 (fun j=>l.getD j 0)))) [.ro (.row eB l)] :=
 so Tryz.f247 4 [.id 0] (.c [] (chips_2) (.y2 (.y (.c [] (cwords_2) (.y4 (.y2 (.y (.t (show (decide (((l.length:Nat):Int)=36))=true from decide_eq_true (by rw [hl]; rfl)) (.sl (i:=0) (n:=72) (m:=72) (by decide) (.cp (xs:=l) (n:=72) .row (by omega) (cpN 72 r (o:=0) (n:=36) hl (by decide)) .nil))))))))))
theorem word_2_0 (r:Nat->Nat) :Sp P 290 [.ar .u8 72 (nf r),vn 2,vn 0] [] (.sl 0) [.row eB (wordR r 0 36)] :=
 so Tryz.f290 5 [.id 3] (.n2 (.n (.c [] (cwords_2) (.n2 (.n (.c [] (chips_2) (.bs 18 (e:=eB) [] (.sl (i:=0) (n:=36) (m:=72) (by decide) (.ap (e:=eB) (l:=[]) (l':=arL (fun j=>r (0 + j)) 36 0) .row (.flat [.ar .u8 36 (nf r)] _ (by have h:=ar_flat r 36; simpa only [Nat.zero_add] using h)) (by rw [arL_len]; decide) .nil)))))))))
theorem put_2_1 (r:Nat->Nat) (l:List Nat) (hl:l.length=36):Sp P 247 [.ar .u8 72 (nf r),vn 2,vn 1,.sl 0] [.ro (.row eB l)] (.ar .u8 72 (nf (putN r 36 36 (fun j=>l.getD j 0)))) [.ro (.row eB l)] :=
 so Tryz.f247 4 [.id 0] (.c [] (chips_2) (.y2 (.y (.c [] (cwords_2) (.y4 (.y2 (.y (.t (show (decide (((l.length:Nat):Int)=36))=true from decide_eq_true (by rw [hl]; rfl)) (.sl (i:=36) (n:=36) (m:=72) (by decide) (.cp (xs:=l) (n:=36) .row (by omega) (cpN 72 r (o:=36) (n:=36) hl (by decide)) .nil))))))))))
theorem word_2_1 (r:Nat->Nat) :Sp P 290 [.ar .u8 72 (nf r),vn 2,vn 1] [] (.sl 0) [.row eB (wordR r 36 36)] :=
 so Tryz.f290 5 [.id 3] (.n2 (.n (.c [] (cwords_2) (.n2 (.n (.c [] (chips_2) (.bs 18 (e:=eB) [] (.sl (i:=36) (n:=36) (m:=72) (by decide) (.ap (e:=eB) (l:=[]) (l':=arL (fun j=>r (36 + j)) 36 0) .row (.flat _ _ (ar_flat (fun j=>r (36 + j)) 36)) (by rw [arL_len]; decide) .nil)))))))))
end Go.Proofs.YtfhiggfmkjmeiaaGreat
