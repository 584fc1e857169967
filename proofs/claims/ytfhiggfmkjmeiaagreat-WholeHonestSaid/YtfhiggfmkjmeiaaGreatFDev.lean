import Derived.Test.YtfhiggfmkjmeiaaGreatFInt
set_option linter.unusedVariables false
set_option linter.unusedSimpArgs false
set_option linter.unusedSectionVars false
namespace Go.Proofs.YtfhiggfmkjmeiaaGreat
open Go Go.RowKit
set_option maxRecDepth 100000
def dfF (a b:List Nat):Nat->Nat
 | 0=>0
 | i + 1=>dfF a b i + wt (xr (a.getD i 0) (b.getD i 0))
theorem dfF_le {a b:List Nat} (ha:B8 a) (hb:B8 b):∀ i,dfF a b i<=8 * i
 | 0=>Nat.le_refl _
 | i + 1=>by
   have:=dfF_le ha hb i
   have:=wt_le (n:=8) (xr_lt (ha i) (hb i))
   rw [dfF]; omega
def unF (a b:List Nat):Nat->Nat
 | 0=>0
 | i + 1=>bif decide (((a.getD i 0:Nat):Int)=((b.getD i 0:Nat):Int)) then unF a b i else unF a b i + 1
theorem unF_le (a b:List Nat):∀ i,unF a b i<=i
 | 0=>Nat.le_refl _
 | i + 1=>by
   have:=unF_le a b i
   rw [unF]; cases decide (((a.getD i 0:Nat):Int)=((b.getD i 0:Nat):Int)) <;> simp only [cond_true,cond_false] <;> omega
theorem differ_sp (a:List Nat) (b:List Nat) (hl:a.length=b.length) (h9:a.length<=100) (ba:B8 a) (bb:B8 b):Sp P 311 [.sl 0,.sl 1] [.ro (.row eB a),.ro (.row eB b)] (vn (dfF a b a.length)) [.ro (.row eB a),.ro (.row eB b)] :=
 so Tryz.f311 3 [.id 0,.id 1] (.t (show (decide (((b.length:Nat):Int) < ((a.length:Nat):Int)))=false from decide_eq_false (by omega)) (.e 19 (aSub (a:=((b.length:Nat):Int)) (b:=((a.length:Nat):Int)) (c:=0) (by omega)) (.lp a.length 3 [] [] (fun i=>[(23,vn i),(5,vn (dfF a b i))]) (fun i=>[]) (fun i hi=>(.t (show (decide (((i:Nat):Int) < ((a.length:Nat):Int)))=true from decide_eq_true (by omega)) (.ix (i:=i) (m:=a.length) (by omega) (.el (e:=eB) (gD (l:=a) (i:=i) (by omega)) (.ix (i:=i) (m:=b.length) (by omega) (.el (e:=eB) (gD (l:=b) (i:=i) (by omega)) (.e 34 (bXor (a.getD i 0) (b.getD i 0) (ba _) (bb _)) (.c [] (weight8_sp (xr (a.getD i 0) (b.getD i 0)) (xr_lt (ba i) (bb i))) (.e 36 (aAdd (a:=((dfF a b i:Nat):Int)) (b:=((wt (xr (a.getD i 0) (b.getD i 0)):Nat):Int)) (c:=(((dfF a b i) + (wt (xr (a.getD i 0) (b.getD i 0))):Nat):Int)) (by have:=dfF_le ba bb i; have:=wt_le (n:=8) (xr_lt (ba i) (bb i)); omega)) (.e 37 (aAdd (a:=((i:Nat):Int)) (b:=1) (c:=((i + 1:Nat):Int)) (by omega)) .nil)))))))))) (.t (show (decide (((a.length:Nat):Int) < ((a.length:Nat):Int)))=false from decide_eq_false (by omega)) .nil))))
theorem unlike_1 (a:List Nat) (b:List Nat) (hl:a.length=b.length) (h9:a.length<=100) (ba:B8 a) (bb:B8 b):Sp P 289 [vn 1,.sl 0,.sl 1] [.ro (.row eB a),.ro (.row eB b)] (vn (dfF a b a.length)) [.ro (.row eB a),.ro (.row eB b)] :=
 so Tryz.f289 3 [.id 0,.id 1] (.y (.c [.id 0,.id 1] (differ_sp a b (by first | assumption | omega) (by first | assumption | omega) (by first | assumption | omega) (by first | assumption | omega)) .nil))
theorem unlike_2 (a:List Nat) (b:List Nat) (hl:a.length=b.length) (h9:a.length<=100):Sp P 289 [vn 2,.sl 0,.sl 1] [.ro (.row eB a),.ro (.row eB b)] (vn (unF a b a.length)) [.ro (.row eB a),.ro (.row eB b)] :=
 so Tryz.f289 3 [.id 0,.id 1] (.n (.lp a.length 3 [] [] (fun i=>[(17,vn i),(7,vn (unF a b i))]) (fun i=>[]) (fun i hi=>(.t (show (decide (((i:Nat):Int) < ((a.length:Nat):Int)))=true from decide_eq_true (by omega)) (.ix (i:=i) (m:=a.length) (by omega) (.el (e:=eB) (gD (l:=a) (i:=i) (by omega)) (.ix (i:=i) (m:=b.length) (by omega) (.el (e:=eB) (gD (l:=b) (i:=i) (by omega)) (.cs 0 (decide (((a.getD i 0:Nat):Int)=((b.getD i 0:Nat):Int))) 3 [] [] (fun z=>[(7,vn (bif z then (unF a b i) else ((unF a b i) + 1)))]) (fun z=>[]) (fun hq1=>(.g hq1 .nil)) (fun hq1=>(.g hq1 (.e 29 (aAdd (a:=((unF a b i:Nat):Int)) (b:=1) (c:=(((unF a b i) + 1:Nat):Int)) (by have:=unF_le a b i; omega)) .nil))) (.e 30 (aAdd (a:=((i:Nat):Int)) (b:=1) (c:=((i + 1:Nat):Int)) (by omega)) .nil)))))))) (.t (show (decide (((a.length:Nat):Int) < ((a.length:Nat):Int)))=false from decide_eq_false (by omega)) .nil)))
def ex1 (r q:Nat->Nat):Nat->Nat
 | 0=>0
 | i + 1=>max (ex1 r q i) (dfF (wordR r (9 * i) 9) (wordR q (9 * i) 9) (wordR r (9 * i) 9).length)
theorem exposure_1 (r:Nat->Nat) (q:Nat->Nat) (hr:∀ j,r j < 256) (hq:∀ j,q j < 256):Sp P 256 [vn 1,.ar .u8 72 (nf r),.ar .u8 72 (nf q)] [] (vn (ex1 r q 8)) [] :=
 so Tryz.f256 28 [] (.c [] (cwords_1) (.lu 8 (.y (.c [] (word_1_0 r) (.c [] (word_1_0 q) (.c [.id 3,.id 4] (unlike_1 (wordR r 0 9) (wordR q 0 9) ((wordR_len _ _ _).trans (wordR_len _ _ _).symm) (by rw [wordR_len]; decide) (wordR_B8 hr _ _) (wordR_B8 hq _ _)) (.e 25 (mxN 0 (dfF (wordR r 0 9) (wordR q 0 9) (wordR r 0 9).length)) (.y (.c [] (word_1_1 r) (.c [] (word_1_1 q) (.c [.id 6,.id 7] (unlike_1 (wordR r 9 9) (wordR q 9 9) ((wordR_len _ _ _).trans (wordR_len _ _ _).symm) (by rw [wordR_len]; decide) (wordR_B8 hr _ _) (wordR_B8 hq _ _)) (.e 25 (mxN (ex1 r q 1) (dfF (wordR r 9 9) (wordR q 9 9) (wordR r 9 9).length)) (.y (.c [] (word_1_2 r) (.c [] (word_1_2 q) (.c [.id 9,.id 10] (unlike_1 (wordR r 18 9) (wordR q 18 9) ((wordR_len _ _ _).trans (wordR_len _ _ _).symm) (by rw [wordR_len]; decide) (wordR_B8 hr _ _) (wordR_B8 hq _ _)) (.e 25 (mxN (ex1 r q 2) (dfF (wordR r 18 9) (wordR q 18 9) (wordR r 18 9).length)) (.y (.c [] (word_1_3 r) (.c [] (word_1_3 q) (.c [.id 12,.id 13] (unlike_1 (wordR r 27 9) (wordR q 27 9) ((wordR_len _ _ _).trans (wordR_len _ _ _).symm) (by rw [wordR_len]; decide) (wordR_B8 hr _ _) (wordR_B8 hq _ _)) (.e 25 (mxN (ex1 r q 3) (dfF (wordR r 27 9) (wordR q 27 9) (wordR r 27 9).length)) (.y (.c [] (word_1_4 r) (.c [] (word_1_4 q) (.c [.id 15,.id 16] (unlike_1 (wordR r 36 9) (wordR q 36 9) ((wordR_len _ _ _).trans (wordR_len _ _ _).symm) (by rw [wordR_len]; decide) (wordR_B8 hr _ _) (wordR_B8 hq _ _)) (.e 25 (mxN (ex1 r q 4) (dfF (wordR r 36 9) (wordR q 36 9) (wordR r 36 9).length)) (.y (.c [] (word_1_5 r) (.c [] (word_1_5 q) (.c [.id 18,.id 19] (unlike_1 (wordR r 45 9) (wordR q 45 9) ((wordR_len _ _ _).trans (wordR_len _ _ _).symm) (by rw [wordR_len]; decide) (wordR_B8 hr _ _) (wordR_B8 hq _ _)) (.e 25 (mxN (ex1 r q 5) (dfF (wordR r 45 9) (wordR q 45 9) (wordR r 45 9).length)) (.y (.c [] (word_1_6 r) (.c [] (word_1_6 q) (.c [.id 21,.id 22] (unlike_1 (wordR r 54 9) (wordR q 54 9) ((wordR_len _ _ _).trans (wordR_len _ _ _).symm) (by rw [wordR_len]; decide) (wordR_B8 hr _ _) (wordR_B8 hq _ _)) (.e 25 (mxN (ex1 r q 6) (dfF (wordR r 54 9) (wordR q 54 9) (wordR r 54 9).length)) (.y (.c [] (word_1_7 r) (.c [] (word_1_7 q) (.c [.id 24,.id 25] (unlike_1 (wordR r 63 9) (wordR q 63 9) ((wordR_len _ _ _).trans (wordR_len _ _ _).symm) (by rw [wordR_len]; decide) (wordR_B8 hr _ _) (wordR_B8 hq _ _)) (.e 25 (mxN (ex1 r q 7) (dfF (wordR r 63 9) (wordR q 63 9) (wordR r 63 9).length)) (.n .nil)))))))))))))))))))))))))))))))))))))))))))
def ex2 (r q:Nat->Nat):Nat->Nat
 | 0=>0
 | i + 1=>max (ex2 r q i) (unF (wordR r (36 * i) 36) (wordR q (36 * i) 36) (wordR r (36 * i) 36).length)
theorem exposure_2 (r:Nat->Nat) (q:Nat->Nat) (hr:∀ j,r j < 256) (hq:∀ j,q j < 256):Sp P 256 [vn 2,.ar .u8 72 (nf r),.ar .u8 72 (nf q)] [] (vn (ex2 r q 2)) [] :=
 so Tryz.f256 10 [] (.c [] (cwords_2) (.lu 2 (.y (.c [] (word_2_0 r) (.c [] (word_2_0 q) (.c [.id 3,.id 4] (unlike_2 (wordR r 0 36) (wordR q 0 36) ((wordR_len _ _ _).trans (wordR_len _ _ _).symm) (by rw [wordR_len]; decide)) (.e 25 (mxN 0 (unF (wordR r 0 36) (wordR q 0 36) (wordR r 0 36).length)) (.y (.c [] (word_2_1 r) (.c [] (word_2_1 q) (.c [.id 6,.id 7] (unlike_2 (wordR r 36 36) (wordR q 36 36) ((wordR_len _ _ _).trans (wordR_len _ _ _).symm) (by rw [wordR_len]; decide)) (.e 25 (mxN (ex2 r q 1) (unF (wordR r 36 36) (wordR q 36 36) (wordR r 36 36).length)) (.n .nil)))))))))))))
def chN (m:Int):Nat:=bif decide (m=1) then 9 else 36
structure DramOk (s:DramS):Prop where
 md:s.mode=1 ∨ s.mode=2
 c:∀ k j,s.c k j < 256
 la:∀ f ∈ s.la,f.ok (chN s.mode)
 ll:s.la.length<=256
 cl:s.co.length<=256
theorem cT {c a:Bool} (h:(bif c then a else false)=true):c=true∧a=true:=by cases c; cases h; exact ⟨rfl,h⟩
theorem fbel_t {i n:Int} (h:fbel_v0 i n=true):0<=i∧i < n:=by
 unfold fbel_v0 at h; obtain ⟨h1,h2⟩:=cT h; exact ⟨of_decide_eq_true h1,of_decide_eq_true h2⟩
theorem fright1_t {f:Flt} {g:Gm} (h:fright1_v0 f g=true):(1<=f.kind∧f.kind<=7)∧g.holds ⟨f.rank,f.bank,f.row,f.col⟩=true∧(0<=f.bit∧f.bit < 576)∧(0<=f.chip∧f.chip < 9)∧(0<=f.value∧f.value < 256)∧(f.kind=2->f.value < 2):=by
 unfold fright1_v0 at h
 cases q:decide (f.kind=2) with
 | true =>
   rw [cpos q] at h
   obtain ⟨h1,h⟩:=cT h; obtain ⟨h2,h⟩:=cT h; obtain ⟨h3,h⟩:=cT h; obtain ⟨h4,h⟩:=cT h; obtain ⟨h5,h⟩:=cT h; obtain ⟨h6,h⟩:=cT h
   have h:=fbel_t h
   exact ⟨⟨of_decide_eq_true h1,of_decide_eq_true h2⟩,h4,fbel_t h5,fbel_t h6,⟨h.1,by omega⟩,fun _=>h.2⟩
 | false =>
   rw [cneg q] at h
   obtain ⟨h1,h⟩:=cT h; obtain ⟨h2,h⟩:=cT h; obtain ⟨h3,h⟩:=cT h; obtain ⟨h4,h⟩:=cT h; obtain ⟨h5,h⟩:=cT h; obtain ⟨h6,h⟩:=cT h
   exact ⟨⟨of_decide_eq_true h1,of_decide_eq_true h2⟩,h4,fbel_t h5,fbel_t h6,fbel_t h,fun e=>absurd e (of_decide_eq_false q)⟩
theorem fright2_t {f:Flt} {g:Gm} (h:fright2_v0 f g=true):(1<=f.kind∧f.kind<=7)∧g.holds ⟨f.rank,f.bank,f.row,f.col⟩=true∧(0<=f.bit∧f.bit < 576)∧(0<=f.chip∧f.chip < 36)∧(0<=f.value∧f.value < 256)∧(f.kind=2->f.value < 2):=by
 unfold fright2_v0 at h
 cases q:decide (f.kind=2) with
 | true =>
   rw [cpos q] at h
   obtain ⟨h1,h⟩:=cT h; obtain ⟨h2,h⟩:=cT h; obtain ⟨h3,h⟩:=cT h; obtain ⟨h4,h⟩:=cT h; obtain ⟨h5,h⟩:=cT h; obtain ⟨h6,h⟩:=cT h
   have h:=fbel_t h
   exact ⟨⟨of_decide_eq_true h1,of_decide_eq_true h2⟩,h4,fbel_t h5,fbel_t h6,⟨h.1,by omega⟩,fun _=>h.2⟩
 | false =>
   rw [cneg q] at h
   obtain ⟨h1,h⟩:=cT h; obtain ⟨h2,h⟩:=cT h; obtain ⟨h3,h⟩:=cT h; obtain ⟨h4,h⟩:=cT h; obtain ⟨h5,h⟩:=cT h; obtain ⟨h6,h⟩:=cT h
   exact ⟨⟨of_decide_eq_true h1,of_decide_eq_true h2⟩,h4,fbel_t h5,fbel_t h6,fbel_t h,fun e=>absurd e (of_decide_eq_false q)⟩
def fright_v0 (m:Int) (f:Flt) (g:Gm):Bool:=bif decide (m=1) then (fright1_v0 f g) else (fright2_v0 f g)
theorem fright (m:Int) (f:Flt) (g:Gm) (hm:m=1 ∨ m=2) :Sp P 69 [.ag [vi f.kind,vi f.rank,vi f.bank,vi f.row,vi f.col,vi f.chip,vi f.bit,vi f.value],.ag [vi g.ranks,vi g.spares,vi g.banks,vi g.rows,vi g.cols],vi m] [] (vt (fright_v0 m f g)) []:=by
 rcases hm with rfl | rfl
 ·simp only [fright_v0,show decide ((1:Int)=1)=true from rfl,cond_true]; exact Eq.mp (by kernel_rfl) (fright1 f g )
 ·simp only [fright_v0,show decide ((2:Int)=1)=false from rfl,cond_false]; exact Eq.mp (by kernel_rfl) (fright2 f g )
def overlay_v0 (m:Int) (l:List FltN) (x:Pl) (r:Nat->Nat):Nat->Nat:=bif decide (m=1) then (ov1 l x r l.length) else (ov2 l x r l.length)
theorem overlay (m:Int) (l:List FltN) (x:Pl) (r:Nat->Nat) (hm:m=1 ∨ m=2) (hl:l.length<=2147483648) (hr:∀ j,r j < 256) (ho:∀ f ∈ l,f.ok (chN m)):Sp P 112 [.sl 0,vi m,.ag [vi x.rank,vi x.bank,vi x.row,vi x.col],.ar .u8 72 (nf r)] [.ro (.row eF l)] (.ar .u8 72 (nf (overlay_v0 m l x r))) [.ro (.row eF l)]:=by
 rcases hm with rfl | rfl
 ·simp only [overlay_v0,show decide ((1:Int)=1)=true from rfl,cond_true]; exact Eq.mp (by kernel_rfl) (overlay1 l x r hl hr ho)
 ·simp only [overlay_v0,show decide ((2:Int)=1)=false from rfl,cond_false]; exact Eq.mp (by kernel_rfl) (overlay2 l x r hl hr ho)
theorem overlay_lt {m:Int} (hm:m=1 ∨ m=2) {l:List FltN} {x:Pl} {r:Nat->Nat} (hr:∀ j,r j < 256) (ho:∀ f ∈ l,f.ok (chN m)) (j:Nat):overlay_v0 m l x r j < 256:=by
 rcases hm with rfl | rfl
 ·exact ov1_lt hr ho l.length (Nat.le_refl _) j
 ·exact ov2_lt hr ho l.length (Nat.le_refl _) j
theorem fright_t {m:Int} (hm:m=1 ∨ m=2) {f:Flt} {g:Gm} (h:fright_v0 m f g=true):(1<=f.kind∧f.kind<=7)∧g.holds ⟨f.rank,f.bank,f.row,f.col⟩=true∧(0<=f.bit∧f.bit < 576)∧(0<=f.chip∧f.chip < chN m)∧(0<=f.value∧f.value < 256)∧(f.kind=2->f.value < 2):=by
 rcases hm with rfl | rfl
 ·exact fright1_t h
 ·exact fright2_t h
def FltN.flt (f:FltN):Flt:=⟨f.kind,f.rank,f.bank,f.row,f.col,f.chip,f.bit,f.value⟩
def Flt.n (f:Flt):FltN:=⟨f.kind,f.rank,f.bank,f.row,f.col,f.chip.toNat,f.bit.toNat,f.value.toNat⟩
theorem FltN.okR {m:Int} (hm:m=1 ∨ m=2) {f:FltN} {g:Gm} (h:fright_v0 m f.flt g=true):f.ok (chN m):=by
 obtain ⟨h1,h2,h3,h4,h5,h6⟩:=fright_t hm h
 refine ⟨Int.ofNat_lt.1 h4.2,?_,?_,fun hk=>?_⟩
 ·have:((f.bit:Nat):Int) < 576:=h3.2
  omega
 ·have:((f.value:Nat):Int) < 256:=h5.2
  omega
 ·have:((f.value:Nat):Int) < 2:=h6 hk
  omega
theorem dGeom (s:DramS) :Sp P 115 [.pt 0 0] (ros (bDram s 0)) (.ag [vi s.g.ranks,vi s.g.spares,vi s.g.banks,vi s.g.rows,vi s.g.cols]) (ros (bDram s 0)) :=
 so Tryz.f115 3 (ir 0 4) .nil
theorem dMode (s:DramS) :Sp P 116 [.pt 0 0] (ros (bDram s 0)) (vi s.mode) (ros (bDram s 0)) :=
 so Tryz.f116 3 (ir 0 4) .nil
def dLook_v0 (s:DramS) (i:Int):Nat->Nat:=bif decide (s.g.atE i=0) then (overlay_v0 s.mode s.la (s.g.at i) (s.c i)) else (fun _=>0)
def dLook_v1 (s:DramS) (i:Int):Int:=bif decide (s.g.atE i=0) then 0 else (s.g.atE i)
theorem dLook (s:DramS) (i:Int) (ok:DramOk s):Sp P 42 [.pt 0 0,vi i] (ros (bDram s 0)) (.tu [.ar .u8 72 (nf (dLook_v0 s i)),vi (dLook_v1 s i)]) (ros (bDram s 0)):=by
 generalize d0:dLook_v0 s i=yd0
 unfold dLook_v0 at d0
 generalize d1:dLook_v1 s i=yd1
 unfold dLook_v1 at d1
 rcases bft (decide (s.g.atE i=0)) with q1 | q1
 ·rw [cpos q1] at d0
  rw [cpos q1] at d1
  subst d0 d1
  exact so Tryz.f42 6 (ir 0 4) (.c [] (gat_sp s.g i) (.g q1 (.c [.id 2] (overlay s.mode s.la (s.g.at i) (s.c i) ok.md (Nat.le_trans ok.ll (by decide)) (ok.c _) ok.la) .nil)))
 ·rw [cneg q1] at d0
  rw [cneg q1] at d1
  subst d0 d1
  exact so Tryz.f42 4 (ir 0 4) (.c [] (gat_sp s.g i) (.g q1 .nil))
theorem fclone_cons (x:FltN) (l:List FltN) (hl:(x :: l).length<=65536):Sp P 310 [.sl 0] [.ro (.row eF (x :: l))] (.sl 1) [.ro (.row eF (x :: l)),.row eF (x :: l)] :=
 so Tryz.f310 4 [.id 0,.id 3] (.n (.bs 5 (e:=eF) [] (.ap (e:=eF) (l:=[]) (l':=x :: l) .row .row (by simp only [List.length_nil,List.length_cons] at *; omega) .nil)))
theorem fclone_some (a:Addr) (c:Nat) :Sp P 310 [.v (.slice (some a) 0 c)] [.ro (.row eF [])] (.sl 1) [.ro (.row eF []),.row eF []] :=
 so Tryz.f310 4 [.id 0,.id 3] (.n (.bs 5 (e:=eF) [] (.ap (e:=eF) (l:=[]) (l':=[]) .row (.flat [] [] rfl) (by decide) .nil)))
theorem fclone_nil  :Sp P 310 [nilS] [.ro (.row eF [])] (.sl 1) [.ro (.row eF []),.row eF []] :=
 so Tryz.f310 3 [.id 0,.nil] (.y .nil)
theorem fclone (l:List FltN) (hl:l.length<=65536):Sp P 310 [.sl 0] [.ro (.row eF l)] (.sl 1) [.ro (.row eF l),.row eF l]:=by
 cases l with
 | cons x l=>exact fclone_cons x l hl
 | nil =>
   have hA:=fclone_nil
   refine ⟨⟨rfl,rfl⟩,hA.ln,hA.fr,hA.rs,hA.ro,fun ρ M w h=>?_⟩
   obtain ⟨h1,h2,h3,h4⟩:=h.row (g:=0) rfl rfl
   cases ha:(ρ 0).a with
   | none =>
     cases hea:(ρ 0).ea with
     | none =>
       have e:V.dens ρ [V.sl 0]=V.dens ρ [nilS]:=by simp only [V.dens,V.den,Loc.slv_none ha,Loc.emp,hea]
       rw [e]; exact hA.out ρ M w h
     | some A =>
       have e:V.dens ρ [V.sl 0]=V.dens ρ [V.v (.slice (some A) 0 (ρ 0).ec)]:=by simp only [V.dens,V.den,Loc.slv_none ha,Loc.emp,hea]
       rw [e]; exact (fclone_some _ _).out ρ M w h
   | some a =>
     have e:V.dens ρ [V.sl 0]=V.dens ρ [V.v (.slice (some ((ρ 0).adr 0)) 0 (ρ 0).cap)]:=by simp only [V.dens,V.den,slv_some ha,h1,List.length_nil]
     rw [e]; exact (fclone_some _ _).out ρ M w h
theorem dadd_full (l:List FltN) (f:FltN) (h:decide (256<=((l.length:Nat):Int))=true):Sp P 181 [.sl 0,.ag [vi f.kind,vi f.rank,vi f.bank,vi f.row,vi f.col,vn f.chip,vn f.bit,vn f.value]] [.ro (.row eF l)] (.tu [.sl 0,vn 14]) [.ro (.row eF l)] :=
 so Tryz.f181 3 [.id 0] (.t h .nil)
theorem dadd_la (l:List FltN) (f:FltN) (g:Gm) (m:Int) (h:decide (256<=((l.length:Nat):Int))=false):Sp P 181 [.sl 0,.ag [vi f.kind,vi f.rank,vi f.bank,vi f.row,vi f.col,vn f.chip,vn f.bit,vn f.value]] [.row eF l,.blk [vi g.ranks,vi g.spares,vi g.banks,vi g.rows,vi g.cols,vi m,.mp 2,.sl 0,.sl 3] 208,.ro (.gone),.ro (.gone)] (.tu [.sl 4,vn 0]) [.gone,.blk [vi g.ranks,vi g.spares,vi g.banks,vi g.rows,vi g.cols,vi m,.mp 2,.sl 0,.sl 3] 208,.ro (.gone),.ro (.gone),.row eF (l ++ [f])] :=
 so Tryz.f181 5 (ir 0 4 ++ .id 7 :: []) (.t h (.ap (e:=eF) (l:=l) (l':=[f]) .row (.flat [vi f.kind,vi f.rank,vi f.bank,vi f.row,vi f.col,vn f.chip,vn f.bit,vn f.value] [f] rfl) (by have:=of_decide_eq_false h; simp only [List.length_cons,List.length_nil]; omega) .nil))
theorem dadd_co (l:List FltN) (f:FltN) (g:Gm) (m:Int) (h:decide (256<=((l.length:Nat):Int))=false):Sp P 181 [.sl 0,.ag [vi f.kind,vi f.rank,vi f.bank,vi f.row,vi f.col,vn f.chip,vn f.bit,vn f.value]] [.row eF l,.blk [vi g.ranks,vi g.spares,vi g.banks,vi g.rows,vi g.cols,vi m,.mp 2,.sl 3,.sl 0] 208,.ro (.gone),.ro (.gone)] (.tu [.sl 4,vn 0]) [.gone,.blk [vi g.ranks,vi g.spares,vi g.banks,vi g.rows,vi g.cols,vi m,.mp 2,.sl 3,.sl 0] 208,.ro (.gone),.ro (.gone),.row eF (l ++ [f])] :=
 so Tryz.f181 5 (ir 0 4 ++ .id 7 :: []) (.t h (.ap (e:=eF) (l:=l) (l':=[f]) .row (.flat [vi f.kind,vi f.rank,vi f.bank,vi f.row,vi f.col,vn f.chip,vn f.bit,vn f.value] [f] rfl) (by have:=of_decide_eq_false h; simp only [List.length_cons,List.length_nil]; omega) .nil))
def dInjectN_s (s:DramS) (f:FltN):DramS:=bif decide (f.kind=1) then { s with c:=upZ s.c (s.g.ix (⟨f.rank,f.bank,f.row,f.col⟩:Pl)) (flpF (s.c (s.g.ix (⟨f.rank,f.bank,f.row,f.col⟩:Pl))) f.bit) } else (bif (lasts_v0 (⟨f.kind,f.rank,f.bank,f.row,f.col,((f.chip:Nat):Int),((f.bit:Nat):Int),((f.value:Nat):Int)⟩:Flt)) then (bif decide (256<=((s.la.length:Nat):Int)) then s else { s with la:=s.la ++ [f] }) else (bif decide (256<=((s.co.length:Nat):Int)) then s else { s with co:=s.co ++ [f] }))
def dInjectN_v0 (s:DramS) (f:FltN):Int:=bif decide (f.kind=1) then (s.g.ixE (⟨f.rank,f.bank,f.row,f.col⟩:Pl)) else (bif (lasts_v0 (⟨f.kind,f.rank,f.bank,f.row,f.col,((f.chip:Nat):Int),((f.bit:Nat):Int),((f.value:Nat):Int)⟩:Flt)) then (bif decide (256<=((s.la.length:Nat):Int)) then 14 else 0) else (bif decide (256<=((s.co.length:Nat):Int)) then 14 else 0))
theorem dInjectN (s:DramS) (f:FltN) (ok:DramOk s) (hf:fright_v0 s.mode f.flt s.g=true):Sp P 109 [.pt 0 0,.ag [vi f.kind,vi f.rank,vi f.bank,vi f.row,vi f.col,vn f.chip,vn f.bit,vn f.value]] (bDram s 0) (vi (dInjectN_v0 s f)) (bDram (dInjectN_s s f) 0):=by
 generalize d0:dInjectN_s s f=yd0
 unfold dInjectN_s at d0
 generalize d1:dInjectN_v0 s f=yd1
 unfold dInjectN_v0 at d1
 rcases bft (decide (f.kind=1)) with q1 | q1
 ·rw [cpos q1] at d0
  rw [cpos q1] at d1
  subst d0 d1
  exact so Tryz.f109 7 (ir 0 4) (.c [] (fright s.mode (⟨f.kind,f.rank,f.bank,f.row,f.col,((f.chip:Nat):Int),((f.bit:Nat):Int),((f.value:Nat):Int)⟩:Flt) s.g ok.md) (.t (congrArg (!·) (show (fright_v0 s.mode (⟨f.kind,f.rank,f.bank,f.row,f.col,((f.chip:Nat):Int),((f.bit:Nat):Int),((f.value:Nat):Int)⟩:Flt) s.g)=true from hf)) (.t q1 (.c [] (gindex_sp s.g (⟨f.rank,f.bank,f.row,f.col⟩:Pl)) (.c [] (flip_sp (s.c (s.g.ix (⟨f.rank,f.bank,f.row,f.col⟩:Pl))) f.bit (ok.c _) ((FltN.okR ok.md hf).2.1)) (.mu (mpB_up s.c (s.g.ix (⟨f.rank,f.bank,f.row,f.col⟩:Pl)) (flpF (s.c (s.g.ix (⟨f.rank,f.bank,f.row,f.col⟩:Pl))) f.bit)) .nil))))))
 ·rw [cneg q1] at d0
  rw [cneg q1] at d1
  have q1':=of_decide_eq_false q1
  rcases bft (lasts_v0 (⟨f.kind,f.rank,f.bank,f.row,f.col,((f.chip:Nat):Int),((f.bit:Nat):Int),((f.value:Nat):Int)⟩:Flt)) with q2 | q2
  ·rw [cpos q2] at d0
   rw [cpos q2] at d1
   rcases bft (decide (256<=((s.la.length:Nat):Int))) with q3 | q3
   ·rw [cpos q3] at d0
    rw [cpos q3] at d1
    have q3':=of_decide_eq_true q3
    subst d0 d1
    exact so Tryz.f109 6 (ir 0 4) (.c [] (fright s.mode (⟨f.kind,f.rank,f.bank,f.row,f.col,((f.chip:Nat):Int),((f.bit:Nat):Int),((f.value:Nat):Int)⟩:Flt) s.g ok.md) (.t (congrArg (!·) (show (fright_v0 s.mode (⟨f.kind,f.rank,f.bank,f.row,f.col,((f.chip:Nat):Int),((f.bit:Nat):Int),((f.value:Nat):Int)⟩:Flt) s.g)=true from hf)) (.t q1 (.c [] (lasts (⟨f.kind,f.rank,f.bank,f.row,f.col,((f.chip:Nat):Int),((f.bit:Nat):Int),((f.value:Nat):Int)⟩:Flt)) (.t q2 (.c [.id 2] (dadd_full s.la f (by first | assumption | omega)) .nil))))))
   ·rw [cneg q3] at d0
    rw [cneg q3] at d1
    have q3':=of_decide_eq_false q3
    subst d0 d1
    exact so Tryz.f109 6 [.id 0,.id 1,.id 7,.id 3] (.c [] (fright s.mode (⟨f.kind,f.rank,f.bank,f.row,f.col,((f.chip:Nat):Int),((f.bit:Nat):Int),((f.value:Nat):Int)⟩:Flt) s.g ok.md) (.t (congrArg (!·) (show (fright_v0 s.mode (⟨f.kind,f.rank,f.bank,f.row,f.col,((f.chip:Nat):Int),((f.bit:Nat):Int),((f.value:Nat):Int)⟩:Flt) s.g)=true from hf)) (.t q1 (.c [] (lasts (⟨f.kind,f.rank,f.bank,f.row,f.col,((f.chip:Nat):Int),((f.bit:Nat):Int),((f.value:Nat):Int)⟩:Flt)) (.t q2 (.c [.id 2,.id 0,.id 1,.id 3] (dadd_la s.la f s.g s.mode (by first | assumption | omega)) .nil))))))
  ·rw [cneg q2] at d0
   rw [cneg q2] at d1
   rcases bft (decide (256<=((s.co.length:Nat):Int))) with q3 | q3
   ·rw [cpos q3] at d0
    rw [cpos q3] at d1
    have q3':=of_decide_eq_true q3
    subst d0 d1
    exact so Tryz.f109 6 (ir 0 4) (.c [] (fright s.mode (⟨f.kind,f.rank,f.bank,f.row,f.col,((f.chip:Nat):Int),((f.bit:Nat):Int),((f.value:Nat):Int)⟩:Flt) s.g ok.md) (.t (congrArg (!·) (show (fright_v0 s.mode (⟨f.kind,f.rank,f.bank,f.row,f.col,((f.chip:Nat):Int),((f.bit:Nat):Int),((f.value:Nat):Int)⟩:Flt) s.g)=true from hf)) (.t q1 (.c [] (lasts (⟨f.kind,f.rank,f.bank,f.row,f.col,((f.chip:Nat):Int),((f.bit:Nat):Int),((f.value:Nat):Int)⟩:Flt)) (.t q2 (.c [.id 3] (dadd_full s.co f (by first | assumption | omega)) .nil))))))
   ·rw [cneg q3] at d0
    rw [cneg q3] at d1
    have q3':=of_decide_eq_false q3
    subst d0 d1
    exact so Tryz.f109 6 (ir 0 3 ++ .id 7 :: []) (.c [] (fright s.mode (⟨f.kind,f.rank,f.bank,f.row,f.col,((f.chip:Nat):Int),((f.bit:Nat):Int),((f.value:Nat):Int)⟩:Flt) s.g ok.md) (.t (congrArg (!·) (show (fright_v0 s.mode (⟨f.kind,f.rank,f.bank,f.row,f.col,((f.chip:Nat):Int),((f.bit:Nat):Int),((f.value:Nat):Int)⟩:Flt) s.g)=true from hf)) (.t q1 (.c [] (lasts (⟨f.kind,f.rank,f.bank,f.row,f.col,((f.chip:Nat):Int),((f.bit:Nat):Int),((f.value:Nat):Int)⟩:Flt)) (.t q2 (.c (.id 3 :: ir 0 3) (dadd_co s.co f s.g s.mode (by first | assumption | omega)) .nil))))))
theorem dInjectX (s:DramS) (f:Flt) (ok:DramOk s) (hf:fright_v0 s.mode f s.g=false):Sp P 109 [.pt 0 0,.ag [vi f.kind,vi f.rank,vi f.bank,vi f.row,vi f.col,vi f.chip,vi f.bit,vi f.value]] (bDram s 0) (vn 10) (bDram s 0) :=
 so Tryz.f109 4 (ir 0 4) (.c [] (fright s.mode f s.g ok.md) (.t (congrArg (!·) (show (fright_v0 s.mode f s.g)=false from hf)) .nil))
def dInject_s (s:DramS) (f:Flt):DramS:=bif fright_v0 s.mode f s.g then dInjectN_s s f.n else s
def dInject_v0 (s:DramS) (f:Flt):Int:=bif fright_v0 s.mode f s.g then (dInjectN_v0 s f.n) else 10
theorem Flt.n_flt {f:Flt} (h1:0<=f.chip) (h2:0<=f.bit) (h3:0<=f.value):f.n.flt=f:=by
 cases f; simp only [Flt.n,FltN.flt] at *; rw [Int.toNat_of_nonneg h1,Int.toNat_of_nonneg h2,Int.toNat_of_nonneg h3]
theorem Flt.cells {f:Flt} (h1:0<=f.chip) (h2:0<=f.bit) (h3:0<=f.value):(.ag [vi f.n.kind,vi f.n.rank,vi f.n.bank,vi f.n.row,vi f.n.col,vn f.n.chip,vn f.n.bit,vn f.n.value]:V)=.ag [vi f.kind,vi f.rank,vi f.bank,vi f.row,vi f.col,vi f.chip,vi f.bit,vi f.value]:=by
 show V.ag [vi f.kind,vi f.rank,vi f.bank,vi f.row,vi f.col,vi ((f.chip.toNat:Nat):Int),vi ((f.bit.toNat:Nat):Int),vi ((f.value.toNat:Nat):Int)]=_
 rw [Int.toNat_of_nonneg h1,Int.toNat_of_nonneg h2,Int.toNat_of_nonneg h3]
theorem dInject (s:DramS) (f:Flt) (ok:DramOk s):Sp P 109 [.pt 0 0,.ag [vi f.kind,vi f.rank,vi f.bank,vi f.row,vi f.col,vi f.chip,vi f.bit,vi f.value]] (bDram s 0) (vi (dInject_v0 s f)) (bDram (dInject_s s f) 0):=by
 unfold dInject_v0 dInject_s
 cases q:fright_v0 s.mode f s.g with
 | false=>exact dInjectX s f ok q
 | true =>
   obtain ⟨_,_,h3,h4,h5,_⟩:=fright_t ok.md q
   have h:=dInjectN s f.n ok (by rw [Flt.n_flt h4.1 h3.1 h5.1]; exact q)
   rw [Flt.cells h4.1 h3.1 h5.1] at h
   exact h
theorem dInject_ok {s:DramS} {f:Flt} (ok:DramOk s):DramOk (dInject_s s f):=by
 unfold dInject_s
 cases q:fright_v0 s.mode f s.g with
 | false=>exact ok
 | true =>
   obtain ⟨_,_,h3,h4,h5,_⟩:=fright_t ok.md q
   have hf:=FltN.okR ok.md (f:=f.n) (g:=s.g) (by rw [Flt.n_flt h4.1 h3.1 h5.1]; exact q)
   obtain ⟨o1,o2,o3,o4,o5⟩:=ok
   show DramOk (dInjectN_s s f.n)
   unfold dInjectN_s
   cases decide (f.n.kind=1) with
   | true =>
     refine ⟨o1,fun k j=>?_,o3,o4,o5⟩
     show upZ s.c _ _ k j < 256
     unfold upZ
     split
     ·exact flpF_lt (o2 _) _ _
     ·exact o2 k j
   | false =>
     simp only [cond_false]
     cases lasts_v0 _ with
     | true =>
       simp only [cond_true]
       cases q2:decide (256<=((s.la.length:Nat):Int)) with
       | true=>exact ⟨o1,o2,o3,o4,o5⟩
       | false =>
         have:=of_decide_eq_false q2
         refine ⟨o1,o2,fun x hx=>?_,?_,o5⟩
         ·rcases List.mem_append.1 hx with hx | hx
          ·exact o3 x hx
          ·rw [List.mem_singleton.1 hx]; exact hf
         ·show (s.la ++ [f.n]).length<=256
          rw [List.length_append]; show s.la.length + 1<=256; omega
     | false =>
       simp only [cond_false]
       cases q2:decide (256<=((s.co.length:Nat):Int)) with
       | true=>exact ⟨o1,o2,o3,o4,o5⟩
       | false =>
         have:=of_decide_eq_false q2
         refine ⟨o1,o2,o3,o4,?_⟩
         show (s.co ++ [f.n]).length<=256
         rw [List.length_append]; show s.co.length + 1<=256; omega
def dWent_s (s:DramS) (i:Int):DramS:=bif decide (((s.co.length:Nat):Int)=0) then s else { s with co:=(s.co.drop 1).take (s.co.length - 1) }
def dWent_v0 (s:DramS) (i:Int):Int:=bif decide (((s.co.length:Nat):Int)=0) then i else (bif decide ((s.co.getD 0 flt0).kind=7) then i else (bif decide (s.g.ixE (⟨(s.co.getD 0 flt0).rank,(s.co.getD 0 flt0).bank,(s.co.getD 0 flt0).row,(s.co.getD 0 flt0).col⟩:Pl)=0) then (s.g.ix (⟨(s.co.getD 0 flt0).rank,(s.co.getD 0 flt0).bank,(s.co.getD 0 flt0).row,(s.co.getD 0 flt0).col⟩:Pl)) else i))
def dWent_v1 (s:DramS) (i:Int):Bool:=bif decide (((s.co.length:Nat):Int)=0) then false else (bif decide ((s.co.getD 0 flt0).kind=7) then true else false)
theorem dWent (s:DramS) (i:Int) (ok:DramOk s):Sp P 288 [.pt 0 0,vi i] (bDram s 0) (.ag [vi (dWent_v0 s i),vt (dWent_v1 s i)]) (bDram (dWent_s s i) 0):=by
 have hcl:=ok.cl
 generalize d0:dWent_s s i=yd0
 unfold dWent_s at d0
 generalize d1:dWent_v0 s i=yd1
 unfold dWent_v0 at d1
 generalize d2:dWent_v1 s i=yd2
 unfold dWent_v1 at d2
 rcases bft (decide (((s.co.length:Nat):Int)=0)) with q1 | q1
 ·rw [cpos q1] at d0
  rw [cpos q1] at d1
  rw [cpos q1] at d2
  subst d0 d1 d2
  exact so Tryz.f288 3 (ir 0 4) (.t q1 .nil)
 ·rw [cneg q1] at d0
  rw [cneg q1] at d1
  rw [cneg q1] at d2
  have q1':=of_decide_eq_false q1
  rcases bft (decide ((s.co.getD 0 flt0).kind=7)) with q2 | q2
  ·rw [cpos q2] at d1
   rw [cpos q2] at d2
   have q2':=of_decide_eq_true q2
   subst d0 d1 d2
   exact so Tryz.f288 5 (ir 0 3 ++ .id 7 :: []) (.t q1 (.ix (i:=0) (m:=s.co.length) (by omega) (.el (e:=eF) (gDx (l:=s.co) (i:=0) flt0 (by omega)) (.sl (i:=1) (n:=s.co.length - 1) (m:=s.co.length) (hi:=((s.co.length:Nat):Int)) (h2:=by omega) (by omega) (.cw [.ss 3 1 8 (s.co.length - 1)] (fclone ((s.co.drop 1).take (s.co.length - 1)) (by rw [List.length_take,List.length_drop]; omega)) _ (congrArg (fun z:Fd=>[z]) (vwS eF s.co 1 (s.co.length - 1) (by first | assumption | omega))) (.t q2 .nil))))))
  ·rw [cneg q2] at d1
   rw [cneg q2] at d2
   have q2':=of_decide_eq_false q2
   rcases bft (decide (s.g.ixE (⟨(s.co.getD 0 flt0).rank,(s.co.getD 0 flt0).bank,(s.co.getD 0 flt0).row,(s.co.getD 0 flt0).col⟩:Pl)=0)) with q3 | q3
   ·rw [cpos q3] at d1
    have q3':=of_decide_eq_true q3
    subst d0 d1 d2
    exact so Tryz.f288 6 (ir 0 3 ++ .id 7 :: []) (.t q1 (.ix (i:=0) (m:=s.co.length) (by omega) (.el (e:=eF) (gDx (l:=s.co) (i:=0) flt0 (by omega)) (.sl (i:=1) (n:=s.co.length - 1) (m:=s.co.length) (hi:=((s.co.length:Nat):Int)) (h2:=by omega) (by omega) (.cw [.ss 3 1 8 (s.co.length - 1)] (fclone ((s.co.drop 1).take (s.co.length - 1)) (by rw [List.length_take,List.length_drop]; omega)) _ (congrArg (fun z:Fd=>[z]) (vwS eF s.co 1 (s.co.length - 1) (by first | assumption | omega))) (.t q2 (.c [] (gindex_sp s.g (⟨(s.co.getD 0 flt0).rank,(s.co.getD 0 flt0).bank,(s.co.getD 0 flt0).row,(s.co.getD 0 flt0).col⟩:Pl)) (.g q3 .nil))))))))
   ·rw [cneg q3] at d1
    have q3':=of_decide_eq_false q3
    subst d0 d1 d2
    exact so Tryz.f288 6 (ir 0 3 ++ .id 7 :: []) (.t q1 (.ix (i:=0) (m:=s.co.length) (by omega) (.el (e:=eF) (gDx (l:=s.co) (i:=0) flt0 (by omega)) (.sl (i:=1) (n:=s.co.length - 1) (m:=s.co.length) (hi:=((s.co.length:Nat):Int)) (h2:=by omega) (by omega) (.cw [.ss 3 1 8 (s.co.length - 1)] (fclone ((s.co.drop 1).take (s.co.length - 1)) (by rw [List.length_take,List.length_drop]; omega)) _ (congrArg (fun z:Fd=>[z]) (vwS eF s.co 1 (s.co.length - 1) (by first | assumption | omega))) (.t q2 (.c [] (gindex_sp s.g (⟨(s.co.getD 0 flt0).rank,(s.co.getD 0 flt0).bank,(s.co.getD 0 flt0).row,(s.co.getD 0 flt0).col⟩:Pl)) (.g q3 .nil))))))))
theorem dWent_ok {s:DramS} {i:Int} (ok:DramOk s):DramOk (dWent_s s i):=by
 obtain ⟨o1,o2,o3,o4,o5⟩:=ok
 unfold dWent_s
 cases decide (((s.co.length:Nat):Int)=0)
 ·exact ⟨o1,o2,o3,o4,by show (List.take _ (List.drop 1 s.co)).length<=256; rw [List.length_take,List.length_drop]; omega⟩
 ·exact ⟨o1,o2,o3,o4,o5⟩
def dWrite_s (s:DramS) (i:Int) (r:Nat->Nat):DramS:=bif decide (s.g.atE i=0) then (bif (dWent_v1 s i) then (dWent_s s i) else { (dWent_s s i) with c:=upZ (dWent_s s i).c (dWent_v0 s i) r }) else s
def dWrite_v0 (s:DramS) (i:Int) (r:Nat->Nat):Int:=bif decide (s.g.atE i=0) then (dWent_v0 s i) else 0
def dWrite_v1 (s:DramS) (i:Int) (r:Nat->Nat):Bool:=bif decide (s.g.atE i=0) then (dWent_v1 s i) else false
def dWrite_v2 (s:DramS) (i:Int) (r:Nat->Nat):Int:=bif decide (s.g.atE i=0) then 0 else (s.g.atE i)
theorem dWrite (s:DramS) (i:Int) (r:Nat->Nat) (ok:DramOk s):Sp P 287 [.pt 0 0,vi i,.ar .u8 72 (nf r)] (bDram s 0) (.tu [.ag [vi (dWrite_v0 s i r),vt (dWrite_v1 s i r)],vi (dWrite_v2 s i r)]) (bDram (dWrite_s s i r) 0):=by
 generalize d0:dWrite_s s i r=yd0
 unfold dWrite_s at d0
 generalize d1:dWrite_v0 s i r=yd1
 unfold dWrite_v0 at d1
 generalize d2:dWrite_v1 s i r=yd2
 unfold dWrite_v1 at d2
 generalize d3:dWrite_v2 s i r=yd3
 unfold dWrite_v2 at d3
 rcases bft (decide (s.g.atE i=0)) with q1 | q1
 ·rw [cpos q1] at d0
  rw [cpos q1] at d1
  rw [cpos q1] at d2
  rw [cpos q1] at d3
  rcases bft (dWent_v1 s i) with q2 | q2
  ·rw [cpos q2] at d0
   subst d0 d1 d2 d3
   exact so Tryz.f287 6 (ir 0 4) (.c [] (gat_sp s.g i) (.g q1 (.c (ir 0 4) (dWent s i ok) (.g q2 .nil))))
  ·rw [cneg q2] at d0
   subst d0 d1 d2 d3
   exact so Tryz.f287 7 (ir 0 4) (.c [] (gat_sp s.g i) (.g q1 (.c (ir 0 4) (dWent s i ok) (.g q2 (.mu (mpB_up (dWent_s s i).c (dWent_v0 s i) r) .nil)))))
 ·rw [cneg q1] at d0
  rw [cneg q1] at d1
  rw [cneg q1] at d2
  rw [cneg q1] at d3
  subst d0 d1 d2 d3
  exact so Tryz.f287 5 (ir 0 4) (.c [] (gat_sp s.g i) (.g q1 .nil))
def dRead_s (s:DramS) (i:Int):DramS:=bif decide (s.g.atE i=0) then (dWent_s s i) else s
def dRead_v0 (s:DramS) (i:Int):Nat->Nat:=bif decide (s.g.atE i=0) then (bif (dWent_v1 s i) then (fun _=>0) else (dLook_v0 (dWent_s s i) (dWent_v0 s i))) else (fun _=>0)
def dRead_v1 (s:DramS) (i:Int):Int:=bif decide (s.g.atE i=0) then (dWent_v0 s i) else 0
def dRead_v2 (s:DramS) (i:Int):Bool:=bif decide (s.g.atE i=0) then (dWent_v1 s i) else false
def dRead_v3 (s:DramS) (i:Int):Int:=bif decide (s.g.atE i=0) then (bif (dWent_v1 s i) then 0 else (dLook_v1 (dWent_s s i) (dWent_v0 s i))) else (s.g.atE i)
theorem dRead (s:DramS) (i:Int) (ok:DramOk s):Sp P 255 [.pt 0 0,vi i] (bDram s 0) (.tu [.ar .u8 72 (nf (dRead_v0 s i)),.ag [vi (dRead_v1 s i),vt (dRead_v2 s i)],vi (dRead_v3 s i)]) (bDram (dRead_s s i) 0):=by
 generalize d0:dRead_s s i=yd0
 unfold dRead_s at d0
 generalize d1:dRead_v0 s i=yd1
 unfold dRead_v0 at d1
 generalize d2:dRead_v1 s i=yd2
 unfold dRead_v1 at d2
 generalize d3:dRead_v2 s i=yd3
 unfold dRead_v2 at d3
 generalize d4:dRead_v3 s i=yd4
 unfold dRead_v3 at d4
 rcases bft (decide (s.g.atE i=0)) with q1 | q1
 ·rw [cpos q1] at d0
  rw [cpos q1] at d1
  rw [cpos q1] at d2
  rw [cpos q1] at d3
  rw [cpos q1] at d4
  rcases bft (dWent_v1 s i) with q2 | q2
  ·rw [cpos q2] at d1
   rw [cpos q2] at d4
   subst d0 d1 d2 d3 d4
   exact so Tryz.f255 8 (ir 0 4) (.c [] (gat_sp s.g i) (.g q1 (.c (ir 0 4) (dWent s i ok) (.t q2 .nil))))
  ·rw [cneg q2] at d1
   rw [cneg q2] at d4
   subst d0 d1 d2 d3 d4
   exact so Tryz.f255 9 (ir 0 4) (.c [] (gat_sp s.g i) (.g q1 (.c (ir 0 4) (dWent s i ok) (.t q2 (.c (ir 0 4) (dLook (dWent_s s i) (dWent_v0 s i) (dWent_ok ok)) .nil)))))
 ·rw [cneg q1] at d0
  rw [cneg q1] at d1
  rw [cneg q1] at d2
  rw [cneg q1] at d3
  rw [cneg q1] at d4
  subst d0 d1 d2 d3 d4
  exact so Tryz.f255 5 (ir 0 4) (.c [] (gat_sp s.g i) (.g q1 .nil))
theorem dWrite_ok {s:DramS} {i:Int} {r:Nat->Nat} (ok:DramOk s) (hr:∀ j,r j < 256):DramOk (dWrite_s s i r):=by
 obtain ⟨o1,o2,o3,o4,o5⟩:=dWent_ok (i:=i) ok
 unfold dWrite_s
 cases decide (s.g.atE i=0)
 ·exact ok
 ·cases dWent_v1 s i
  ·refine ⟨o1,fun k j=>?_,o3,o4,o5⟩
   show upZ (dWent_s s i).c _ _ k j < 256
   unfold upZ
   split
   ·exact hr j
   ·exact o2 k j
  ·exact ⟨o1,o2,o3,o4,o5⟩
theorem dRead_ok {s:DramS} {i:Int} (ok:DramOk s):DramOk (dRead_s s i):=by
 unfold dRead_s
 cases decide (s.g.atE i=0)
 ·exact ok
 ·exact dWent_ok (i:=i) ok
theorem dLook_lt {s:DramS} {i:Int} (ok:DramOk s) (j:Nat):dLook_v0 s i j < 256:=by
 unfold dLook_v0
 simp only [Bool.cond_eq_ite]
 split
 ·first | exact overlay_lt ok.md (ok.c _) ok.la j | exact (by decide:(0:Nat) < 256)
 ·first | exact overlay_lt ok.md (ok.c _) ok.la j | exact (by decide:(0:Nat) < 256)
theorem dRead_lt {s:DramS} {i:Int} (ok:DramOk s) (j:Nat):dRead_v0 s i j < 256:=by
 unfold dRead_v0
 cases decide (s.g.atE i=0)
 ·exact (by decide:(0:Nat) < 256)
 ·cases dWent_v1 s i
  ·exact dLook_lt (dWent_ok (i:=i) ok) j
  ·exact (by decide:(0:Nat) < 256)
structure DevOk (s:DevS):Prop where
 d:DramOk s.d
 gh:∀ k j,s.gh k j < 256
def exposure_v0 (m:Int) (r:Nat->Nat) (q:Nat->Nat):Nat:=bif decide (m=1) then (ex1 r q 8) else (ex2 r q 2)
theorem exposure (m:Int) (r:Nat->Nat) (q:Nat->Nat) (hm:m=1 ∨ m=2) (hr:∀ j,r j < 256) (hq:∀ j,q j < 256):Sp P 256 [vi m,.ar .u8 72 (nf r),.ar .u8 72 (nf q)] [] (vn (exposure_v0 m r q)) []:=by
 rcases hm with rfl | rfl
 ·simp only [exposure_v0,show decide ((1:Int)=1)=true from rfl,cond_true]; exact Eq.mp (by kernel_rfl) (exposure_1 r q hr hq)
 ·simp only [exposure_v0,show decide ((2:Int)=1)=false from rfl,cond_false]; exact Eq.mp (by kernel_rfl) (exposure_2 r q hr hq)
theorem vDram (s:DevS) :Sp P 41 [.pt 0 0] (ros (bDev s 0)) (.pt 4 0) (ros (bDev s 0)) :=
 so Tryz.f41 3 (ir 0 8) .nil
theorem vCount (s:DevS) :Sp P 51 [.pt 0 0] (ros (bDev s 0)) (vn s.l.length) (ros (bDev s 0)) :=
 so Tryz.f51 3 (ir 0 8) .nil
theorem vMarked (s:DevS) (i:Int) :Sp P 257 [.pt 0 0,vi i] (ros (bDev s 0)) (vt (decide (s.mks i=1))) (ros (bDev s 0)) :=
 so Tryz.f257 3 (ir 0 8) .nil
def vInject_s (s:DevS) (f:Flt):DevS:={ s with d:=(dInject_s s.d f) }
theorem vInject (s:DevS) (f:Flt) (ok:DevOk s):Sp P 37 [.pt 0 0,.ag [vi f.kind,vi f.rank,vi f.bank,vi f.row,vi f.col,vi f.chip,vi f.bit,vi f.value]] (bDev s 0) (vi (dInject_v0 s.d f)) (bDev (vInject_s s f) 0) :=
 so Tryz.f37 4 (ir 0 8) (.c (ir 4 4) (dInject s.d f ok.d) .nil)
def vput_s (s:DevS) (i:Int) (r:Nat->Nat) (m:Int):DevS:=bif decide ((dWrite_v2 s.d i r)=0) then (⟨(dWrite_s s.d i r),upZ s.gh i r,upZ s.mks i m,(s.l ++ [(⟨true,i,dWrite_v0 s.d i r,dWrite_v1 s.d i r,0,false⟩:Acc)])⟩:DevS) else { s with d:=(dWrite_s s.d i r) }
def vput_v0 (s:DevS) (i:Int) (r:Nat->Nat) (m:Int):Int:=bif decide ((dWrite_v2 s.d i r)=0) then 0 else (dWrite_v2 s.d i r)
theorem vput (s:DevS) (i:Int) (r:Nat->Nat) (m:Int) (ok:DevOk s) (hl:s.l.length<=100000000):Sp P 254 [.pt 0 0,vi i,.ar .u8 72 (nf r),vi m] (bDev s 0) (vi (vput_v0 s i r m)) (bDev (vput_s s i r m) 0):=by
 generalize d0:vput_s s i r m=yd0
 unfold vput_s at d0
 generalize d1:vput_v0 s i r m=yd1
 unfold vput_v0 at d1
 rcases bft (decide ((dWrite_v2 s.d i r)=0)) with q1 | q1
 ·rw [cpos q1] at d0
  rw [cpos q1] at d1
  have q1':=of_decide_eq_true q1
  subst d0 d1
  exact so Tryz.f254 10 (ir 0 3 ++ .id 15 :: ir 4 4) (.c (ir 4 4) (dWrite s.d i r ok.d) (.g q1 (.mu (mpB_up s.gh i r) (.mu (mpI_up s.mks i m) (.ap (e:=eAcc) (l:=s.l) (l':=[(⟨true,i,dWrite_v0 s.d i r,dWrite_v1 s.d i r,0,false⟩:Acc)]) .row (.flat [vt true,vi i,vi (dWrite_v0 s.d i r),vt (dWrite_v1 s.d i r),vn 0,vt false] [(⟨true,i,dWrite_v0 s.d i r,dWrite_v1 s.d i r,0,false⟩:Acc)] rfl) (by simp only [List.length_append,List.length_cons,List.length_nil]; omega) .nil)))))
 ·rw [cneg q1] at d0
  rw [cneg q1] at d1
  subst d0 d1
  exact so Tryz.f254 6 (ir 0 8) (.c (ir 4 4) (dWrite s.d i r ok.d) (.g q1 .nil))
theorem vWrite (s:DevS) (i:Int) (r:Nat->Nat) (ok:DevOk s) (hl:s.l.length<=100000000):Sp P 193 [.pt 0 0,vi i,.ar .u8 72 (nf r)] (bDev s 0) (vi (vput_v0 s i r 0)) (bDev (vput_s s i r 0) 0) :=
 so Tryz.f193 3 (ir 0 8) (.c (ir 0 8) (vput s i r 0 (by first | assumption | omega) (by first | assumption | omega)) .nil)
theorem vMark (s:DevS) (i:Int) (r:Nat->Nat) (ok:DevOk s) (hl:s.l.length<=100000000):Sp P 192 [.pt 0 0,vi i,.ar .u8 72 (nf r)] (bDev s 0) (vi (vput_v0 s i r 1)) (bDev (vput_s s i r 1) 0) :=
 so Tryz.f192 3 (ir 0 8) (.c (ir 0 8) (vput s i r 1 (by first | assumption | omega) (by first | assumption | omega)) .nil)
def vRead_s (s:DevS) (i:Int):DevS:=bif decide ((dRead_v3 s.d i)=0) then (bif (dRead_v2 s.d i) then (⟨(dRead_s s.d i),s.gh,s.mks,(s.l ++ [(⟨false,i,dRead_v1 s.d i,dRead_v2 s.d i,(((exposure_v0 (dRead_s s.d i).mode (dRead_v0 s.d i) (s.gh (dRead_v1 s.d i))):Nat):Int),false⟩:Acc)])⟩:DevS) else (⟨(dRead_s s.d i),s.gh,s.mks,(s.l ++ [(⟨false,i,dRead_v1 s.d i,dRead_v2 s.d i,(((exposure_v0 (dRead_s s.d i).mode (dRead_v0 s.d i) (s.gh (dRead_v1 s.d i))):Nat):Int),decide (s.mks (dRead_v1 s.d i)=1)⟩:Acc)])⟩:DevS)) else { s with d:=(dRead_s s.d i) }
def vRead_v0 (s:DevS) (i:Int):Nat->Nat:=bif decide ((dRead_v3 s.d i)=0) then (dRead_v0 s.d i) else (fun _=>0)
def vRead_v1 (s:DevS) (i:Int):Int:=bif decide ((dRead_v3 s.d i)=0) then 0 else (dRead_v3 s.d i)
theorem vRead (s:DevS) (i:Int) (ok:DevOk s) (hl:s.l.length<=100000000):Sp P 197 [.pt 0 0,vi i] (bDev s 0) (.tu [.ar .u8 72 (nf (vRead_v0 s i)),vi (vRead_v1 s i)]) (bDev (vRead_s s i) 0):=by
 generalize d0:vRead_s s i=yd0
 unfold vRead_s at d0
 generalize d1:vRead_v0 s i=yd1
 unfold vRead_v0 at d1
 generalize d2:vRead_v1 s i=yd2
 unfold vRead_v1 at d2
 rcases bft (decide ((dRead_v3 s.d i)=0)) with q1 | q1
 ·rw [cpos q1] at d0
  rw [cpos q1] at d1
  rw [cpos q1] at d2
  have q1':=of_decide_eq_true q1
  rcases bft (dRead_v2 s.d i) with q2 | q2
  ·rw [cpos q2] at d0
   subst d0 d1 d2
   exact so Tryz.f197 10 (ir 0 3 ++ .id 15 :: ir 4 4) (.c (ir 4 4) (dRead s.d i ok.d) (.g q1 (.c (ir 4 4) (dMode (dRead_s s.d i)) (.c [] (exposure (dRead_s s.d i).mode (dRead_v0 s.d i) (s.gh (dRead_v1 s.d i)) ((dRead_ok ok.d).md) (dRead_lt ok.d) (ok.gh _)) (.g4 q2 (.g q2 (.ap (e:=eAcc) (l:=s.l) (l':=[(⟨false,i,dRead_v1 s.d i,dRead_v2 s.d i,(((exposure_v0 (dRead_s s.d i).mode (dRead_v0 s.d i) (s.gh (dRead_v1 s.d i))):Nat):Int),false⟩:Acc)]) .row (.flat [vt false,vi i,vi (dRead_v1 s.d i),vt (dRead_v2 s.d i),vn (exposure_v0 (dRead_s s.d i).mode (dRead_v0 s.d i) (s.gh (dRead_v1 s.d i))),vt false] [(⟨false,i,dRead_v1 s.d i,dRead_v2 s.d i,(((exposure_v0 (dRead_s s.d i).mode (dRead_v0 s.d i) (s.gh (dRead_v1 s.d i))):Nat):Int),false⟩:Acc)] rfl) (by simp only [List.length_append,List.length_cons,List.length_nil]; omega) .nil)))))))
  ·rw [cneg q2] at d0
   subst d0 d1 d2
   exact so Tryz.f197 11 (ir 0 3 ++ .id 16 :: ir 4 4) (.c (ir 4 4) (dRead s.d i ok.d) (.g q1 (.c (ir 4 4) (dMode (dRead_s s.d i)) (.c [] (exposure (dRead_s s.d i).mode (dRead_v0 s.d i) (s.gh (dRead_v1 s.d i)) ((dRead_ok ok.d).md) (dRead_lt ok.d) (ok.gh _)) (.g4 q2 (.c (ir 0 8) (vMarked { s with d:=(dRead_s s.d i) } (dRead_v1 s.d i)) (.g q2 (.ap (e:=eAcc) (l:=s.l) (l':=[(⟨false,i,dRead_v1 s.d i,dRead_v2 s.d i,(((exposure_v0 (dRead_s s.d i).mode (dRead_v0 s.d i) (s.gh (dRead_v1 s.d i))):Nat):Int),decide (s.mks (dRead_v1 s.d i)=1)⟩:Acc)]) .row (.flat [vt false,vi i,vi (dRead_v1 s.d i),vt (dRead_v2 s.d i),vn (exposure_v0 (dRead_s s.d i).mode (dRead_v0 s.d i) (s.gh (dRead_v1 s.d i))),vt (decide (s.mks (dRead_v1 s.d i)=1))] [(⟨false,i,dRead_v1 s.d i,dRead_v2 s.d i,(((exposure_v0 (dRead_s s.d i).mode (dRead_v0 s.d i) (s.gh (dRead_v1 s.d i))):Nat):Int),decide (s.mks (dRead_v1 s.d i)=1)⟩:Acc)] rfl) (by simp only [List.length_append,List.length_cons,List.length_nil]; omega) .nil))))))))
 ·rw [cneg q1] at d0
  rw [cneg q1] at d1
  rw [cneg q1] at d2
  subst d0 d1 d2
  exact so Tryz.f197 5 (ir 0 8) (.c (ir 4 4) (dRead s.d i ok.d) (.g q1 .nil))
theorem vput_ok {s:DevS} {i:Int} {r:Nat->Nat} {m:Int} (ok:DevOk s) (hr:∀ j,r j < 256):DevOk (vput_s s i r m):=by
 unfold vput_s
 cases decide (dWrite_v2 s.d i r=0)
 ·exact ⟨dWrite_ok ok.d hr,ok.gh⟩
 ·refine ⟨dWrite_ok ok.d hr,fun k j=>?_⟩
  show upZ s.gh _ _ k j < 256
  unfold upZ
  split
  ·exact hr j
  ·exact ok.gh k j
theorem vRead_ok {s:DevS} {i:Int} (ok:DevOk s):DevOk (vRead_s s i):=by
 unfold vRead_s
 simp only [Bool.cond_eq_ite]
 repeat (first | exact ⟨dRead_ok ok.d,ok.gh⟩ | split)
theorem vRead_lt {s:DevS} {i:Int} (ok:DevOk s) (j:Nat):vRead_v0 s i j < 256:=by
 unfold vRead_v0
 simp only [Bool.cond_eq_ite]
 repeat (first | exact dRead_lt ok.d j | exact (by decide:(0:Nat) < 256) | split)
theorem vInject_ok {s:DevS} {f:Flt} (ok:DevOk s):DevOk { s with d:=dInject_s s.d f }:=⟨dInject_ok ok.d,ok.gh⟩
end Go.Proofs.YtfhiggfmkjmeiaaGreat
