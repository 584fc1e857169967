import Derived.Test.YtfhiggfmkjmeiaaGreatFInt
set_option linter.all false
namespace Go.Proofs.YtfhiggfmkjmeiaaGreat
open Go Go.RowKit
set_option maxRecDepth 100000
def dfF (a b:List Nat):Nat->Nat
 | 0=>0
 | i + 1=>dfF a b i + wt (xr (a.getD i 0) (b.getD i 0))
theorem Aba {a b:List Nat} (ha:B8 a) (hb:B8 b):∀ i,dfF a b i<=8 * i
 | 0=>Nat.le_refl _
 | i + 1=>by
   have:=Aba ha hb i
   have:=A1z (n:=8) (I5 (ha i) (hb i))
   rw [dfF]; omega
def unF (a b:List Nat):Nat->Nat
 | 0=>0
 | i + 1=>bif decide (((a.getD i 0:Nat):Int)=((b.getD i 0:Nat):Int)) then unF a b i else unF a b i + 1
theorem Adl (a b:List Nat):∀ i,unF a b i<=i
 | 0=>Nat.le_refl _
 | i + 1=>by
   have:=Adl a b i
   rw [unF]; cases decide (((a.getD i 0:Nat):Int)=((b.getD i 0:Nat):Int)) <;> simp only [cond_true,cond_false] <;> omega
theorem Ahn (a:List Nat) (b:List Nat) (hl:a.length=b.length) (h9:a.length<=100) (ba:B8 a) (bb:B8 b):Sp P 311 [.sl 0,.sl 1] [.ro (.row eB a),.ro (.row eB b)] (vn (dfF a b a.length)) [.ro (.row eB a),.ro (.row eB b)] :=
 so Tryz.f311 3 [.id 0,.id 1] (.t (sQF ((b.length:Int) < (a.length:Int)) (by omega)) (.e 19 (Yq (a:=(b.length:Int)) (b:=(a.length:Int)) (c:=0) (by omega)) (.lp a.length 3 [] [] (fun i=>[(23,vn i),(5,vn (dfF a b i))]) (fun i=>[]) (fun i hi=>(.t (sQT ((i:Int) < (a.length:Int)) (by omega)) (.ix (i:=i) (m:=a.length) (by omega) (.el (e:=eB) (gD (l:=a) (i:=i) (by omega)) (.ix (i:=i) (m:=b.length) (by omega) (.el (e:=eB) (gD (l:=b) (i:=i) (by omega)) (.e 34 (Yt (a.getD i 0) (b.getD i 0) (ba _) (bb _)) (.c [] (A1l (xr (a.getD i 0) (b.getD i 0)) (I5 (ba i) (bb i))) (.e 36 (Ck (a:=((dfF a b i:Nat):Int)) (b:=((wt (xr (a.getD i 0) (b.getD i 0)):Nat):Int)) (c:=(((dfF a b i) + (wt (xr (a.getD i 0) (b.getD i 0))):Nat):Int)) (by have:=Aba ba bb i; have:=A1z (n:=8) (I5 (ba i) (bb i)); omega)) (.e 37 (Ck (a:=(i:Int)) (b:=1) (c:=((i + 1:Nat):Int)) (by omega)) .nil)))))))))) (.t (sQF ((a.length:Int) < (a.length:Int)) (by omega)) .nil))))
theorem L3 (a:List Nat) (b:List Nat) (hl:a.length=b.length) (h9:a.length<=100) (ba:B8 a) (bb:B8 b):Sp P 289 [vn 1,.sl 0,.sl 1] [.ro (.row eB a),.ro (.row eB b)] (vn (dfF a b a.length)) [.ro (.row eB a),.ro (.row eB b)] :=
 so Tryz.f289 3 [.id 0,.id 1] (.y (.c [.id 0,.id 1] (Ahn a b (by first | assumption | omega) (by first | assumption | omega) (by first | assumption | omega) (by first | assumption | omega)) .nil))
theorem Aae (a:List Nat) (b:List Nat) (hl:a.length=b.length) (h9:a.length<=100):Sp P 289 [vn 2,.sl 0,.sl 1] [.ro (.row eB a),.ro (.row eB b)] (vn (unF a b a.length)) [.ro (.row eB a),.ro (.row eB b)] :=
 so Tryz.f289 3 [.id 0,.id 1] (.n (.lp a.length 3 [] [] (fun i=>[(17,vn i),(7,vn (unF a b i))]) (fun i=>[]) (fun i hi=>(.t (sQT ((i:Int) < (a.length:Int)) (by omega)) (.ix (i:=i) (m:=a.length) (by omega) (.el (e:=eB) (gD (l:=a) (i:=i) (by omega)) (.ix (i:=i) (m:=b.length) (by omega) (.el (e:=eB) (gD (l:=b) (i:=i) (by omega)) (.cs 0 (decide (((a.getD i 0:Nat):Int)=((b.getD i 0:Nat):Int))) 3 [] [] (fun z=>[(7,vn (bif z then (unF a b i) else ((unF a b i) + 1)))]) (fun z=>[]) (fun hq1=>(.g hq1 .nil)) (fun hq1=>(.g hq1 (.e 29 (Ck (a:=((unF a b i:Nat):Int)) (b:=1) (c:=(((unF a b i) + 1:Nat):Int)) (by have:=Adl a b i; omega)) .nil))) (.e 30 (Ck (a:=(i:Int)) (b:=1) (c:=((i + 1:Nat):Int)) (by omega)) .nil)))))))) (.t (sQF ((a.length:Int) < (a.length:Int)) (by omega)) .nil)))
def ex1 (r q:Nat->Nat):Nat->Nat
 | 0=>0
 | i + 1=>max (ex1 r q i) (dfF (A4 r (9 * i) 9) (A4 q (9 * i) 9) (A4 r (9 * i) 9).length)
theorem Abr (r:Nat->Nat) (q:Nat->Nat) (hr:∀ j,r j < 256) (hq:∀ j,q j < 256):Sp P 256 [vn 1,.ar .u8 72 (nf r),.ar .u8 72 (nf q)] [] (vn (ex1 r q 8)) [] :=
 so Tryz.f256 28 [] (.c [] (Dp) (.lu 8 (.y (.c [] (A1p r) (.c [] (A1p q) (.c [.id 3,.id 4] (L3 (A4 r 0 9) (A4 q 0 9) ((Af _ _ _).trans (Af _ _ _).symm) (by rw [Af]; decide) (Au hr _ _) (Au hq _ _)) (.e 25 (mxN 0 (dfF (A4 r 0 9) (A4 q 0 9) (A4 r 0 9).length)) (.y (.c [] (A1q r) (.c [] (A1q q) (.c [.id 6,.id 7] (L3 (A4 r 9 9) (A4 q 9 9) ((Af _ _ _).trans (Af _ _ _).symm) (by rw [Af]; decide) (Au hr _ _) (Au hq _ _)) (.e 25 (mxN (ex1 r q 1) (dfF (A4 r 9 9) (A4 q 9 9) (A4 r 9 9).length)) (.y (.c [] (A1r r) (.c [] (A1r q) (.c [.id 9,.id 10] (L3 (A4 r 18 9) (A4 q 18 9) ((Af _ _ _).trans (Af _ _ _).symm) (by rw [Af]; decide) (Au hr _ _) (Au hq _ _)) (.e 25 (mxN (ex1 r q 2) (dfF (A4 r 18 9) (A4 q 18 9) (A4 r 18 9).length)) (.y (.c [] (A1s r) (.c [] (A1s q) (.c [.id 12,.id 13] (L3 (A4 r 27 9) (A4 q 27 9) ((Af _ _ _).trans (Af _ _ _).symm) (by rw [Af]; decide) (Au hr _ _) (Au hq _ _)) (.e 25 (mxN (ex1 r q 3) (dfF (A4 r 27 9) (A4 q 27 9) (A4 r 27 9).length)) (.y (.c [] (A1t r) (.c [] (A1t q) (.c [.id 15,.id 16] (L3 (A4 r 36 9) (A4 q 36 9) ((Af _ _ _).trans (Af _ _ _).symm) (by rw [Af]; decide) (Au hr _ _) (Au hq _ _)) (.e 25 (mxN (ex1 r q 4) (dfF (A4 r 36 9) (A4 q 36 9) (A4 r 36 9).length)) (.y (.c [] (A1u r) (.c [] (A1u q) (.c [.id 18,.id 19] (L3 (A4 r 45 9) (A4 q 45 9) ((Af _ _ _).trans (Af _ _ _).symm) (by rw [Af]; decide) (Au hr _ _) (Au hq _ _)) (.e 25 (mxN (ex1 r q 5) (dfF (A4 r 45 9) (A4 q 45 9) (A4 r 45 9).length)) (.y (.c [] (A1v r) (.c [] (A1v q) (.c [.id 21,.id 22] (L3 (A4 r 54 9) (A4 q 54 9) ((Af _ _ _).trans (Af _ _ _).symm) (by rw [Af]; decide) (Au hr _ _) (Au hq _ _)) (.e 25 (mxN (ex1 r q 6) (dfF (A4 r 54 9) (A4 q 54 9) (A4 r 54 9).length)) (.y (.c [] (A1w r) (.c [] (A1w q) (.c [.id 24,.id 25] (L3 (A4 r 63 9) (A4 q 63 9) ((Af _ _ _).trans (Af _ _ _).symm) (by rw [Af]; decide) (Au hr _ _) (Au hq _ _)) (.e 25 (mxN (ex1 r q 7) (dfF (A4 r 63 9) (A4 q 63 9) (A4 r 63 9).length)) (.n .nil)))))))))))))))))))))))))))))))))))))))))))
def ex2 (r q:Nat->Nat):Nat->Nat
 | 0=>0
 | i + 1=>max (ex2 r q i) (unF (A4 r (36 * i) 36) (A4 q (36 * i) 36) (A4 r (36 * i) 36).length)
theorem Abs (r:Nat->Nat) (q:Nat->Nat) (hr:∀ j,r j < 256) (hq:∀ j,q j < 256):Sp P 256 [vn 2,.ar .u8 72 (nf r),.ar .u8 72 (nf q)] [] (vn (ex2 r q 2)) [] :=
 so Tryz.f256 10 [] (.c [] (Nz) (.lu 2 (.y (.c [] (A1x r) (.c [] (A1x q) (.c [.id 3,.id 4] (Aae (A4 r 0 36) (A4 q 0 36) ((Af _ _ _).trans (Af _ _ _).symm) (by rw [Af]; decide)) (.e 25 (mxN 0 (unF (A4 r 0 36) (A4 q 0 36) (A4 r 0 36).length)) (.y (.c [] (A1y r) (.c [] (A1y q) (.c [.id 6,.id 7] (Aae (A4 r 36 36) (A4 q 36 36) ((Af _ _ _).trans (Af _ _ _).symm) (by rw [Af]; decide)) (.e 25 (mxN (ex2 r q 1) (unF (A4 r 36 36) (A4 q 36 36) (A4 r 36 36).length)) (.n .nil)))))))))))))
def chN (m:Int):Nat:=bif decide (m=1) then 9 else 36
structure DramOk (s:DramS):Prop where
 md:s.mode=1 ∨ s.mode=2
 c:∀ k j,s.c k j < 256
 la:∀ f ∈ s.la,f.ok (chN s.mode)
 ll:s.la.length<=256
 cl:s.co.length<=256
theorem cT {c a:Bool} (h:(bif c then a else false)=true):c=true/\a=true:=by cases c; cases h; exact ⟨rfl,h⟩
theorem L7 {i n:Int} (h:Bi i n=true):0<=i/\i < n:=by
 unfold Bi at h; obtain ⟨h1,h2⟩:=cT h; exact ⟨otq h1,otq h2⟩
theorem Ai9 {f:Flt} {g:Gm} (h:Kb f g=true):(1<=f.kind/\f.kind<=7)/\g.holds ⟨f.rank,f.bank,f.row,f.col⟩=true/\(0<=f.bit/\f.bit < 576)/\(0<=f.chip/\f.chip < 9)/\(0<=f.value/\f.value < 256)/\(f.kind=2->f.value < 2):=by
 unfold Kb at h
 cases q:decide (f.kind=2) with
 | true =>
   rw [A2 q] at h
   obtain ⟨h1,h⟩:=cT h; obtain ⟨h2,h⟩:=cT h; obtain ⟨h3,h⟩:=cT h; obtain ⟨h4,h⟩:=cT h; obtain ⟨h5,h⟩:=cT h; obtain ⟨h6,h⟩:=cT h
   have h:=L7 h
   exact ⟨⟨otq h1,otq h2⟩,h4,L7 h5,L7 h6,⟨h.1,by omega⟩,fun _=>h.2⟩
 | false =>
   rw [A1 q] at h
   obtain ⟨h1,h⟩:=cT h; obtain ⟨h2,h⟩:=cT h; obtain ⟨h3,h⟩:=cT h; obtain ⟨h4,h⟩:=cT h; obtain ⟨h5,h⟩:=cT h; obtain ⟨h6,h⟩:=cT h
   exact ⟨⟨otq h1,otq h2⟩,h4,L7 h5,L7 h6,L7 h,fun e=>absurd e (ofq q)⟩
theorem Aia {f:Flt} {g:Gm} (h:Kc f g=true):(1<=f.kind/\f.kind<=7)/\g.holds ⟨f.rank,f.bank,f.row,f.col⟩=true/\(0<=f.bit/\f.bit < 576)/\(0<=f.chip/\f.chip < 36)/\(0<=f.value/\f.value < 256)/\(f.kind=2->f.value < 2):=by
 unfold Kc at h
 cases q:decide (f.kind=2) with
 | true =>
   rw [A2 q] at h
   obtain ⟨h1,h⟩:=cT h; obtain ⟨h2,h⟩:=cT h; obtain ⟨h3,h⟩:=cT h; obtain ⟨h4,h⟩:=cT h; obtain ⟨h5,h⟩:=cT h; obtain ⟨h6,h⟩:=cT h
   have h:=L7 h
   exact ⟨⟨otq h1,otq h2⟩,h4,L7 h5,L7 h6,⟨h.1,by omega⟩,fun _=>h.2⟩
 | false =>
   rw [A1 q] at h
   obtain ⟨h1,h⟩:=cT h; obtain ⟨h2,h⟩:=cT h; obtain ⟨h3,h⟩:=cT h; obtain ⟨h4,h⟩:=cT h; obtain ⟨h5,h⟩:=cT h; obtain ⟨h6,h⟩:=cT h
   exact ⟨⟨otq h1,otq h2⟩,h4,L7 h5,L7 h6,L7 h,fun e=>absurd e (ofq q)⟩
def C3 (m:Int) (f:Flt) (g:Gm):Bool:=bif decide (m=1) then (Kb f g) else (Kc f g)
theorem W2 (m:Int) (f:Flt) (g:Gm) (hm:m=1 ∨ m=2) :Sp P 69 [.ag [vi f.kind,vi f.rank,vi f.bank,vi f.row,vi f.col,vi f.chip,vi f.bit,vi f.value],.ag [vi g.ranks,vi g.spares,vi g.banks,vi g.rows,vi g.cols],vi m] [] (vt (C3 m f g)) []:=by
 rcases hm with rfl | rfl
 ·simp only [C3,show decide ((1:Int)=1)=true from rfl,cond_true]; exact Eq.mp (by kernel_rfl) (Asa f g )
 ·simp only [C3,show decide ((2:Int)=1)=false from rfl,cond_false]; exact Eq.mp (by kernel_rfl) (Asb f g )
def Gb (m:Int) (l:List FltN) (x:Pl) (r:Nat->Nat):Nat->Nat:=bif decide (m=1) then (ov1 l x r l.length) else (ov2 l x r l.length)
theorem At6 (m:Int) (l:List FltN) (x:Pl) (r:Nat->Nat) (hm:m=1 ∨ m=2) (hl:l.length<=2147483648) (hr:∀ j,r j < 256) (ho:∀ f ∈ l,f.ok (chN m)):Sp P 112 [.sl 0,vi m,.ag [vi x.rank,vi x.bank,vi x.row,vi x.col],.ar .u8 72 (nf r)] [.ro (.row eF l)] (.ar .u8 72 (nf (Gb m l x r))) [.ro (.row eF l)]:=by
 rcases hm with rfl | rfl
 ·simp only [Gb,show decide ((1:Int)=1)=true from rfl,cond_true]; exact Eq.mp (by kernel_rfl) (Aob l x r hl hr ho)
 ·simp only [Gb,show decide ((2:Int)=1)=false from rfl,cond_false]; exact Eq.mp (by kernel_rfl) (Aoc l x r hl hr ho)
theorem A0s {m:Int} (hm:m=1 ∨ m=2) {l:List FltN} {x:Pl} {r:Nat->Nat} (hr:∀ j,r j < 256) (ho:∀ f ∈ l,f.ok (chN m)) (j:Nat):Gb m l x r j < 256:=by
 rcases hm with rfl | rfl
 ·exact Acy hr ho l.length (Nat.le_refl _) j
 ·exact Acz hr ho l.length (Nat.le_refl _) j
theorem Ku {m:Int} (hm:m=1 ∨ m=2) {f:Flt} {g:Gm} (h:C3 m f g=true):(1<=f.kind/\f.kind<=7)/\g.holds ⟨f.rank,f.bank,f.row,f.col⟩=true/\(0<=f.bit/\f.bit < 576)/\(0<=f.chip/\f.chip < chN m)/\(0<=f.value/\f.value < 256)/\(f.kind=2->f.value < 2):=by
 rcases hm with rfl | rfl
 ·exact Ai9 h
 ·exact Aia h
def FltN.flt (f:FltN):Flt:=⟨f.kind,f.rank,f.bank,f.row,f.col,f.chip,f.bit,f.value⟩
def Flt.n (f:Flt):FltN:=⟨f.kind,f.rank,f.bank,f.row,f.col,f.chip.toNat,f.bit.toNat,f.value.toNat⟩
theorem FltN.okR {m:Int} (hm:m=1 ∨ m=2) {f:FltN} {g:Gm} (h:C3 m f.flt g=true):f.ok (chN m):=by
 obtain ⟨h1,h2,h3,h4,h5,h6⟩:=Ku hm h
 refine ⟨Int.ofNat_lt.1 h4.2,?_,?_,fun hk=>?_⟩
 ·have:(f.bit:Int) < 576:=h3.2
  omega
 ·have:(f.value:Int) < 256:=h5.2
  omega
 ·have:(f.value:Int) < 2:=h6 hk
  omega
theorem Aec (s:DramS) :Sp P 115 [.pt 0 0] (ros (Jk s 0)) (.ag [vi s.g.ranks,vi s.g.spares,vi s.g.banks,vi s.g.rows,vi s.g.cols]) (ros (Jk s 0)) :=
 so Tryz.f115 3 (ir 0 4) .nil
theorem Wu (s:DramS) :Sp P 116 [.pt 0 0] (ros (Jk s 0)) (vi s.mode) (ros (Jk s 0)) :=
 so Tryz.f116 3 (ir 0 4) .nil
def Mi (s:DramS) (i:Int):Nat->Nat:=bif decide (s.g.atE i=0) then (Gb s.mode s.la (s.g.at i) (s.c i)) else (fun _=>0)
def Q8 (s:DramS) (i:Int):Int:=bif decide (s.g.atE i=0) then 0 else (s.g.atE i)
theorem Azs (s:DramS) (i:Int) (ok:DramOk s):Sp P 42 [.pt 0 0,vi i] (ros (Jk s 0)) (.tu [.ar .u8 72 (nf (Mi s i)),vi (Q8 s i)]) (ros (Jk s 0)):=by
 generalize d0:Mi s i=yd0
 unfold Mi at d0
 generalize d1:Q8 s i=yd1
 unfold Q8 at d1
 rcases bft (decide (s.g.atE i=0)) with q1 | q1
 ·rw [A2 q1] at d0 d1
  subst d0 d1
  exact so Tryz.f42 6 (ir 0 4) (.c [] (Hg s.g i) (.g q1 (.c [.id 2] (At6 s.mode s.la (s.g.at i) (s.c i) ok.md (Nat.le_trans ok.ll (by decide)) (ok.c _) ok.la) .nil)))
 ·rw [A1 q1] at d0 d1
  subst d0 d1
  exact so Tryz.f42 4 (ir 0 4) (.c [] (Hg s.g i) (.g q1 .nil))
theorem A84 (x:FltN) (l:List FltN) (hl:(x :: l).length<=65536):Sp P 310 [.sl 0] [.ro (.row eF (x :: l))] (.sl 1) [.ro (.row eF (x :: l)),.row eF (x :: l)] :=
 so Tryz.f310 4 [.id 0,.id 3] (.n (.bs 5 (e:=eF) [] (.ap (e:=eF) (l:=[]) (l':=x :: l) .row .row (by simp only [List.length_nil,List.length_cons] at *; omega) .nil)))
theorem X0 (a:Addr) (c:Nat) :Sp P 310 [.v (.slice (some a) 0 c)] [.ro (.row eF [])] (.sl 1) [.ro (.row eF []),.row eF []] :=
 so Tryz.f310 4 [.id 0,.id 3] (.n (.bs 5 (e:=eF) [] (.ap (e:=eF) (l:=[]) (l':=[]) .row (.flat [] [] rfl) (by decide) .nil)))
theorem Abu  :Sp P 310 [A64] [.ro (.row eF [])] (.sl 1) [.ro (.row eF []),.row eF []] :=
 so Tryz.f310 3 [.id 0,.nil] (.y .nil)
theorem Abt (l:List FltN) (hl:l.length<=65536):Sp P 310 [.sl 0] [.ro (.row eF l)] (.sl 1) [.ro (.row eF l),.row eF l]:=by
 cases l with
 | cons x l=>exact A84 x l hl
 | nil =>
   have hA:=Abu
   refine ⟨⟨rfl,rfl⟩,hA.ln,hA.fr,hA.rs,hA.ro,fun ρ M w h=>?_⟩
   obtain ⟨h1,h2,h3,h4⟩:=h.row (g:=0) rfl rfl
   cases ha:(ρ 0).a with
   | none =>
     cases hea:(ρ 0).ea with
     | none =>
       have e:V.dens ρ [V.sl 0]=V.dens ρ [A64]:=by simp only [V.dens,V.den,Loc.slv_none ha,Loc.emp,hea]
       rw [e]; exact hA.out ρ M w h
     | some A =>
       have e:V.dens ρ [V.sl 0]=V.dens ρ [V.v (.slice (some A) 0 (ρ 0).ec)]:=by simp only [V.dens,V.den,Loc.slv_none ha,Loc.emp,hea]
       rw [e]; exact (X0 _ _).out ρ M w h
   | some a =>
     have e:V.dens ρ [V.sl 0]=V.dens ρ [V.v (.slice (some ((ρ 0).adr 0)) 0 (ρ 0).cap)]:=by simp only [V.dens,V.den,L2 ha,h1,List.length_nil]
     rw [e]; exact (X0 _ _).out ρ M w h
theorem A2q (l:List FltN) (f:FltN) (h:decide (256<=(l.length:Int))=true):Sp P 181 [.sl 0,.ag [vi f.kind,vi f.rank,vi f.bank,vi f.row,vi f.col,vn f.chip,vn f.bit,vn f.value]] [.ro (.row eF l)] (.tu [.sl 0,vn 14]) [.ro (.row eF l)] :=
 so Tryz.f181 3 [.id 0] (.t h .nil)
theorem Arl (l:List FltN) (f:FltN) (g:Gm) (m:Int) (h:decide (256<=(l.length:Int))=false):Sp P 181 [.sl 0,.ag [vi f.kind,vi f.rank,vi f.bank,vi f.row,vi f.col,vn f.chip,vn f.bit,vn f.value]] [.row eF l,.blk [vi g.ranks,vi g.spares,vi g.banks,vi g.rows,vi g.cols,vi m,.mp 2,.sl 0,.sl 3] 208,.ro (.gone),.ro (.gone)] (.tu [.sl 4,vn 0]) [.gone,.blk [vi g.ranks,vi g.spares,vi g.banks,vi g.rows,vi g.cols,vi m,.mp 2,.sl 0,.sl 3] 208,.ro (.gone),.ro (.gone),.row eF (l ++ [f])] :=
 so Tryz.f181 5 (ir 0 4 ++ .id 7 :: []) (.t h (.ap (e:=eF) (l:=l) (l':=[f]) .row (.flat [vi f.kind,vi f.rank,vi f.bank,vi f.row,vi f.col,vn f.chip,vn f.bit,vn f.value] [f] rfl) (by have:=ofq h; simp only [List.length_cons,List.length_nil]; omega) .nil))
theorem Ark (l:List FltN) (f:FltN) (g:Gm) (m:Int) (h:decide (256<=(l.length:Int))=false):Sp P 181 [.sl 0,.ag [vi f.kind,vi f.rank,vi f.bank,vi f.row,vi f.col,vn f.chip,vn f.bit,vn f.value]] [.row eF l,.blk [vi g.ranks,vi g.spares,vi g.banks,vi g.rows,vi g.cols,vi m,.mp 2,.sl 3,.sl 0] 208,.ro (.gone),.ro (.gone)] (.tu [.sl 4,vn 0]) [.gone,.blk [vi g.ranks,vi g.spares,vi g.banks,vi g.rows,vi g.cols,vi m,.mp 2,.sl 3,.sl 0] 208,.ro (.gone),.ro (.gone),.row eF (l ++ [f])] :=
 so Tryz.f181 5 (ir 0 4 ++ .id 7 :: []) (.t h (.ap (e:=eF) (l:=l) (l':=[f]) .row (.flat [vi f.kind,vi f.rank,vi f.bank,vi f.row,vi f.col,vn f.chip,vn f.bit,vn f.value] [f] rfl) (by have:=ofq h; simp only [List.length_cons,List.length_nil]; omega) .nil))
def Hq (s:DramS) (f:FltN):DramS:=bif decide (f.kind=1) then { s with c:=upZ s.c (s.g.ix (⟨f.rank,f.bank,f.row,f.col⟩:Pl)) (Pv (s.c (s.g.ix (⟨f.rank,f.bank,f.row,f.col⟩:Pl))) f.bit) } else (bif (Dr (⟨f.kind,f.rank,f.bank,f.row,f.col,(f.chip:Int),(f.bit:Int),(f.value:Int)⟩:Flt)) then (bif decide (256<=(s.la.length:Int)) then s else { s with la:=s.la ++ [f] }) else (bif decide (256<=(s.co.length:Int)) then s else { s with co:=s.co ++ [f] }))
def Ks (s:DramS) (f:FltN):Int:=bif decide (f.kind=1) then (s.g.ixE (⟨f.rank,f.bank,f.row,f.col⟩:Pl)) else (bif (Dr (⟨f.kind,f.rank,f.bank,f.row,f.col,(f.chip:Int),(f.bit:Int),(f.value:Int)⟩:Flt)) then (bif decide (256<=(s.la.length:Int)) then 14 else 0) else (bif decide (256<=(s.co.length:Int)) then 14 else 0))
theorem Akp (s:DramS) (f:FltN) (ok:DramOk s) (hf:C3 s.mode f.flt s.g=true):Sp P 109 [.pt 0 0,.ag [vi f.kind,vi f.rank,vi f.bank,vi f.row,vi f.col,vn f.chip,vn f.bit,vn f.value]] (Jk s 0) (vi (Ks s f)) (Jk (Hq s f) 0):=by
 generalize d0:Hq s f=yd0
 unfold Hq at d0
 generalize d1:Ks s f=yd1
 unfold Ks at d1
 rcases bft (decide (f.kind=1)) with q1 | q1
 ·rw [A2 q1] at d0 d1
  subst d0 d1
  exact so Tryz.f109 7 (ir 0 4) (.c [] (W2 s.mode (⟨f.kind,f.rank,f.bank,f.row,f.col,(f.chip:Int),(f.bit:Int),(f.value:Int)⟩:Flt) s.g ok.md) (.t (congrArg (!·) (show (C3 s.mode (⟨f.kind,f.rank,f.bank,f.row,f.col,(f.chip:Int),(f.bit:Int),(f.value:Int)⟩:Flt) s.g)=true from hf)) (.t q1 (.c [] (Hb s.g (⟨f.rank,f.bank,f.row,f.col⟩:Pl)) (.c [] (Af6 (s.c (s.g.ix (⟨f.rank,f.bank,f.row,f.col⟩:Pl))) f.bit (ok.c _) ((FltN.okR ok.md hf).2.1)) (.mu (Acn s.c (s.g.ix (⟨f.rank,f.bank,f.row,f.col⟩:Pl)) (Pv (s.c (s.g.ix (⟨f.rank,f.bank,f.row,f.col⟩:Pl))) f.bit)) .nil))))))
 ·rw [A1 q1] at d0 d1
  have q1':=ofq q1
  rcases bft (Dr (⟨f.kind,f.rank,f.bank,f.row,f.col,(f.chip:Int),(f.bit:Int),(f.value:Int)⟩:Flt)) with q2 | q2
  ·rw [A2 q2] at d0 d1
   rcases bft (decide (256<=(s.la.length:Int))) with q3 | q3
   ·rw [A2 q3] at d0 d1
    have q3':=otq q3
    subst d0 d1
    exact so Tryz.f109 6 (ir 0 4) (.c [] (W2 s.mode (⟨f.kind,f.rank,f.bank,f.row,f.col,(f.chip:Int),(f.bit:Int),(f.value:Int)⟩:Flt) s.g ok.md) (.t (congrArg (!·) (show (C3 s.mode (⟨f.kind,f.rank,f.bank,f.row,f.col,(f.chip:Int),(f.bit:Int),(f.value:Int)⟩:Flt) s.g)=true from hf)) (.t q1 (.c [] (O9 (⟨f.kind,f.rank,f.bank,f.row,f.col,(f.chip:Int),(f.bit:Int),(f.value:Int)⟩:Flt)) (.t q2 (.c [.id 2] (A2q s.la f (by first | assumption | omega)) .nil))))))
   ·rw [A1 q3] at d0 d1
    have q3':=ofq q3
    subst d0 d1
    exact so Tryz.f109 6 [.id 0,.id 1,.id 7,.id 3] (.c [] (W2 s.mode (⟨f.kind,f.rank,f.bank,f.row,f.col,(f.chip:Int),(f.bit:Int),(f.value:Int)⟩:Flt) s.g ok.md) (.t (congrArg (!·) (show (C3 s.mode (⟨f.kind,f.rank,f.bank,f.row,f.col,(f.chip:Int),(f.bit:Int),(f.value:Int)⟩:Flt) s.g)=true from hf)) (.t q1 (.c [] (O9 (⟨f.kind,f.rank,f.bank,f.row,f.col,(f.chip:Int),(f.bit:Int),(f.value:Int)⟩:Flt)) (.t q2 (.c [.id 2,.id 0,.id 1,.id 3] (Arl s.la f s.g s.mode (by first | assumption | omega)) .nil))))))
  ·rw [A1 q2] at d0 d1
   rcases bft (decide (256<=(s.co.length:Int))) with q3 | q3
   ·rw [A2 q3] at d0 d1
    have q3':=otq q3
    subst d0 d1
    exact so Tryz.f109 6 (ir 0 4) (.c [] (W2 s.mode (⟨f.kind,f.rank,f.bank,f.row,f.col,(f.chip:Int),(f.bit:Int),(f.value:Int)⟩:Flt) s.g ok.md) (.t (congrArg (!·) (show (C3 s.mode (⟨f.kind,f.rank,f.bank,f.row,f.col,(f.chip:Int),(f.bit:Int),(f.value:Int)⟩:Flt) s.g)=true from hf)) (.t q1 (.c [] (O9 (⟨f.kind,f.rank,f.bank,f.row,f.col,(f.chip:Int),(f.bit:Int),(f.value:Int)⟩:Flt)) (.t q2 (.c [.id 3] (A2q s.co f (by first | assumption | omega)) .nil))))))
   ·rw [A1 q3] at d0 d1
    have q3':=ofq q3
    subst d0 d1
    exact so Tryz.f109 6 (ir 0 3 ++ .id 7 :: []) (.c [] (W2 s.mode (⟨f.kind,f.rank,f.bank,f.row,f.col,(f.chip:Int),(f.bit:Int),(f.value:Int)⟩:Flt) s.g ok.md) (.t (congrArg (!·) (show (C3 s.mode (⟨f.kind,f.rank,f.bank,f.row,f.col,(f.chip:Int),(f.bit:Int),(f.value:Int)⟩:Flt) s.g)=true from hf)) (.t q1 (.c [] (O9 (⟨f.kind,f.rank,f.bank,f.row,f.col,(f.chip:Int),(f.bit:Int),(f.value:Int)⟩:Flt)) (.t q2 (.c (.id 3 :: ir 0 3) (Ark s.co f s.g s.mode (by first | assumption | omega)) .nil))))))
theorem Akq (s:DramS) (f:Flt) (ok:DramOk s) (hf:C3 s.mode f s.g=false):Sp P 109 [.pt 0 0,.ag [vi f.kind,vi f.rank,vi f.bank,vi f.row,vi f.col,vi f.chip,vi f.bit,vi f.value]] (Jk s 0) (vn 10) (Jk s 0) :=
 so Tryz.f109 4 (ir 0 4) (.c [] (W2 s.mode f s.g ok.md) (.t (congrArg (!·) (show (C3 s.mode f s.g)=false from hf)) .nil))
def Dj (s:DramS) (f:Flt):DramS:=bif C3 s.mode f s.g then Hq s f.n else s
def Cm (s:DramS) (f:Flt):Int:=bif C3 s.mode f s.g then (Ks s f.n) else 10
theorem Flt.n_flt {f:Flt} (h1:0<=f.chip) (h2:0<=f.bit) (h3:0<=f.value):f.n.flt=f:=by
 cases f; simp only [Flt.n,FltN.flt] at *; rw [Int.toNat_of_nonneg h1,Int.toNat_of_nonneg h2,Int.toNat_of_nonneg h3]
theorem Flt.cells {f:Flt} (h1:0<=f.chip) (h2:0<=f.bit) (h3:0<=f.value):(.ag [vi f.n.kind,vi f.n.rank,vi f.n.bank,vi f.n.row,vi f.n.col,vn f.n.chip,vn f.n.bit,vn f.n.value]:V)=.ag [vi f.kind,vi f.rank,vi f.bank,vi f.row,vi f.col,vi f.chip,vi f.bit,vi f.value]:=by
 show V.ag [vi f.kind,vi f.rank,vi f.bank,vi f.row,vi f.col,vi (f.chip.toNat:Int),vi (f.bit.toNat:Int),vi (f.value.toNat:Int)]=_
 rw [Int.toNat_of_nonneg h1,Int.toNat_of_nonneg h2,Int.toNat_of_nonneg h3]
theorem Arj (s:DramS) (f:Flt) (ok:DramOk s):Sp P 109 [.pt 0 0,.ag [vi f.kind,vi f.rank,vi f.bank,vi f.row,vi f.col,vi f.chip,vi f.bit,vi f.value]] (Jk s 0) (vi (Cm s f)) (Jk (Dj s f) 0):=by
 unfold Cm Dj
 cases q:C3 s.mode f s.g with
 | false=>exact Akq s f ok q
 | true =>
   obtain ⟨_,_,h3,h4,h5,_⟩:=Ku ok.md q
   have h:=Akp s f.n ok (by rw [Flt.n_flt h4.1 h3.1 h5.1]; exact q)
   rw [Flt.cells h4.1 h3.1 h5.1] at h
   exact h
theorem Ab6 {s:DramS} {f:Flt} (ok:DramOk s):DramOk (Dj s f):=by
 unfold Dj
 cases q:C3 s.mode f s.g with
 | false=>exact ok
 | true =>
   obtain ⟨_,_,h3,h4,h5,_⟩:=Ku ok.md q
   have hf:=FltN.okR ok.md (f:=f.n) (g:=s.g) (by rw [Flt.n_flt h4.1 h3.1 h5.1]; exact q)
   obtain ⟨o1,o2,o3,o4,o5⟩:=ok
   show DramOk (Hq s f.n)
   unfold Hq
   cases decide (f.n.kind=1) with
   | true =>
     refine ⟨o1,fun k j=>?_,o3,o4,o5⟩
     show upZ s.c _ _ k j < 256
     unfold upZ
     split
     ·exact A58 (o2 _) _ _
     ·exact o2 k j
   | false =>
     simp only [cond_false]
     cases Dr _ with
     | true =>
       simp only [cond_true]
       cases q2:decide (256<=(s.la.length:Int)) with
       | true=>exact ⟨o1,o2,o3,o4,o5⟩
       | false =>
         have:=ofq q2
         refine ⟨o1,o2,fun x hx=>?_,?_,o5⟩
         ·rcases List.mem_append.1 hx with hx | hx
          ·exact o3 x hx
          ·rw [List.mem_singleton.1 hx]; exact hf
         ·show (s.la ++ [f.n]).length<=256
          rw [List.length_append]; show s.la.length + 1<=256; omega
     | false =>
       simp only [cond_false]
       cases q2:decide (256<=(s.co.length:Int)) with
       | true=>exact ⟨o1,o2,o3,o4,o5⟩
       | false =>
         have:=ofq q2
         refine ⟨o1,o2,o3,o4,?_⟩
         show (s.co ++ [f.n]).length<=256
         rw [List.length_append]; show s.co.length + 1<=256; omega
def Eg (s:DramS) (i:Int):DramS:=bif decide ((s.co.length:Int)=0) then s else { s with co:=(s.co.drop 1).take (s.co.length - 1) }
def E8 (s:DramS) (i:Int):Int:=bif decide ((s.co.length:Int)=0) then i else (bif decide ((s.co.getD 0 Fs).kind=7) then i else (bif decide (s.g.ixE (⟨(s.co.getD 0 Fs).rank,(s.co.getD 0 Fs).bank,(s.co.getD 0 Fs).row,(s.co.getD 0 Fs).col⟩:Pl)=0) then (s.g.ix (⟨(s.co.getD 0 Fs).rank,(s.co.getD 0 Fs).bank,(s.co.getD 0 Fs).row,(s.co.getD 0 Fs).col⟩:Pl)) else i))
def G4 (s:DramS) (i:Int):Bool:=bif decide ((s.co.length:Int)=0) then false else (bif decide ((s.co.getD 0 Fs).kind=7) then true else false)
theorem Aee (s:DramS) (i:Int) (ok:DramOk s):Sp P 288 [.pt 0 0,vi i] (Jk s 0) (.ag [vi (E8 s i),vt (G4 s i)]) (Jk (Eg s i) 0):=by
 have hcl:=ok.cl
 generalize d0:Eg s i=yd0
 unfold Eg at d0
 generalize d1:E8 s i=yd1
 unfold E8 at d1
 generalize d2:G4 s i=yd2
 unfold G4 at d2
 rcases bft (decide ((s.co.length:Int)=0)) with q1 | q1
 ·rw [A2 q1] at d0 d1 d2
  subst d0 d1 d2
  exact so Tryz.f288 3 (ir 0 4) (.t q1 .nil)
 ·rw [A1 q1] at d0 d1 d2
  have q1':=ofq q1
  rcases bft (decide ((s.co.getD 0 Fs).kind=7)) with q2 | q2
  ·rw [A2 q2] at d1 d2
   have q2':=otq q2
   subst d0 d1 d2
   exact so Tryz.f288 5 (ir 0 3 ++ .id 7 :: []) (.t q1 (.ix (i:=0) (m:=s.co.length) (by omega) (.el (e:=eF) (gDx (l:=s.co) (i:=0) Fs (by omega)) (.sl (i:=1) (n:=s.co.length - 1) (m:=s.co.length) (hi:=(s.co.length:Int)) (h2:=by omega) (by omega) (.cw [.ss 3 1 8 (s.co.length - 1)] (Abt ((s.co.drop 1).take (s.co.length - 1)) (by rw [List.length_take,List.length_drop]; omega)) _ (congrArg (fun z:Fd=>[z]) (vwS eF s.co 1 (s.co.length - 1) (by first | assumption | omega))) (.t q2 .nil))))))
  ·rw [A1 q2] at d1 d2
   have q2':=ofq q2
   rcases bft (decide (s.g.ixE (⟨(s.co.getD 0 Fs).rank,(s.co.getD 0 Fs).bank,(s.co.getD 0 Fs).row,(s.co.getD 0 Fs).col⟩:Pl)=0)) with q3 | q3
   ·rw [A2 q3] at d1
    have q3':=otq q3
    subst d0 d1 d2
    exact so Tryz.f288 6 (ir 0 3 ++ .id 7 :: []) (.t q1 (.ix (i:=0) (m:=s.co.length) (by omega) (.el (e:=eF) (gDx (l:=s.co) (i:=0) Fs (by omega)) (.sl (i:=1) (n:=s.co.length - 1) (m:=s.co.length) (hi:=(s.co.length:Int)) (h2:=by omega) (by omega) (.cw [.ss 3 1 8 (s.co.length - 1)] (Abt ((s.co.drop 1).take (s.co.length - 1)) (by rw [List.length_take,List.length_drop]; omega)) _ (congrArg (fun z:Fd=>[z]) (vwS eF s.co 1 (s.co.length - 1) (by first | assumption | omega))) (.t q2 (.c [] (Hb s.g (⟨(s.co.getD 0 Fs).rank,(s.co.getD 0 Fs).bank,(s.co.getD 0 Fs).row,(s.co.getD 0 Fs).col⟩:Pl)) (.g q3 .nil))))))))
   ·rw [A1 q3] at d1
    have q3':=ofq q3
    subst d0 d1 d2
    exact so Tryz.f288 6 (ir 0 3 ++ .id 7 :: []) (.t q1 (.ix (i:=0) (m:=s.co.length) (by omega) (.el (e:=eF) (gDx (l:=s.co) (i:=0) Fs (by omega)) (.sl (i:=1) (n:=s.co.length - 1) (m:=s.co.length) (hi:=(s.co.length:Int)) (h2:=by omega) (by omega) (.cw [.ss 3 1 8 (s.co.length - 1)] (Abt ((s.co.drop 1).take (s.co.length - 1)) (by rw [List.length_take,List.length_drop]; omega)) _ (congrArg (fun z:Fd=>[z]) (vwS eF s.co 1 (s.co.length - 1) (by first | assumption | omega))) (.t q2 (.c [] (Hb s.g (⟨(s.co.getD 0 Fs).rank,(s.co.getD 0 Fs).bank,(s.co.getD 0 Fs).row,(s.co.getD 0 Fs).col⟩:Pl)) (.g q3 .nil))))))))
theorem Tt {s:DramS} {i:Int} (ok:DramOk s):DramOk (Eg s i):=by
 obtain ⟨o1,o2,o3,o4,o5⟩:=ok
 unfold Eg
 cases decide ((s.co.length:Int)=0)
 ·exact ⟨o1,o2,o3,o4,by show (List.take _ (List.drop 1 s.co)).length<=256; rw [List.length_take,List.length_drop]; omega⟩
 ·exact ⟨o1,o2,o3,o4,o5⟩
def E9 (s:DramS) (i:Int) (r:Nat->Nat):DramS:=bif decide (s.g.atE i=0) then (bif (G4 s i) then (Eg s i) else { (Eg s i) with c:=upZ (Eg s i).c (E8 s i) r }) else s
def Fv (s:DramS) (i:Int) (r:Nat->Nat):Int:=bif decide (s.g.atE i=0) then (E8 s i) else 0
def Fw (s:DramS) (i:Int) (r:Nat->Nat):Bool:=bif decide (s.g.atE i=0) then (G4 s i) else false
def Eh (s:DramS) (i:Int) (r:Nat->Nat):Int:=bif decide (s.g.atE i=0) then 0 else (s.g.atE i)
theorem Akt (s:DramS) (i:Int) (r:Nat->Nat) (ok:DramOk s):Sp P 287 [.pt 0 0,vi i,.ar .u8 72 (nf r)] (Jk s 0) (.tu [.ag [vi (Fv s i r),vt (Fw s i r)],vi (Eh s i r)]) (Jk (E9 s i r) 0):=by
 generalize d0:E9 s i r=yd0
 unfold E9 at d0
 generalize d1:Fv s i r=yd1
 unfold Fv at d1
 generalize d2:Fw s i r=yd2
 unfold Fw at d2
 generalize d3:Eh s i r=yd3
 unfold Eh at d3
 rcases bft (decide (s.g.atE i=0)) with q1 | q1
 ·rw [A2 q1] at d0 d1 d2 d3
  rcases bft (G4 s i) with q2 | q2
  ·rw [A2 q2] at d0
   subst d0 d1 d2 d3
   exact so Tryz.f287 6 (ir 0 4) (.c [] (Hg s.g i) (.g q1 (.c (ir 0 4) (Aee s i ok) (.g q2 .nil))))
  ·rw [A1 q2] at d0
   subst d0 d1 d2 d3
   exact so Tryz.f287 7 (ir 0 4) (.c [] (Hg s.g i) (.g q1 (.c (ir 0 4) (Aee s i ok) (.g q2 (.mu (Acn (Eg s i).c (E8 s i) r) .nil)))))
 ·rw [A1 q1] at d0 d1 d2 d3
  subst d0 d1 d2 d3
  exact so Tryz.f287 5 (ir 0 4) (.c [] (Hg s.g i) (.g q1 .nil))
def Bz (s:DramS) (i:Int):DramS:=bif decide (s.g.atE i=0) then (Eg s i) else s
def Cs (s:DramS) (i:Int):Nat->Nat:=bif decide (s.g.atE i=0) then (bif (G4 s i) then (fun _=>0) else (Mi (Eg s i) (E8 s i))) else (fun _=>0)
def B4 (s:DramS) (i:Int):Int:=bif decide (s.g.atE i=0) then (E8 s i) else 0
def D4 (s:DramS) (i:Int):Bool:=bif decide (s.g.atE i=0) then (G4 s i) else false
def In (s:DramS) (i:Int):Int:=bif decide (s.g.atE i=0) then (bif (G4 s i) then 0 else (Q8 (Eg s i) (E8 s i))) else (s.g.atE i)
theorem Aks (s:DramS) (i:Int) (ok:DramOk s):Sp P 255 [.pt 0 0,vi i] (Jk s 0) (.tu [.ar .u8 72 (nf (Cs s i)),.ag [vi (B4 s i),vt (D4 s i)],vi (In s i)]) (Jk (Bz s i) 0):=by
 generalize d0:Bz s i=yd0
 unfold Bz at d0
 generalize d1:Cs s i=yd1
 unfold Cs at d1
 generalize d2:B4 s i=yd2
 unfold B4 at d2
 generalize d3:D4 s i=yd3
 unfold D4 at d3
 generalize d4:In s i=yd4
 unfold In at d4
 rcases bft (decide (s.g.atE i=0)) with q1 | q1
 ·rw [A2 q1] at d0 d1 d2 d3 d4
  rcases bft (G4 s i) with q2 | q2
  ·rw [A2 q2] at d1 d4
   subst d0 d1 d2 d3 d4
   exact so Tryz.f255 8 (ir 0 4) (.c [] (Hg s.g i) (.g q1 (.c (ir 0 4) (Aee s i ok) (.t q2 .nil))))
  ·rw [A1 q2] at d1 d4
   subst d0 d1 d2 d3 d4
   exact so Tryz.f255 9 (ir 0 4) (.c [] (Hg s.g i) (.g q1 (.c (ir 0 4) (Aee s i ok) (.t q2 (.c (ir 0 4) (Azs (Eg s i) (E8 s i) (Tt ok)) .nil)))))
 ·rw [A1 q1] at d0 d1 d2 d3 d4
  subst d0 d1 d2 d3 d4
  exact so Tryz.f255 5 (ir 0 4) (.c [] (Hg s.g i) (.g q1 .nil))
theorem A2p {s:DramS} {i:Int} {r:Nat->Nat} (ok:DramOk s) (hr:∀ j,r j < 256):DramOk (E9 s i r):=by
 obtain ⟨o1,o2,o3,o4,o5⟩:=Tt (i:=i) ok
 unfold E9
 cases decide (s.g.atE i=0)
 ·exact ok
 ·cases G4 s i
  ·refine ⟨o1,fun k j=>?_,o3,o4,o5⟩
   show upZ (Eg s i).c _ _ k j < 256
   unfold upZ
   split
   ·exact hr j
   ·exact o2 k j
  ·exact ⟨o1,o2,o3,o4,o5⟩
theorem Za {s:DramS} {i:Int} (ok:DramOk s):DramOk (Bz s i):=by
 unfold Bz
 cases decide (s.g.atE i=0)
 ·exact ok
 ·exact Tt (i:=i) ok
theorem Akr {s:DramS} {i:Int} (ok:DramOk s) (j:Nat):Mi s i j < 256:=by
 unfold Mi
 simp only [Bool.cond_eq_ite]
 split
 ·first | exact A0s ok.md (ok.c _) ok.la j | exact (by decide:(0:Nat) < 256)
 ·first | exact A0s ok.md (ok.c _) ok.la j | exact (by decide:(0:Nat) < 256)
theorem Ts {s:DramS} {i:Int} (ok:DramOk s) (j:Nat):Cs s i j < 256:=by
 unfold Cs
 cases decide (s.g.atE i=0)
 ·exact (by decide:(0:Nat) < 256)
 ·cases G4 s i
  ·exact Akr (Tt (i:=i) ok) j
  ·exact (by decide:(0:Nat) < 256)
structure DevOk (s:DevS):Prop where
 d:DramOk s.d
 gh:∀ k j,s.gh k j < 256
def Ai (m:Int) (r:Nat->Nat) (q:Nat->Nat):Nat:=bif decide (m=1) then (ex1 r q 8) else (ex2 r q 2)
theorem A82 (m:Int) (r:Nat->Nat) (q:Nat->Nat) (hm:m=1 ∨ m=2) (hr:∀ j,r j < 256) (hq:∀ j,q j < 256):Sp P 256 [vi m,.ar .u8 72 (nf r),.ar .u8 72 (nf q)] [] (vn (Ai m r q)) []:=by
 rcases hm with rfl | rfl
 ·simp only [Ai,show decide ((1:Int)=1)=true from rfl,cond_true]; exact Eq.mp (by kernel_rfl) (Abr r q hr hq)
 ·simp only [Ai,show decide ((2:Int)=1)=false from rfl,cond_false]; exact Eq.mp (by kernel_rfl) (Abs r q hr hq)
theorem Sq (s:DevS) :Sp P 41 [.pt 0 0] (ros (L6 s 0)) (.pt 4 0) (ros (L6 s 0)) :=
 so Tryz.f41 3 (ir 0 8) .nil
theorem Kj (s:DevS) :Sp P 51 [.pt 0 0] (ros (L6 s 0)) (vn s.l.length) (ros (L6 s 0)) :=
 so Tryz.f51 3 (ir 0 8) .nil
theorem Au0 (s:DevS) (i:Int) :Sp P 257 [.pt 0 0,vi i] (ros (L6 s 0)) (vt (decide (s.mks i=1))) (ros (L6 s 0)) :=
 so Tryz.f257 3 (ir 0 8) .nil
def Ig (s:DevS) (f:Flt):DevS:={ s with d:=(Dj s.d f) }
theorem Agv (s:DevS) (f:Flt) (ok:DevOk s):Sp P 37 [.pt 0 0,.ag [vi f.kind,vi f.rank,vi f.bank,vi f.row,vi f.col,vi f.chip,vi f.bit,vi f.value]] (L6 s 0) (vi (Cm s.d f)) (L6 (Ig s f) 0) :=
 so Tryz.f37 4 (ir 0 8) (.c (ir 4 4) (Arj s.d f ok.d) .nil)
def Df (s:DevS) (i:Int) (r:Nat->Nat) (m:Int):DevS:=bif decide ((Eh s.d i r)=0) then (⟨(E9 s.d i r),upZ s.gh i r,upZ s.mks i m,(s.l ++ [(⟨true,i,Fv s.d i r,Fw s.d i r,0,false⟩:Acc)])⟩:DevS) else { s with d:=(E9 s.d i r) }
def Ve (s:DevS) (i:Int) (r:Nat->Nat) (m:Int):Int:=bif decide ((Eh s.d i r)=0) then 0 else (Eh s.d i r)
theorem B1i (s:DevS) (i:Int) (r:Nat->Nat) (m:Int) (ok:DevOk s) (hl:s.l.length<=100000000):Sp P 254 [.pt 0 0,vi i,.ar .u8 72 (nf r),vi m] (L6 s 0) (vi (Ve s i r m)) (L6 (Df s i r m) 0):=by
 generalize d0:Df s i r m=yd0
 unfold Df at d0
 generalize d1:Ve s i r m=yd1
 unfold Ve at d1
 rcases bft (decide ((Eh s.d i r)=0)) with q1 | q1
 ·rw [A2 q1] at d0 d1
  have q1':=otq q1
  subst d0 d1
  exact so Tryz.f254 10 (ir 0 3 ++ .id 15 :: ir 4 4) (.c (ir 4 4) (Akt s.d i r ok.d) (.g q1 (.mu (Acn s.gh i r) (.mu (Aco s.mks i m) (.ap (e:=Abc) (l:=s.l) (l':=[(⟨true,i,Fv s.d i r,Fw s.d i r,0,false⟩:Acc)]) .row (.flat [vt true,vi i,vi (Fv s.d i r),vt (Fw s.d i r),vn 0,vt false] [(⟨true,i,Fv s.d i r,Fw s.d i r,0,false⟩:Acc)] rfl) (by simp only [List.length_append,List.length_cons,List.length_nil]; omega) .nil)))))
 ·rw [A1 q1] at d0 d1
  subst d0 d1
  exact so Tryz.f254 6 (ir 0 8) (.c (ir 4 4) (Akt s.d i r ok.d) (.g q1 .nil))
theorem Az4 (s:DevS) (i:Int) (r:Nat->Nat) (ok:DevOk s) (hl:s.l.length<=100000000):Sp P 193 [.pt 0 0,vi i,.ar .u8 72 (nf r)] (L6 s 0) (vi (Ve s i r 0)) (L6 (Df s i r 0) 0) :=
 so Tryz.f193 3 (ir 0 8) (.c (ir 0 8) (B1i s i r 0 (by first | assumption | omega) (by first | assumption | omega)) .nil)
theorem B1f (s:DevS) (i:Int) (r:Nat->Nat) (ok:DevOk s) (hl:s.l.length<=100000000):Sp P 192 [.pt 0 0,vi i,.ar .u8 72 (nf r)] (L6 s 0) (vi (Ve s i r 1)) (L6 (Df s i r 1) 0) :=
 so Tryz.f192 3 (ir 0 8) (.c (ir 0 8) (B1i s i r 1 (by first | assumption | omega) (by first | assumption | omega)) .nil)
def F8 (s:DevS) (i:Int):DevS:=bif decide ((In s.d i)=0) then (bif (D4 s.d i) then (⟨(Bz s.d i),s.gh,s.mks,(s.l ++ [(⟨false,i,B4 s.d i,D4 s.d i,(((Ai (Bz s.d i).mode (Cs s.d i) (s.gh (B4 s.d i))):Nat):Int),false⟩:Acc)])⟩:DevS) else (⟨(Bz s.d i),s.gh,s.mks,(s.l ++ [(⟨false,i,B4 s.d i,D4 s.d i,(((Ai (Bz s.d i).mode (Cs s.d i) (s.gh (B4 s.d i))):Nat):Int),decide (s.mks (B4 s.d i)=1)⟩:Acc)])⟩:DevS)) else { s with d:=(Bz s.d i) }
def Ab (s:DevS) (i:Int):Nat->Nat:=bif decide ((In s.d i)=0) then (Cs s.d i) else (fun _=>0)
def A1k (s:DevS) (i:Int):Int:=bif decide ((In s.d i)=0) then 0 else (In s.d i)
theorem B1g (s:DevS) (i:Int) (ok:DevOk s) (hl:s.l.length<=100000000):Sp P 197 [.pt 0 0,vi i] (L6 s 0) (.tu [.ar .u8 72 (nf (Ab s i)),vi (A1k s i)]) (L6 (F8 s i) 0):=by
 generalize d0:F8 s i=yd0
 unfold F8 at d0
 generalize d1:Ab s i=yd1
 unfold Ab at d1
 generalize d2:A1k s i=yd2
 unfold A1k at d2
 rcases bft (decide ((In s.d i)=0)) with q1 | q1
 ·rw [A2 q1] at d0 d1 d2
  have q1':=otq q1
  rcases bft (D4 s.d i) with q2 | q2
  ·rw [A2 q2] at d0
   subst d0 d1 d2
   exact so Tryz.f197 10 (ir 0 3 ++ .id 15 :: ir 4 4) (.c (ir 4 4) (Aks s.d i ok.d) (.g q1 (.c (ir 4 4) (Wu (Bz s.d i)) (.c [] (A82 (Bz s.d i).mode (Cs s.d i) (s.gh (B4 s.d i)) ((Za ok.d).md) (Ts ok.d) (ok.gh _)) (.g4 q2 (.g q2 (.ap (e:=Abc) (l:=s.l) (l':=[(⟨false,i,B4 s.d i,D4 s.d i,(((Ai (Bz s.d i).mode (Cs s.d i) (s.gh (B4 s.d i))):Nat):Int),false⟩:Acc)]) .row (.flat [vt false,vi i,vi (B4 s.d i),vt (D4 s.d i),vn (Ai (Bz s.d i).mode (Cs s.d i) (s.gh (B4 s.d i))),vt false] [(⟨false,i,B4 s.d i,D4 s.d i,(((Ai (Bz s.d i).mode (Cs s.d i) (s.gh (B4 s.d i))):Nat):Int),false⟩:Acc)] rfl) (by simp only [List.length_append,List.length_cons,List.length_nil]; omega) .nil)))))))
  ·rw [A1 q2] at d0
   subst d0 d1 d2
   exact so Tryz.f197 11 (ir 0 3 ++ .id 16 :: ir 4 4) (.c (ir 4 4) (Aks s.d i ok.d) (.g q1 (.c (ir 4 4) (Wu (Bz s.d i)) (.c [] (A82 (Bz s.d i).mode (Cs s.d i) (s.gh (B4 s.d i)) ((Za ok.d).md) (Ts ok.d) (ok.gh _)) (.g4 q2 (.c (ir 0 8) (Au0 { s with d:=(Bz s.d i) } (B4 s.d i)) (.g q2 (.ap (e:=Abc) (l:=s.l) (l':=[(⟨false,i,B4 s.d i,D4 s.d i,(((Ai (Bz s.d i).mode (Cs s.d i) (s.gh (B4 s.d i))):Nat):Int),decide (s.mks (B4 s.d i)=1)⟩:Acc)]) .row (.flat [vt false,vi i,vi (B4 s.d i),vt (D4 s.d i),vn (Ai (Bz s.d i).mode (Cs s.d i) (s.gh (B4 s.d i))),vt (decide (s.mks (B4 s.d i)=1))] [(⟨false,i,B4 s.d i,D4 s.d i,(((Ai (Bz s.d i).mode (Cs s.d i) (s.gh (B4 s.d i))):Nat):Int),decide (s.mks (B4 s.d i)=1)⟩:Acc)] rfl) (by simp only [List.length_append,List.length_cons,List.length_nil]; omega) .nil))))))))
 ·rw [A1 q1] at d0 d1 d2
  subst d0 d1 d2
  exact so Tryz.f197 5 (ir 0 8) (.c (ir 4 4) (Aks s.d i ok.d) (.g q1 .nil))
theorem Agx {s:DevS} {i:Int} {r:Nat->Nat} {m:Int} (ok:DevOk s) (hr:∀ j,r j < 256):DevOk (Df s i r m):=by
 unfold Df
 cases decide (Eh s.d i r=0)
 ·exact ⟨A2p ok.d hr,ok.gh⟩
 ·refine ⟨A2p ok.d hr,fun k j=>?_⟩
  show upZ s.gh _ _ k j < 256
  unfold upZ
  split
  ·exact hr j
  ·exact ok.gh k j
theorem Aq9 {s:DevS} {i:Int} (ok:DevOk s):DevOk (F8 s i):=by
 unfold F8
 simp only [Bool.cond_eq_ite]
 repeat (first | exact ⟨Za ok.d,ok.gh⟩ | split)
theorem Iv {s:DevS} {i:Int} (ok:DevOk s) (j:Nat):Ab s i j < 256:=by
 unfold Ab
 simp only [Bool.cond_eq_ite]
 repeat (first | exact Ts ok.d j | exact (by decide:(0:Nat) < 256) | split)
theorem Adn {s:DevS} {f:Flt} (ok:DevOk s):DevOk { s with d:=Dj s.d f }:=⟨Ab6 ok.d,ok.gh⟩
