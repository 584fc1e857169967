import Derived.Test.YtfhiggfmkjmeiaaGreatFRaw
set_option linter.all false
namespace Go.Proofs.YtfhiggfmkjmeiaaGreat
open Go Go.RowKit
set_option maxRecDepth 100000
theorem Arb  :Sp P 118 [] [] (.pt 0 0) [.blk [.pt 1 0,.pt 2 0] 314,hC,.blk [.pt 3 0,.sl 4] 368,gF,.row eB gen] :=
 so Tryz.f118 7 [.id 5,.id 1,.id 3,.id 2,.id 4] (.c [] (Asg) (.c [] (Ame) (.c [.id 2] (Aoz) .nil)))
def pf (b:Bool):Nat:=bif b then 1 else 0
theorem Xj (b:Bool):pf b < 2:=by cases b <;> decide
def cwB (l:Nat->Nat) (n:Int) (b:Bool) (k:Nat):List Nat:=Pb (wdF l k 8) 8 ++ [chk (wdF l k 8) (Cp n) (pf b)]
theorem Jo (l:Nat->Nat) (n:Int) (b:Bool) (k:Nat):(cwB l n b k).length=9:=by unfold cwB; rw [List.length_append,Fo]; rfl
theorem Ab5 (l:Nat->Nat) (n:Int) (b:Bool) (k:Nat):B8 (cwB l n b k):=(Afn _ _).app (.mem fun y hy=>by rw [List.mem_singleton.1 hy]; exact Aay _ _ _)
def Tw (l:Nat->Nat) (n:Int) (b:Bool):Nat->Nat->Nat
 | 0=>fun _=>0
 | k + 1=>Dy (Tw l n b k) (9 * k) 9 (fun j=>(cwB l n b k).getD j 0)
theorem Aej (l:Nat->Nat) (n:Int) (b:Bool):∀ k j,Tw l n b k j < 256
 | 0,_=>(by decide:(0:Nat) < 256)
 | k + 1,j=>Yg (Aej l n b k) (Ab5 l n b k) _ _ j
def hfF (l:Nat->Nat):Nat->Nat->Nat
 | 0=>l
 | k + 1=>fun j=>l (32 * (k + 1) + j)
theorem Ac0 {l:Nat->Nat} (hl:∀ j,l j < 256):∀ k j,hfF l k j < 256
 | 0,j=>hl j
 | k + 1,j=>hl _
def cwC (l:Nat->Nat) (n:Int) (b:Bool) (k:Nat):List Nat:=arL (ckF (hfF l k) (viF n b)) 4 0 ++ arL (hfF l k) 32 0
theorem A4u (l:Nat->Nat) (n:Int) (b:Bool) (k:Nat):(cwC l n b k).length=36:=by unfold cwC; rw [List.length_append,Bh,Bh]
theorem Ako {l:Nat->Nat} (hl:∀ j,l j < 256) (n:Int) (b:Bool) (k:Nat):B8 (cwC l n b k):=(Ij (Akh (Ac0 hl k) (Kk n b)) _ _).app (Ij (Ac0 hl k) _ _)
def Sz (l:Nat->Nat) (n:Int) (b:Bool):Nat->Nat->Nat
 | 0=>fun _=>0
 | k + 1=>Dy (Sz l n b k) (36 * k) 36 (fun j=>(cwC l n b k).getD j 0)
theorem Ael {l:Nat->Nat} (hl:∀ j,l j < 256) (n:Int) (b:Bool):∀ k j,Sz l n b k j < 256
 | 0,_=>(by decide:(0:Nat) < 256)
 | k + 1,j=>Yg (Ael hl n b k) (Ako hl n b k) _ _ j
theorem Alb (l:Nat->Nat) (n:Int) (b:Bool) (hl:∀ j,l j < 256):Sp P 191 [.pt 0 0,vn 1,.ar .u8 64 (nf l),vi n,vt b] [.ro (.blk [.pt 1 0,.pt 2 0] 314),.ro (hC),.ro (.blk [.pt 3 0,.sl 4] 368),.ro (gF),.ro (.row eB gen)] (.ar .u8 72 (nf (Tw l n b 8))) [.ro (.blk [.pt 1 0,.pt 2 0] 314),.ro (hC),.ro (.blk [.pt 3 0,.sl 4] 368),.ro (gF),.ro (.row eB gen)] :=
 so Tryz.f191 68 (ir 0 5) (.y (.c [] (Iz n) (.c [] (Aqe l) (.lu 8 (.y (.c [] (Nl l 0 hl (by decide)) (.c [] (Qp (wdF l 0 8)) (.c [] (Ll b) (.c [.id 1] (Jm (wdF l 0 8) (Cp n) (bif b then 1 else 0) (N0 hl _ 8 (Nat.le_refl _)) (Hj n) (Xj b)) (.bs 42 (e:=eB) [chk (wdF l 0 8) (Cp n) (pf b)] (.ap (e:=eB) (l:=Pb (wdF l 0 8) 8) (l':=[chk (wdF l 0 8) (Cp n) (pf b)]) .row .row (by rw [Fo]; show 9<=2147483648; decide) (.c [.id 20] (At8 (fun _=>0) (cwB l n b 0) (Jo l n b _)) (.n (.y (.c [] (Nl l 1 hl (by decide)) (.c [] (Qp (wdF l 1 8)) (.c [] (Ll b) (.c [.id 1] (Jm (wdF l 1 8) (Cp n) (bif b then 1 else 0) (N0 hl _ 8 (Nat.le_refl _)) (Hj n) (Xj b)) (.bs 42 (e:=eB) [chk (wdF l 1 8) (Cp n) (pf b)] (.ap (e:=eB) (l:=Pb (wdF l 1 8) 8) (l':=[chk (wdF l 1 8) (Cp n) (pf b)]) .row .row (by rw [Fo]; show 9<=2147483648; decide) (.c [.id 27] (At9 (Dy (fun _=>0) 0 9 (fun j=>(cwB l n b 0).getD j 0)) (cwB l n b 1) (Jo l n b _)) (.n (.y (.c [] (Nl l 2 hl (by decide)) (.c [] (Qp (wdF l 2 8)) (.c [] (Ll b) (.c [.id 1] (Jm (wdF l 2 8) (Cp n) (bif b then 1 else 0) (N0 hl _ 8 (Nat.le_refl _)) (Hj n) (Xj b)) (.bs 42 (e:=eB) [chk (wdF l 2 8) (Cp n) (pf b)] (.ap (e:=eB) (l:=Pb (wdF l 2 8) 8) (l':=[chk (wdF l 2 8) (Cp n) (pf b)]) .row .row (by rw [Fo]; show 9<=2147483648; decide) (.c [.id 34] (Ata (Dy (Dy (fun _=>0) 0 9 (fun j=>(cwB l n b 0).getD j 0)) 9 9 (fun j=>(cwB l n b 1).getD j 0)) (cwB l n b 2) (Jo l n b _)) (.n (.y (.c [] (Nl l 3 hl (by decide)) (.c [] (Qp (wdF l 3 8)) (.c [] (Ll b) (.c [.id 1] (Jm (wdF l 3 8) (Cp n) (bif b then 1 else 0) (N0 hl _ 8 (Nat.le_refl _)) (Hj n) (Xj b)) (.bs 42 (e:=eB) [chk (wdF l 3 8) (Cp n) (pf b)] (.ap (e:=eB) (l:=Pb (wdF l 3 8) 8) (l':=[chk (wdF l 3 8) (Cp n) (pf b)]) .row .row (by rw [Fo]; show 9<=2147483648; decide) (.c [.id 41] (Atb (Dy (Dy (Dy (fun _=>0) 0 9 (fun j=>(cwB l n b 0).getD j 0)) 9 9 (fun j=>(cwB l n b 1).getD j 0)) 18 9 (fun j=>(cwB l n b 2).getD j 0)) (cwB l n b 3) (Jo l n b _)) (.n (.y (.c [] (Nl l 4 hl (by decide)) (.c [] (Qp (wdF l 4 8)) (.c [] (Ll b) (.c [.id 1] (Jm (wdF l 4 8) (Cp n) (bif b then 1 else 0) (N0 hl _ 8 (Nat.le_refl _)) (Hj n) (Xj b)) (.bs 42 (e:=eB) [chk (wdF l 4 8) (Cp n) (pf b)] (.ap (e:=eB) (l:=Pb (wdF l 4 8) 8) (l':=[chk (wdF l 4 8) (Cp n) (pf b)]) .row .row (by rw [Fo]; show 9<=2147483648; decide) (.c [.id 48] (Atc (Dy (Dy (Dy (Dy (fun _=>0) 0 9 (fun j=>(cwB l n b 0).getD j 0)) 9 9 (fun j=>(cwB l n b 1).getD j 0)) 18 9 (fun j=>(cwB l n b 2).getD j 0)) 27 9 (fun j=>(cwB l n b 3).getD j 0)) (cwB l n b 4) (Jo l n b _)) (.n (.y (.c [] (Nl l 5 hl (by decide)) (.c [] (Qp (wdF l 5 8)) (.c [] (Ll b) (.c [.id 1] (Jm (wdF l 5 8) (Cp n) (bif b then 1 else 0) (N0 hl _ 8 (Nat.le_refl _)) (Hj n) (Xj b)) (.bs 42 (e:=eB) [chk (wdF l 5 8) (Cp n) (pf b)] (.ap (e:=eB) (l:=Pb (wdF l 5 8) 8) (l':=[chk (wdF l 5 8) (Cp n) (pf b)]) .row .row (by rw [Fo]; show 9<=2147483648; decide) (.c [.id 55] (Atd (Dy (Dy (Dy (Dy (Dy (fun _=>0) 0 9 (fun j=>(cwB l n b 0).getD j 0)) 9 9 (fun j=>(cwB l n b 1).getD j 0)) 18 9 (fun j=>(cwB l n b 2).getD j 0)) 27 9 (fun j=>(cwB l n b 3).getD j 0)) 36 9 (fun j=>(cwB l n b 4).getD j 0)) (cwB l n b 5) (Jo l n b _)) (.n (.y (.c [] (Nl l 6 hl (by decide)) (.c [] (Qp (wdF l 6 8)) (.c [] (Ll b) (.c [.id 1] (Jm (wdF l 6 8) (Cp n) (bif b then 1 else 0) (N0 hl _ 8 (Nat.le_refl _)) (Hj n) (Xj b)) (.bs 42 (e:=eB) [chk (wdF l 6 8) (Cp n) (pf b)] (.ap (e:=eB) (l:=Pb (wdF l 6 8) 8) (l':=[chk (wdF l 6 8) (Cp n) (pf b)]) .row .row (by rw [Fo]; show 9<=2147483648; decide) (.c [.id 62] (Ate (Dy (Dy (Dy (Dy (Dy (Dy (fun _=>0) 0 9 (fun j=>(cwB l n b 0).getD j 0)) 9 9 (fun j=>(cwB l n b 1).getD j 0)) 18 9 (fun j=>(cwB l n b 2).getD j 0)) 27 9 (fun j=>(cwB l n b 3).getD j 0)) 36 9 (fun j=>(cwB l n b 4).getD j 0)) 45 9 (fun j=>(cwB l n b 5).getD j 0)) (cwB l n b 6) (Jo l n b _)) (.n (.y (.c [] (Nl l 7 hl (by decide)) (.c [] (Qp (wdF l 7 8)) (.c [] (Ll b) (.c [.id 1] (Jm (wdF l 7 8) (Cp n) (bif b then 1 else 0) (N0 hl _ 8 (Nat.le_refl _)) (Hj n) (Xj b)) (.bs 42 (e:=eB) [chk (wdF l 7 8) (Cp n) (pf b)] (.ap (e:=eB) (l:=Pb (wdF l 7 8) 8) (l':=[chk (wdF l 7 8) (Cp n) (pf b)]) .row .row (by rw [Fo]; show 9<=2147483648; decide) (.c [.id 69] (Atf (Dy (Dy (Dy (Dy (Dy (Dy (Dy (fun _=>0) 0 9 (fun j=>(cwB l n b 0).getD j 0)) 9 9 (fun j=>(cwB l n b 1).getD j 0)) 18 9 (fun j=>(cwB l n b 2).getD j 0)) 27 9 (fun j=>(cwB l n b 3).getD j 0)) 36 9 (fun j=>(cwB l n b 4).getD j 0)) 45 9 (fun j=>(cwB l n b 5).getD j 0)) 54 9 (fun j=>(cwB l n b 6).getD j 0)) (cwB l n b 7) (Jo l n b _)) (.n2 .nil))))))))))))))))))))))))))))))))))))))))))))))))))))))))))))))))))))))))))))
theorem Alc (l:Nat->Nat) (n:Int) (b:Bool) (hl:∀ j,l j < 256):Sp P 191 [.pt 0 0,vn 2,.ar .u8 64 (nf l),vi n,vt b] [.ro (.blk [.pt 1 0,.pt 2 0] 314),.ro (hC),.ro (.blk [.pt 3 0,.sl 4] 368),.ro (gF),.ro (.row eB gen)] (.ar .u8 72 (nf (Sz l n b 2))) [.ro (.blk [.pt 1 0,.pt 2 0] 314),.ro (hC),.ro (.blk [.pt 3 0,.sl 4] 368),.ro (gF),.ro (.row eB gen)] :=
 so Tryz.f191 26 (ir 0 5) (.n (.y (.c [] (J5 n b) (.c [] (Aic l) (.lu 2 (.y (.sl (i:=0) (n:=64) (m:=64) (by decide) (.c (ir 2 3) (A2m l (viF n b) (fun j=>hl _) (Kk n b)) (.ap (e:=eB) (l:=arL (ckF (hfF l 0) (viF n b)) 4 0) (l':=arL (hfF l 0) 32 0) (.flat _ _ (Ef (ckF (hfF l 0) (viF n b)) 4)) (.flat _ _ (Ef (hfF l 0) 32)) (by rw [Bh,Bh]; decide) (.c [.id 20] (Atg (fun _=>0) (cwC l n b 0) (A4u l n b _)) (.n (.y (.sl (i:=32) (n:=32) (m:=64) (by decide) (.c (ir 2 3) (A2m (fun j=>l (32 + j)) (viF n b) (fun j=>hl _) (Kk n b)) (.ap (e:=eB) (l:=arL (ckF (hfF l 1) (viF n b)) 4 0) (l':=arL (hfF l 1) 32 0) (.flat _ _ (Ef (ckF (hfF l 1) (viF n b)) 4)) (.flat _ _ (Ef (hfF l 1) 32)) (by rw [Bh,Bh]; decide) (.c [.id 27] (Ath (Dy (fun _=>0) 0 36 (fun j=>(cwC l n b 0).getD j 0)) (cwC l n b 1) (A4u l n b _)) (.n2 .nil)))))))))))))))))
def Kq (l:List Nat):Nat:=nbF (l.take 8) (l.take 8).length
def Nn (l:List Nat) (n:Int):Nat:=syn (Kq l) (Cp n) 0 (l.getD 8 0)
def Jz (l:List Nat) (n:Int):Nat:=O6 (Kq l) (l.getD 8 0) (Cp n)
def C7 (l:List Nat) (n:Int):Nat:=if C6 (Nn l n)=0 then 0 else if C6 (Nn l n)=1 then 1 else if C6 (Nn l n)=2 then 2 else 3
theorem Tl {l:List Nat} (b:B8 l):Kq l < 18446744073709551616:=Acq (b.take 8) _ (by rw [List.length_take]; omega)
def chS (l:List Nat) (n:Int):Nat->Nat:=syF (fun j=>l.getD j 0) (viF n false)
def chX (l:List Nat) (n:Int):Nat->Nat:=Jc (fun j=>l.getD j 0) (viF n false)
def chK (l:List Nat) (n:Int):Nat:=if Aq (chS l n)=0 then 0 else if Aq (chS l n)=1 then 1 else if Aq (chS l n)=2/\Ap (chS l n)=38/\Dt (chS l n)=128 then 2 else 3
theorem Ahb (l:List Nat) (n:Int) (hl:l.length=9) (bl:B8 l) (q1:(decide (C6 (syn (nbF (l.take 8) (l.take 8).length) (Cp n) 0 (l.getD 8 0))=0))=true):Sp P 291 [.pt 0 0,.sl 5,vi n] [.ro (.blk [.pt 1 0,.pt 2 0] 314),.ro (hC),.ro (.blk [.pt 3 0,.sl 4] 368),.ro (gF),.ro (.row eB gen),.ro (.row eB l)] (.tu [vu (O6 (nbF (l.take 8) (l.take 8).length) (l.getD 8 0) (Cp n)),vn 0]) [.ro (.blk [.pt 1 0,.pt 2 0] 314),.ro (hC),.ro (.blk [.pt 3 0,.sl 4] 368),.ro (gF),.ro (.row eB gen),.ro (.row eB l)] :=
 so Tryz.f291 5 (ir 0 6) (.sl (i:=0) (n:=8) (m:=l.length) (by omega) (.cw [.ss 5 0 1 8] (S2 (l.take 8) (by rw [List.length_take]; omega) (bl.take _)) _ (congrArg (fun z:Fd=>[z]) (vwT eB l 8 (by omega))) (.ix (i:=8) (m:=l.length) (by omega) (.el (e:=eB) (gD (l:=l) (i:=8) (by omega)) (.c [] (Iz n) (.c [.id 1] (P6 (nbF (l.take 8) (l.take 8).length) (l.getD 8 0) (Cp n) (Tl bl) (bl _) (Hj n)) (.t q1 .nil)))))))
theorem Ahc (l:List Nat) (n:Int) (hl:l.length=9) (bl:B8 l) (q1:(decide (C6 (syn (nbF (l.take 8) (l.take 8).length) (Cp n) 0 (l.getD 8 0))=0))=false) (q2:(decide (C6 (syn (nbF (l.take 8) (l.take 8).length) (Cp n) 0 (l.getD 8 0))=1))=true):Sp P 291 [.pt 0 0,.sl 5,vi n] [.ro (.blk [.pt 1 0,.pt 2 0] 314),.ro (hC),.ro (.blk [.pt 3 0,.sl 4] 368),.ro (gF),.ro (.row eB gen),.ro (.row eB l)] (.tu [vu (O6 (nbF (l.take 8) (l.take 8).length) (l.getD 8 0) (Cp n)),vn 1]) [.ro (.blk [.pt 1 0,.pt 2 0] 314),.ro (hC),.ro (.blk [.pt 3 0,.sl 4] 368),.ro (gF),.ro (.row eB gen),.ro (.row eB l)] :=
 so Tryz.f291 5 (ir 0 6) (.sl (i:=0) (n:=8) (m:=l.length) (by omega) (.cw [.ss 5 0 1 8] (S2 (l.take 8) (by rw [List.length_take]; omega) (bl.take _)) _ (congrArg (fun z:Fd=>[z]) (vwT eB l 8 (by omega))) (.ix (i:=8) (m:=l.length) (by omega) (.el (e:=eB) (gD (l:=l) (i:=8) (by omega)) (.c [] (Iz n) (.c [.id 1] (P6 (nbF (l.take 8) (l.take 8).length) (l.getD 8 0) (Cp n) (Tl bl) (bl _) (Hj n)) (.t q1 (.t q2 .nil))))))))
theorem Ahd (l:List Nat) (n:Int) (hl:l.length=9) (bl:B8 l) (q1:(decide (C6 (syn (nbF (l.take 8) (l.take 8).length) (Cp n) 0 (l.getD 8 0))=0))=false) (q2:(decide (C6 (syn (nbF (l.take 8) (l.take 8).length) (Cp n) 0 (l.getD 8 0))=1))=false) (q3:(decide (C6 (syn (nbF (l.take 8) (l.take 8).length) (Cp n) 0 (l.getD 8 0))=2))=true):Sp P 291 [.pt 0 0,.sl 5,vi n] [.ro (.blk [.pt 1 0,.pt 2 0] 314),.ro (hC),.ro (.blk [.pt 3 0,.sl 4] 368),.ro (gF),.ro (.row eB gen),.ro (.row eB l)] (.tu [vu (O6 (nbF (l.take 8) (l.take 8).length) (l.getD 8 0) (Cp n)),vn 2]) [.ro (.blk [.pt 1 0,.pt 2 0] 314),.ro (hC),.ro (.blk [.pt 3 0,.sl 4] 368),.ro (gF),.ro (.row eB gen),.ro (.row eB l)] :=
 so Tryz.f291 5 (ir 0 6) (.sl (i:=0) (n:=8) (m:=l.length) (by omega) (.cw [.ss 5 0 1 8] (S2 (l.take 8) (by rw [List.length_take]; omega) (bl.take _)) _ (congrArg (fun z:Fd=>[z]) (vwT eB l 8 (by omega))) (.ix (i:=8) (m:=l.length) (by omega) (.el (e:=eB) (gD (l:=l) (i:=8) (by omega)) (.c [] (Iz n) (.c [.id 1] (P6 (nbF (l.take 8) (l.take 8).length) (l.getD 8 0) (Cp n) (Tl bl) (bl _) (Hj n)) (.t q1 (.t q2 (.t q3 .nil)))))))))
theorem Ahe (l:List Nat) (n:Int) (hl:l.length=9) (bl:B8 l) (q1:(decide (C6 (syn (nbF (l.take 8) (l.take 8).length) (Cp n) 0 (l.getD 8 0))=0))=false) (q2:(decide (C6 (syn (nbF (l.take 8) (l.take 8).length) (Cp n) 0 (l.getD 8 0))=1))=false) (q3:(decide (C6 (syn (nbF (l.take 8) (l.take 8).length) (Cp n) 0 (l.getD 8 0))=2))=false):Sp P 291 [.pt 0 0,.sl 5,vi n] [.ro (.blk [.pt 1 0,.pt 2 0] 314),.ro (hC),.ro (.blk [.pt 3 0,.sl 4] 368),.ro (gF),.ro (.row eB gen),.ro (.row eB l)] (.tu [vu (O6 (nbF (l.take 8) (l.take 8).length) (l.getD 8 0) (Cp n)),vn 3]) [.ro (.blk [.pt 1 0,.pt 2 0] 314),.ro (hC),.ro (.blk [.pt 3 0,.sl 4] 368),.ro (gF),.ro (.row eB gen),.ro (.row eB l)] :=
 so Tryz.f291 5 (ir 0 6) (.sl (i:=0) (n:=8) (m:=l.length) (by omega) (.cw [.ss 5 0 1 8] (S2 (l.take 8) (by rw [List.length_take]; omega) (bl.take _)) _ (congrArg (fun z:Fd=>[z]) (vwT eB l 8 (by omega))) (.ix (i:=8) (m:=l.length) (by omega) (.el (e:=eB) (gD (l:=l) (i:=8) (by omega)) (.c [] (Iz n) (.c [.id 1] (P6 (nbF (l.take 8) (l.take 8).length) (l.getD 8 0) (Cp n) (Tl bl) (bl _) (Hj n)) (.t q1 (.t q2 (.t q3 .nil)))))))))
theorem N6 (l:List Nat) (n:Int) (hl:l.length=9) (bl:B8 l):Sp P 291 [.pt 0 0,.sl 5,vi n] [.ro (.blk [.pt 1 0,.pt 2 0] 314),.ro (hC),.ro (.blk [.pt 3 0,.sl 4] 368),.ro (gF),.ro (.row eB gen),.ro (.row eB l)] (.tu [vu (Jz l n),vn (C7 l n)]) [.ro (.blk [.pt 1 0,.pt 2 0] 314),.ro (hC),.ro (.blk [.pt 3 0,.sl 4] 368),.ro (gF),.ro (.row eB gen),.ro (.row eB l)]:=by
 cases q1:decide (C6 (syn (nbF (l.take 8) (l.take 8).length) (Cp n) 0 (l.getD 8 0))=0) with
 | true =>
   have e:(Jz l n)=(O6 (nbF (l.take 8) (l.take 8).length) (l.getD 8 0) (Cp n)):=by first | rfl | (unfold C7 Nn Kq; simp_all)
   rw [e]
   have e:(C7 l n)=0:=by first | rfl | (unfold C7 Nn Kq; simp_all)
   rw [e]
   exact Ahb l n hl bl q1
 | false =>
   cases q2:decide (C6 (syn (nbF (l.take 8) (l.take 8).length) (Cp n) 0 (l.getD 8 0))=1) with
   | true =>
     have e:(Jz l n)=(O6 (nbF (l.take 8) (l.take 8).length) (l.getD 8 0) (Cp n)):=by first | rfl | (unfold C7 Nn Kq; simp_all)
     rw [e]
     have e:(C7 l n)=1:=by first | rfl | (unfold C7 Nn Kq; simp_all)
     rw [e]
     exact Ahc l n hl bl q1 q2
   | false =>
     cases q3:decide (C6 (syn (nbF (l.take 8) (l.take 8).length) (Cp n) 0 (l.getD 8 0))=2) with
     | true =>
       have e:(Jz l n)=(O6 (nbF (l.take 8) (l.take 8).length) (l.getD 8 0) (Cp n)):=by first | rfl | (unfold C7 Nn Kq; simp_all)
       rw [e]
       have e:(C7 l n)=2:=by first | rfl | (unfold C7 Nn Kq; simp_all)
       rw [e]
       exact Ahd l n hl bl q1 q2 q3
     | false =>
       have e:(Jz l n)=(O6 (nbF (l.take 8) (l.take 8).length) (l.getD 8 0) (Cp n)):=by first | rfl | (unfold C7 Nn Kq; simp_all)
       rw [e]
       have e:(C7 l n)=3:=by first | rfl | (unfold C7 Nn Kq; simp_all)
       rw [e]
       exact Ahe l n hl bl q1 q2 q3
theorem Aas (l:List Nat) (n:Int) (hl:l.length=36) (bl:B8 l) (q1:(decide (((Aq (syF (fun j=>l.getD j 0) (viF n false)):Nat):Int)=0))=true):Sp P 293 [.pt 0 0,.sl 5,vi n] [.ro (.blk [.pt 1 0,.pt 2 0] 314),.ro (hC),.ro (.blk [.pt 3 0,.sl 4] 368),.ro (gF),.ro (.row eB gen),.ro (.row eB l)] (.tu [.ar .u8 32 (nf (Jc (fun j=>l.getD j 0) (viF n false))),vn 0]) [.ro (.blk [.pt 1 0,.pt 2 0] 314),.ro (hC),.ro (.blk [.pt 3 0,.sl 4] 368),.ro (gF),.ro (.row eB gen),.ro (.row eB l)] :=
 so Tryz.f293 9 (ir 0 6) (.sl (i:=0) (n:=36) (m:=l.length) (by omega) (.ld (ldN hl) (by rw [← ldN hl,List.drop_zero,List.length_take,eB.csLen,hl]; rfl) rfl (.c [] (J5 n false) (.c (ir 2 3) (Ja (fun j=>l.getD j 0) (viF n false) bl (Kk n false)) (.t q1 .nil)))))
theorem Aat (l:List Nat) (n:Int) (hl:l.length=36) (bl:B8 l) (q1:(decide (((Aq (syF (fun j=>l.getD j 0) (viF n false)):Nat):Int)=0))=false) (q2:(decide (((Aq (syF (fun j=>l.getD j 0) (viF n false)):Nat):Int)=1))=true):Sp P 293 [.pt 0 0,.sl 5,vi n] [.ro (.blk [.pt 1 0,.pt 2 0] 314),.ro (hC),.ro (.blk [.pt 3 0,.sl 4] 368),.ro (gF),.ro (.row eB gen),.ro (.row eB l)] (.tu [.ar .u8 32 (nf (Jc (fun j=>l.getD j 0) (viF n false))),vn 1]) [.ro (.blk [.pt 1 0,.pt 2 0] 314),.ro (hC),.ro (.blk [.pt 3 0,.sl 4] 368),.ro (gF),.ro (.row eB gen),.ro (.row eB l)] :=
 so Tryz.f293 9 (ir 0 6) (.sl (i:=0) (n:=36) (m:=l.length) (by omega) (.ld (ldN hl) (by rw [← ldN hl,List.drop_zero,List.length_take,eB.csLen,hl]; rfl) rfl (.c [] (J5 n false) (.c (ir 2 3) (Ja (fun j=>l.getD j 0) (viF n false) bl (Kk n false)) (.t q1 (.t q2 .nil))))))
theorem Aau (l:List Nat) (n:Int) (hl:l.length=36) (bl:B8 l) (q1:(decide (((Aq (syF (fun j=>l.getD j 0) (viF n false)):Nat):Int)=0))=false) (q2:(decide (((Aq (syF (fun j=>l.getD j 0) (viF n false)):Nat):Int)=1))=false) (q3:(decide (((Aq (syF (fun j=>l.getD j 0) (viF n false)):Nat):Int)=2))=true) (q4:(decide (Ap (syF (fun j=>l.getD j 0) (viF n false))=38))=true) (q5:(decide (((Dt (syF (fun j=>l.getD j 0) (viF n false)):Nat):Int)=128))=true):Sp P 293 [.pt 0 0,.sl 5,vi n] [.ro (.blk [.pt 1 0,.pt 2 0] 314),.ro (hC),.ro (.blk [.pt 3 0,.sl 4] 368),.ro (gF),.ro (.row eB gen),.ro (.row eB l)] (.tu [.ar .u8 32 (nf (Jc (fun j=>l.getD j 0) (viF n false))),vn 2]) [.ro (.blk [.pt 1 0,.pt 2 0] 314),.ro (hC),.ro (.blk [.pt 3 0,.sl 4] 368),.ro (gF),.ro (.row eB gen),.ro (.row eB l)] :=
 so Tryz.f293 9 (ir 0 6) (.sl (i:=0) (n:=36) (m:=l.length) (by omega) (.ld (ldN hl) (by rw [← ldN hl,List.drop_zero,List.length_take,eB.csLen,hl]; rfl) rfl (.c [] (J5 n false) (.c (ir 2 3) (Ja (fun j=>l.getD j 0) (viF n false) bl (Kk n false)) (.t q1 (.t q2 (.t4 q3 (.t4 q4 (.t q5 .nil)))))))))
theorem Aav (l:List Nat) (n:Int) (hl:l.length=36) (bl:B8 l) (q1:(decide (((Aq (syF (fun j=>l.getD j 0) (viF n false)):Nat):Int)=0))=false) (q2:(decide (((Aq (syF (fun j=>l.getD j 0) (viF n false)):Nat):Int)=1))=false) (q3:(decide (((Aq (syF (fun j=>l.getD j 0) (viF n false)):Nat):Int)=2))=true) (q4:(decide (Ap (syF (fun j=>l.getD j 0) (viF n false))=38))=true) (q5:(decide (((Dt (syF (fun j=>l.getD j 0) (viF n false)):Nat):Int)=128))=false):Sp P 293 [.pt 0 0,.sl 5,vi n] [.ro (.blk [.pt 1 0,.pt 2 0] 314),.ro (hC),.ro (.blk [.pt 3 0,.sl 4] 368),.ro (gF),.ro (.row eB gen),.ro (.row eB l)] (.tu [.ar .u8 32 (nf (Jc (fun j=>l.getD j 0) (viF n false))),vn 3]) [.ro (.blk [.pt 1 0,.pt 2 0] 314),.ro (hC),.ro (.blk [.pt 3 0,.sl 4] 368),.ro (gF),.ro (.row eB gen),.ro (.row eB l)] :=
 so Tryz.f293 9 (ir 0 6) (.sl (i:=0) (n:=36) (m:=l.length) (by omega) (.ld (ldN hl) (by rw [← ldN hl,List.drop_zero,List.length_take,eB.csLen,hl]; rfl) rfl (.c [] (J5 n false) (.c (ir 2 3) (Ja (fun j=>l.getD j 0) (viF n false) bl (Kk n false)) (.t q1 (.t q2 (.t4 q3 (.t4 q4 (.t q5 .nil)))))))))
theorem Aaw (l:List Nat) (n:Int) (hl:l.length=36) (bl:B8 l) (q1:(decide (((Aq (syF (fun j=>l.getD j 0) (viF n false)):Nat):Int)=0))=false) (q2:(decide (((Aq (syF (fun j=>l.getD j 0) (viF n false)):Nat):Int)=1))=false) (q3:(decide (((Aq (syF (fun j=>l.getD j 0) (viF n false)):Nat):Int)=2))=true) (q4:(decide (Ap (syF (fun j=>l.getD j 0) (viF n false))=38))=false):Sp P 293 [.pt 0 0,.sl 5,vi n] [.ro (.blk [.pt 1 0,.pt 2 0] 314),.ro (hC),.ro (.blk [.pt 3 0,.sl 4] 368),.ro (gF),.ro (.row eB gen),.ro (.row eB l)] (.tu [.ar .u8 32 (nf (Jc (fun j=>l.getD j 0) (viF n false))),vn 3]) [.ro (.blk [.pt 1 0,.pt 2 0] 314),.ro (hC),.ro (.blk [.pt 3 0,.sl 4] 368),.ro (gF),.ro (.row eB gen),.ro (.row eB l)] :=
 so Tryz.f293 9 (ir 0 6) (.sl (i:=0) (n:=36) (m:=l.length) (by omega) (.ld (ldN hl) (by rw [← ldN hl,List.drop_zero,List.length_take,eB.csLen,hl]; rfl) rfl (.c [] (J5 n false) (.c (ir 2 3) (Ja (fun j=>l.getD j 0) (viF n false) bl (Kk n false)) (.t q1 (.t q2 (.t4 q3 (.t4 q4 (.n .nil)))))))))
theorem Aax (l:List Nat) (n:Int) (hl:l.length=36) (bl:B8 l) (q1:(decide (((Aq (syF (fun j=>l.getD j 0) (viF n false)):Nat):Int)=0))=false) (q2:(decide (((Aq (syF (fun j=>l.getD j 0) (viF n false)):Nat):Int)=1))=false) (q3:(decide (((Aq (syF (fun j=>l.getD j 0) (viF n false)):Nat):Int)=2))=false):Sp P 293 [.pt 0 0,.sl 5,vi n] [.ro (.blk [.pt 1 0,.pt 2 0] 314),.ro (hC),.ro (.blk [.pt 3 0,.sl 4] 368),.ro (gF),.ro (.row eB gen),.ro (.row eB l)] (.tu [.ar .u8 32 (nf (Jc (fun j=>l.getD j 0) (viF n false))),vn 3]) [.ro (.blk [.pt 1 0,.pt 2 0] 314),.ro (hC),.ro (.blk [.pt 3 0,.sl 4] 368),.ro (gF),.ro (.row eB gen),.ro (.row eB l)] :=
 so Tryz.f293 9 (ir 0 6) (.sl (i:=0) (n:=36) (m:=l.length) (by omega) (.ld (ldN hl) (by rw [← ldN hl,List.drop_zero,List.length_take,eB.csLen,hl]; rfl) rfl (.c [] (J5 n false) (.c (ir 2 3) (Ja (fun j=>l.getD j 0) (viF n false) bl (Kk n false)) (.t q1 (.t q2 (.t4 q3 (.n4 (.n .nil)))))))))
theorem A7h (l:List Nat) (n:Int) (hl:l.length=36) (bl:B8 l):Sp P 293 [.pt 0 0,.sl 5,vi n] [.ro (.blk [.pt 1 0,.pt 2 0] 314),.ro (hC),.ro (.blk [.pt 3 0,.sl 4] 368),.ro (gF),.ro (.row eB gen),.ro (.row eB l)] (.tu [.ar .u8 32 (nf (chX l n)),vn (chK l n)]) [.ro (.blk [.pt 1 0,.pt 2 0] 314),.ro (hC),.ro (.blk [.pt 3 0,.sl 4] 368),.ro (gF),.ro (.row eB gen),.ro (.row eB l)]:=by
 cases q1:decide (((Aq (syF (fun j=>l.getD j 0) (viF n false)):Nat):Int)=0) with
 | true =>
   have e:(chX l n)=(Jc (fun j=>l.getD j 0) (viF n false)):=by first | rfl | (unfold chK chS; generalize syF (fun j=>l.getD j 0) (viF n false)=s at *; simp only [decide_eq_true_eq,decide_eq_false_iff_not] at *; repeat (first | omega | split))
   rw [e]
   have e:(chK l n)=0:=by first | rfl | (unfold chK chS; generalize syF (fun j=>l.getD j 0) (viF n false)=s at *; simp only [decide_eq_true_eq,decide_eq_false_iff_not] at *; repeat (first | omega | split))
   rw [e]
   exact Aas l n hl bl q1
 | false =>
   cases q2:decide (((Aq (syF (fun j=>l.getD j 0) (viF n false)):Nat):Int)=1) with
   | true =>
     have e:(chX l n)=(Jc (fun j=>l.getD j 0) (viF n false)):=by first | rfl | (unfold chK chS; generalize syF (fun j=>l.getD j 0) (viF n false)=s at *; simp only [decide_eq_true_eq,decide_eq_false_iff_not] at *; repeat (first | omega | split))
     rw [e]
     have e:(chK l n)=1:=by first | rfl | (unfold chK chS; generalize syF (fun j=>l.getD j 0) (viF n false)=s at *; simp only [decide_eq_true_eq,decide_eq_false_iff_not] at *; repeat (first | omega | split))
     rw [e]
     exact Aat l n hl bl q1 q2
   | false =>
     cases q3:decide (((Aq (syF (fun j=>l.getD j 0) (viF n false)):Nat):Int)=2) with
     | true =>
       cases q4:decide (Ap (syF (fun j=>l.getD j 0) (viF n false))=38) with
       | true =>
         cases q5:decide (((Dt (syF (fun j=>l.getD j 0) (viF n false)):Nat):Int)=128) with
         | true =>
           have e:(chX l n)=(Jc (fun j=>l.getD j 0) (viF n false)):=by first | rfl | (unfold chK chS; generalize syF (fun j=>l.getD j 0) (viF n false)=s at *; simp only [decide_eq_true_eq,decide_eq_false_iff_not] at *; repeat (first | omega | split))
           rw [e]
           have e:(chK l n)=2:=by first | rfl | (unfold chK chS; generalize syF (fun j=>l.getD j 0) (viF n false)=s at *; simp only [decide_eq_true_eq,decide_eq_false_iff_not] at *; repeat (first | omega | split))
           rw [e]
           exact Aau l n hl bl q1 q2 q3 q4 q5
         | false =>
           have e:(chX l n)=(Jc (fun j=>l.getD j 0) (viF n false)):=by first | rfl | (unfold chK chS; generalize syF (fun j=>l.getD j 0) (viF n false)=s at *; simp only [decide_eq_true_eq,decide_eq_false_iff_not] at *; repeat (first | omega | split))
           rw [e]
           have e:(chK l n)=3:=by first | rfl | (unfold chK chS; generalize syF (fun j=>l.getD j 0) (viF n false)=s at *; simp only [decide_eq_true_eq,decide_eq_false_iff_not] at *; repeat (first | omega | split))
           rw [e]
           exact Aav l n hl bl q1 q2 q3 q4 q5
       | false =>
         have e:(chX l n)=(Jc (fun j=>l.getD j 0) (viF n false)):=by first | rfl | (unfold chK chS; generalize syF (fun j=>l.getD j 0) (viF n false)=s at *; simp only [decide_eq_true_eq,decide_eq_false_iff_not] at *; repeat (first | omega | split))
         rw [e]
         have e:(chK l n)=3:=by first | rfl | (unfold chK chS; generalize syF (fun j=>l.getD j 0) (viF n false)=s at *; simp only [decide_eq_true_eq,decide_eq_false_iff_not] at *; repeat (first | omega | split))
         rw [e]
         exact Aaw l n hl bl q1 q2 q3 q4
     | false =>
       have e:(chX l n)=(Jc (fun j=>l.getD j 0) (viF n false)):=by first | rfl | (unfold chK chS; generalize syF (fun j=>l.getD j 0) (viF n false)=s at *; simp only [decide_eq_true_eq,decide_eq_false_iff_not] at *; repeat (first | omega | split))
       rw [e]
       have e:(chK l n)=3:=by first | rfl | (unfold chK chS; generalize syF (fun j=>l.getD j 0) (viF n false)=s at *; simp only [decide_eq_true_eq,decide_eq_false_iff_not] at *; repeat (first | omega | split))
       rw [e]
       exact Aax l n hl bl q1 q2 q3
