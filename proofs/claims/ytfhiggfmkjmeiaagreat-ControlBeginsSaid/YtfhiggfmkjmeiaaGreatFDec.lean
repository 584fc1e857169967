import Derived.Test.YtfhiggfmkjmeiaaGreatFEnc
set_option linter.all false
namespace Go.Proofs.YtfhiggfmkjmeiaaGreat
open Go Go.RowKit
set_option maxRecDepth 100000
theorem A2b (W:Nat->Int) (hW:∀ j,j < 8->0<=W j):Sp P 292 [.ar .u64 8 (W)] [] (.ar .u8 64 (nf (fwF (fun j=>(W j).toNat)))) [] :=
 (A5b (fun j=>(W j).toNat)).argE (Aqt (f:=nf fun j=>(W j).toNat) (g:=W) fun j hj=>Int.toNat_of_nonneg (hW j hj)) rfl
theorem Az2 {f:Nat->Int} {k:Nat} {v:Int} (h:∀ j,0<=f j) (hv:0<=v) (j:Nat):0<=upI f k v j:=by
 unfold upI; split; exact hv; exact h j
theorem Asd {f g:Nat->Nat} (h:∀ k,k < 8->f k=g k) (j:Nat) (hj:j < 64):fwF f j=fwF g j:=by unfold fwF; rw [h _ (by omega)]
def dcB (r:Nat->Nat) (n:Int):Nat->Nat:=fwF (fun k=>Jz (A4 r (9 * k) 9) n)
def kB (r:Nat->Nat) (n:Int):List Nat:=[C7 (A4 r 0 9) n,C7 (A4 r 9 9) n,C7 (A4 r 18 9) n,C7 (A4 r 27 9) n,C7 (A4 r 36 9) n,C7 (A4 r 45 9) n,C7 (A4 r 54 9) n,C7 (A4 r 63 9) n]
def dcC (r:Nat->Nat) (n:Int):Nat->Nat:=Dy (Dy (fun _=>0) 0 32 (chX (A4 r 0 36) n)) 32 32 (chX (A4 r 36 36) n)
def kC (r:Nat->Nat) (n:Int):List Nat:=[chK (A4 r 0 36) n,chK (A4 r 36 36) n]
theorem cpA (m:Nat) (r g:Nat->Nat) {o n:Nat} (h:o + n<=m):V.flat ρN [.ar .u8 m (nf (Dy r o n g))]=(V.flat ρN [.ar .u8 m (nf r)]).take o ++ eB.cs (arL g n 0) ++ (V.flat ρN [.ar .u8 m (nf r)]).drop (o + (arL g n 0).length * eB.sz):=by
 rw [Af1,Af1,Agb,A42 .u8 (nf r) _ h,Ys g,Bh]
 show _=_ ++ _ ++ List.drop (o + n * 1) _
 rw [Nat.mul_one]
theorem B1u (f0 f1:Nat->Nat):∀ w,(Instr.index 426 (V.den ρN (.ag [.ar .u8 32 (nf f0),.ar .u8 32 (nf f1)])) (.int .i64 0) >>= fun v=>pure (Next.value v)).run P w=.ok (.value (V.den ρN (.ar .u8 32 (nf f0)))) w:=by intro w; kernel_rfl
theorem B1v (f0 f1:Nat->Nat):∀ w,(Instr.index 426 (V.den ρN (.ag [.ar .u8 32 (nf f0),.ar .u8 32 (nf f1)])) (.int .i64 1) >>= fun v=>pure (Next.value v)).run P w=.ok (.value (V.den ρN (.ar .u8 32 (nf f1)))) w:=by intro w; kernel_rfl
theorem A2a (f0:Nat->Nat) (f1:Nat->Nat) :Sp P 294 [.ag [.ar .u8 32 (nf f0),.ar .u8 32 (nf f1)]] [] (.ar .u8 64 (nf (Dy (Dy (fun _=>0) 0 32 f0) 32 32 f1))) [] :=
 so Tryz.f294 9 [] (.lu 2 (.y (.p 10 (B1u f0 f1) (.sl (i:=0) (n:=64) (m:=64) (by decide) (.cp (xs:=arL f0 32 0) (n:=64) (.flat _ _ (Ef f0 32)) (by rw [Bh]; decide) (cpA 64 (fun _=>0) f0 (o:=0) (n:=32) (by decide)) (.y (.p 10 (B1v f0 f1) (.sl (i:=32) (n:=32) (m:=64) (by decide) (.cp (xs:=arL f1 32 0) (n:=32) (.flat _ _ (Ef f1 32)) (by rw [Bh]; decide) (cpA 64 (Dy (fun _=>0) 0 32 f0) f1 (o:=32) (n:=32) (by decide)) (.n .nil))))))))))
theorem Aku (r:Nat->Nat) (n:Int) (hr:∀ j,r j < 256):Sp P 258 [.pt 0 0,vn 1,.ar .u8 72 (nf r),vi n] [.ro (.blk [.pt 1 0,.pt 2 0] 314),.ro (hC),.ro (.blk [.pt 3 0,.sl 4] 368),.ro (gF),.ro (.row eB gen)] (.tu [.ar .u8 64 (nf (fwF (fun j=>((upI (upI (upI (upI (upI (upI (upI (upI (fun _=>0) 0 ((Jz (A4 r 0 9) n:Nat):Int)) 1 ((Jz (A4 r 9 9) n:Nat):Int)) 2 ((Jz (A4 r 18 9) n:Nat):Int)) 3 ((Jz (A4 r 27 9) n:Nat):Int)) 4 ((Jz (A4 r 36 9) n:Nat):Int)) 5 ((Jz (A4 r 45 9) n:Nat):Int)) 6 ((Jz (A4 r 54 9) n:Nat):Int)) 7 ((Jz (A4 r 63 9) n:Nat):Int)) j).toNat))),.sl 5]) [.ro (.blk [.pt 1 0,.pt 2 0] 314),.ro (hC),.ro (.blk [.pt 3 0,.sl 4] 368),.ro (gF),.ro (.row eB gen),.row eN (kB r n)] :=
 so Tryz.f258 29 (ir 0 5 ++ .id 32 :: []) (.y (.lu 8 (.y (.c [] (A1p r) (.c (ir 0 5 ++ .id 9 :: []) (N6 (A4 r 0 9) n (Af _ _ _) (Au hr _ _)) (.ix (i:=0) (m:=8) (by decide) (.lt (i:=0) (n:=8) (by decide) (.bs 39 (e:=eN) [C7 (A4 r 0 9) n] (.ap (e:=eN) (l:=[]) (l':=[C7 (A4 r 0 9) n]) (.flat [] [] rfl) .row (by show 1<=2147483648; decide) (.y (.c [] (A1q r) (.c (ir 0 5 ++ .id 12 :: []) (N6 (A4 r 9 9) n (Af _ _ _) (Au hr _ _)) (.ix (i:=1) (m:=8) (by decide) (.lt (i:=1) (n:=8) (by decide) (.bs 39 (e:=eN) [C7 (A4 r 9 9) n] (.ap (e:=eN) (l:=[C7 (A4 r 0 9) n]) (l':=[C7 (A4 r 9 9) n]) .row .row (by show 2<=2147483648; decide) (.y (.c [] (A1r r) (.c (ir 0 5 ++ .id 15 :: []) (N6 (A4 r 18 9) n (Af _ _ _) (Au hr _ _)) (.ix (i:=2) (m:=8) (by decide) (.lt (i:=2) (n:=8) (by decide) (.bs 39 (e:=eN) [C7 (A4 r 18 9) n] (.ap (e:=eN) (l:=[C7 (A4 r 0 9) n,C7 (A4 r 9 9) n]) (l':=[C7 (A4 r 18 9) n]) .row .row (by show 3<=2147483648; decide) (.y (.c [] (A1s r) (.c (ir 0 5 ++ .id 18 :: []) (N6 (A4 r 27 9) n (Af _ _ _) (Au hr _ _)) (.ix (i:=3) (m:=8) (by decide) (.lt (i:=3) (n:=8) (by decide) (.bs 39 (e:=eN) [C7 (A4 r 27 9) n] (.ap (e:=eN) (l:=[C7 (A4 r 0 9) n,C7 (A4 r 9 9) n,C7 (A4 r 18 9) n]) (l':=[C7 (A4 r 27 9) n]) .row .row (by show 4<=2147483648; decide) (.y (.c [] (A1t r) (.c (ir 0 5 ++ .id 21 :: []) (N6 (A4 r 36 9) n (Af _ _ _) (Au hr _ _)) (.ix (i:=4) (m:=8) (by decide) (.lt (i:=4) (n:=8) (by decide) (.bs 39 (e:=eN) [C7 (A4 r 36 9) n] (.ap (e:=eN) (l:=[C7 (A4 r 0 9) n,C7 (A4 r 9 9) n,C7 (A4 r 18 9) n,C7 (A4 r 27 9) n]) (l':=[C7 (A4 r 36 9) n]) .row .row (by show 5<=2147483648; decide) (.y (.c [] (A1u r) (.c (ir 0 5 ++ .id 24 :: []) (N6 (A4 r 45 9) n (Af _ _ _) (Au hr _ _)) (.ix (i:=5) (m:=8) (by decide) (.lt (i:=5) (n:=8) (by decide) (.bs 39 (e:=eN) [C7 (A4 r 45 9) n] (.ap (e:=eN) (l:=[C7 (A4 r 0 9) n,C7 (A4 r 9 9) n,C7 (A4 r 18 9) n,C7 (A4 r 27 9) n,C7 (A4 r 36 9) n]) (l':=[C7 (A4 r 45 9) n]) .row .row (by show 6<=2147483648; decide) (.y (.c [] (A1v r) (.c (ir 0 5 ++ .id 27 :: []) (N6 (A4 r 54 9) n (Af _ _ _) (Au hr _ _)) (.ix (i:=6) (m:=8) (by decide) (.lt (i:=6) (n:=8) (by decide) (.bs 39 (e:=eN) [C7 (A4 r 54 9) n] (.ap (e:=eN) (l:=[C7 (A4 r 0 9) n,C7 (A4 r 9 9) n,C7 (A4 r 18 9) n,C7 (A4 r 27 9) n,C7 (A4 r 36 9) n,C7 (A4 r 45 9) n]) (l':=[C7 (A4 r 54 9) n]) .row .row (by show 7<=2147483648; decide) (.y (.c [] (A1w r) (.c (ir 0 5 ++ .id 30 :: []) (N6 (A4 r 63 9) n (Af _ _ _) (Au hr _ _)) (.ix (i:=7) (m:=8) (by decide) (.lt (i:=7) (n:=8) (by decide) (.bs 39 (e:=eN) [C7 (A4 r 63 9) n] (.ap (e:=eN) (l:=[C7 (A4 r 0 9) n,C7 (A4 r 9 9) n,C7 (A4 r 18 9) n,C7 (A4 r 27 9) n,C7 (A4 r 36 9) n,C7 (A4 r 45 9) n,C7 (A4 r 54 9) n]) (l':=[C7 (A4 r 63 9) n]) .row .row (by show 8<=2147483648; decide) (.n (.c [] (A2b (upI (upI (upI (upI (upI (upI (upI (upI (fun _=>0) 0 ((Jz (A4 r 0 9) n:Nat):Int)) 1 ((Jz (A4 r 9 9) n:Nat):Int)) 2 ((Jz (A4 r 18 9) n:Nat):Int)) 3 ((Jz (A4 r 27 9) n:Nat):Int)) 4 ((Jz (A4 r 36 9) n:Nat):Int)) 5 ((Jz (A4 r 45 9) n:Nat):Int)) 6 ((Jz (A4 r 54 9) n:Nat):Int)) 7 ((Jz (A4 r 63 9) n:Nat):Int)) (by intro j hj; clear hj; revert j; repeat (first | exact fun j=>Int.le_refl 0 | refine Az2 ?_ (Int.natCast_nonneg _)))) .nil))))))))))))))))))))))))))))))))))))))))))))))))))))))))))))
theorem Atz {a a' c:V} (h:V.den ρN a=V.den ρN a') (h1:V.lt L0 a=true) (h2:V.lt L0 a'=true) (ρ:Env):V.den ρ (.tu [a,c])=V.den ρ (.tu [a',c]):=by
 simp only [V.den,V.dens]
 rw [V.den_ext (n:=L0) (ρ:=ρN) (fun i hi=>by cases hi) _ h1,V.den_ext (n:=L0) (ρ:=ρN) (fun i hi=>by cases hi) _ h2,h]
theorem Sp.resR {P:Program} {f:FuncId} {args:List V} {pre post:List B} {res:V} (h:Sp P f args pre res post) {res':V} (hd:∀ ρ,V.den ρ res=V.den ρ res') (h2:V.lt (liv post) res'=true) (h3:res'.nz=true):Sp P f args pre res' post :=
 ⟨h.cl,h.ln,h.fr,⟨h2,h3⟩,h.ro,fun ρ M w hE=>(h.out ρ M w hE).mono fun e w' ⟨ρ',he,hE'⟩=>⟨ρ',by rw [he,hd],hE'⟩⟩
theorem Auh (r:Nat->Nat) (n:Int) (hr:∀ j,r j < 256):Sp P 258 [.pt 0 0,vn 1,.ar .u8 72 (nf r),vi n] [.ro (.blk [.pt 1 0,.pt 2 0] 314),.ro (hC),.ro (.blk [.pt 3 0,.sl 4] 368),.ro (gF),.ro (.row eB gen)] (.tu [.ar .u8 64 (nf (dcB r n)),.sl 5]) [.ro (.blk [.pt 1 0,.pt 2 0] 314),.ro (hC),.ro (.blk [.pt 3 0,.sl 4] 368),.ro (gF),.ro (.row eB gen),.row eN (kB r n)] :=
 (Aku r n hr).resR (Atz (K4 fun j hj=>congrArg (fun x:Nat=>(x:Int)) (Asd (fun k hk=>by
  match k,hk with
  | 0,_=>rfl
  | 1,_=>rfl
  | 2,_=>rfl
  | 3,_=>rfl
  | 4,_=>rfl
  | 5,_=>rfl
  | 6,_=>rfl
  | 7,_=>rfl
  | k + 8,h=>exact absurd h (by omega)) j hj)) rfl rfl) rfl rfl
theorem Aui (r:Nat->Nat) (n:Int) (hr:∀ j,r j < 256):Sp P 258 [.pt 0 0,vn 2,.ar .u8 72 (nf r),vi n] [.ro (.blk [.pt 1 0,.pt 2 0] 314),.ro (hC),.ro (.blk [.pt 3 0,.sl 4] 368),.ro (gF),.ro (.row eB gen)] (.tu [.ar .u8 64 (nf (dcC r n)),.sl 5]) [.ro (.blk [.pt 1 0,.pt 2 0] 314),.ro (hC),.ro (.blk [.pt 3 0,.sl 4] 368),.ro (gF),.ro (.row eB gen),.row eN (kC r n)] :=
 so Tryz.f258 13 (ir 0 5 ++ .id 16 :: []) (.n (.lu 2 (.y (.c [] (A1x r) (.c (ir 0 5 ++ .id 9 :: []) (A7h (A4 r 0 36) n (Af _ _ _) (Au hr _ _)) (.ix (i:=0) (m:=2) (by decide) (.bs 63 (e:=eN) [chK (A4 r 0 36) n] (.ap (e:=eN) (l:=[]) (l':=[chK (A4 r 0 36) n]) (.flat [] [] rfl) .row (by show 1<=2147483648; decide) (.y (.c [] (A1y r) (.c (ir 0 5 ++ .id 13 :: []) (A7h (A4 r 36 36) n (Af _ _ _) (Au hr _ _)) (.ix (i:=1) (m:=2) (by decide) (.bs 63 (e:=eN) [chK (A4 r 36 36) n] (.ap (e:=eN) (l:=[chK (A4 r 0 36) n]) (l':=[chK (A4 r 36 36) n]) .row .row (by show 2<=2147483648; decide) (.n (.c [] (A2a (chX (A4 r 0 36) n) (chX (A4 r 36 36) n)) .nil))))))))))))))))
def dlB (r:Nat->Nat) (n:Int):Nat->Nat:=bif decide (2<=((jk (kB r n) (kB r n).length:Nat):Int)) then (fun _=>0) else dcB r n
theorem Ak7 (r:Nat->Nat) (n:Int) (hr:∀ j,r j < 256) (q:decide (2<=((jk (kB r n) (kB r n).length:Nat):Int))=false):Sp P 198 [.pt 0 0,vn 1,.ar .u8 72 (nf r),vi n] [.ro (.blk [.pt 1 0,.pt 2 0] 314),.ro (hC),.ro (.blk [.pt 3 0,.sl 4] 368),.ro (gF),.ro (.row eB gen)] (.tu [.ar .u8 64 (nf (dcB r n)),.ag [vn (jk (kB r n) (kB r n).length),vn (Zx (kB r n))]]) [.ro (.blk [.pt 1 0,.pt 2 0] 314),.ro (hC),.ro (.blk [.pt 3 0,.sl 4] 368),.ro (gF),.ro (.row eB gen)] :=
 so Tryz.f198 10 (ir 0 5) (.c [] (Es) (.n (.c (ir 0 5) (Auh r n (by first | assumption | omega)) (.c [.id 9] (Y5 (kB r n) (by show 8<=1000; decide)) (.t q .nil)))))
theorem Ak8 (r:Nat->Nat) (n:Int) (hr:∀ j,r j < 256) (q:decide (2<=((jk (kB r n) (kB r n).length:Nat):Int))=true):Sp P 198 [.pt 0 0,vn 1,.ar .u8 72 (nf r),vi n] [.ro (.blk [.pt 1 0,.pt 2 0] 314),.ro (hC),.ro (.blk [.pt 3 0,.sl 4] 368),.ro (gF),.ro (.row eB gen)] (.tu [.ar .u8 64 (nf (fun _=>0)),.ag [vn (jk (kB r n) (kB r n).length),vn (Zx (kB r n))]]) [.ro (.blk [.pt 1 0,.pt 2 0] 314),.ro (hC),.ro (.blk [.pt 3 0,.sl 4] 368),.ro (gF),.ro (.row eB gen)] :=
 so Tryz.f198 10 (ir 0 5) (.c [] (Es) (.n (.c (ir 0 5) (Auh r n (by first | assumption | omega)) (.c [.id 9] (Y5 (kB r n) (by show 8<=1000; decide)) (.t q .nil)))))
theorem Aw6 (r:Nat->Nat) (n:Int) (hr:∀ j,r j < 256):Sp P 198 [.pt 0 0,vn 1,.ar .u8 72 (nf r),vi n] [.ro (.blk [.pt 1 0,.pt 2 0] 314),.ro (hC),.ro (.blk [.pt 3 0,.sl 4] 368),.ro (gF),.ro (.row eB gen)] (.tu [.ar .u8 64 (nf (dlB r n)),.ag [vn (jk (kB r n) (kB r n).length),vn (Zx (kB r n))]]) [.ro (.blk [.pt 1 0,.pt 2 0] 314),.ro (hC),.ro (.blk [.pt 3 0,.sl 4] 368),.ro (gF),.ro (.row eB gen)]:=by
 cases q:decide (2<=((jk (kB r n) (kB r n).length:Nat):Int)) with
 | true =>
   have e:dlB r n=(fun _=>0):=by unfold dlB; rw [q]; rfl
   rw [e]; exact Ak8 r n hr q
 | false =>
   have e:dlB r n=dcB r n:=by unfold dlB; rw [q]; rfl
   rw [e]; exact Ak7 r n hr q
def dlC (r:Nat->Nat) (n:Int):Nat->Nat:=bif decide (2<=((jk (kC r n) (kC r n).length:Nat):Int)) then (fun _=>0) else dcC r n
theorem Ak9 (r:Nat->Nat) (n:Int) (hr:∀ j,r j < 256) (q:decide (2<=((jk (kC r n) (kC r n).length:Nat):Int))=false):Sp P 198 [.pt 0 0,vn 2,.ar .u8 72 (nf r),vi n] [.ro (.blk [.pt 1 0,.pt 2 0] 314),.ro (hC),.ro (.blk [.pt 3 0,.sl 4] 368),.ro (gF),.ro (.row eB gen)] (.tu [.ar .u8 64 (nf (dcC r n)),.ag [vn (jk (kC r n) (kC r n).length),vn (Zx (kC r n))]]) [.ro (.blk [.pt 1 0,.pt 2 0] 314),.ro (hC),.ro (.blk [.pt 3 0,.sl 4] 368),.ro (gF),.ro (.row eB gen)] :=
 so Tryz.f198 10 (ir 0 5) (.c [] (Et) (.n (.c (ir 0 5) (Aui r n (by first | assumption | omega)) (.c [.id 9] (Y5 (kC r n) (by show 2<=1000; decide)) (.t q .nil)))))
theorem Aka (r:Nat->Nat) (n:Int) (hr:∀ j,r j < 256) (q:decide (2<=((jk (kC r n) (kC r n).length:Nat):Int))=true):Sp P 198 [.pt 0 0,vn 2,.ar .u8 72 (nf r),vi n] [.ro (.blk [.pt 1 0,.pt 2 0] 314),.ro (hC),.ro (.blk [.pt 3 0,.sl 4] 368),.ro (gF),.ro (.row eB gen)] (.tu [.ar .u8 64 (nf (fun _=>0)),.ag [vn (jk (kC r n) (kC r n).length),vn (Zx (kC r n))]]) [.ro (.blk [.pt 1 0,.pt 2 0] 314),.ro (hC),.ro (.blk [.pt 3 0,.sl 4] 368),.ro (gF),.ro (.row eB gen)] :=
 so Tryz.f198 10 (ir 0 5) (.c [] (Et) (.n (.c (ir 0 5) (Aui r n (by first | assumption | omega)) (.c [.id 9] (Y5 (kC r n) (by show 2<=1000; decide)) (.t q .nil)))))
theorem Aw7 (r:Nat->Nat) (n:Int) (hr:∀ j,r j < 256):Sp P 198 [.pt 0 0,vn 2,.ar .u8 72 (nf r),vi n] [.ro (.blk [.pt 1 0,.pt 2 0] 314),.ro (hC),.ro (.blk [.pt 3 0,.sl 4] 368),.ro (gF),.ro (.row eB gen)] (.tu [.ar .u8 64 (nf (dlC r n)),.ag [vn (jk (kC r n) (kC r n).length),vn (Zx (kC r n))]]) [.ro (.blk [.pt 1 0,.pt 2 0] 314),.ro (hC),.ro (.blk [.pt 3 0,.sl 4] 368),.ro (gF),.ro (.row eB gen)]:=by
 cases q:decide (2<=((jk (kC r n) (kC r n).length:Nat):Int)) with
 | true =>
   have e:dlC r n=(fun _=>0):=by unfold dlC; rw [q]; rfl
   rw [e]; exact Aka r n hr q
 | false =>
   have e:dlC r n=dcC r n:=by unfold dlC; rw [q]; rfl
   rw [e]; exact Ak9 r n hr q
