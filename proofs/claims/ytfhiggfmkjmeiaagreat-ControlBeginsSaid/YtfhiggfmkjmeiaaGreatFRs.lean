import Derived.Test.YtfhiggfmkjmeiaaGreatFHt
import Derived.Test.YtfhiggfmkjmeiaaGreatFxX
set_option linter.all false
namespace Go.Proofs.YtfhiggfmkjmeiaaGreat
open Go Go.RowKit
set_option maxRecDepth 100000
def dn (x:Int):Nat->Int
 | 0=>x
 | i + 1=>dn x i - 1
theorem Fl (x:Int):∀ i,dn x i=x - i
 | 0=>by simp [dn]
 | i + 1=>by rw [dn,Fl x i]; omega
theorem A7q (l:List Nat) (hl:l.length<=65536) (q1:(decide (0<=dn ((l.length:Int) - 1) (l.length - dl l)))=true):Sp P 307 [.sl 0] [.ro (.row eB l)] (vi (dn ((l.length:Int) - 1) (l.length - dl l))) [.ro (.row eB l)] :=
 so Tryz.f307 3 [.id 0] (.e 6 (Yq (a:=(l.length:Int)) (b:=1) (c:=(l.length:Int) - 1) (by omega)) (.lp (l.length - dl l) 2 [] [] (fun i=>[(3,vi (dn ((l.length:Int) - 1) i))]) (fun i=>[]) (fun i hi=>(.t2 (sQT (0<=dn ((l.length:Int) - 1) i) (by rw [Fl]; omega)) (.t (sQT (0<=dn ((l.length:Int) - 1) i) (by rw [Fl]; omega)) (.ix (n:=dn ((l.length:Int) - 1) i) (i:=(l.length - 1 - i)) (m:=l.length) (e:=(by rw [Fl]; omega)) (by omega) (.t (sQT (0<=dn ((l.length:Int) - 1) i) (by rw [Fl]; omega)) (.el (e:=eB) (gD (l:=l) (i:=(l.length - 1 - i)) (by omega)) (.t2 (sQT (0<=dn ((l.length:Int) - 1) i) (by rw [Fl]; omega)) (.t (sQT (((l.getD (l.length - 1 - i) 0:Nat):Int)=0) (by rw [A4x (by omega) (by omega)]; rfl)) (.e 17 (Yq (a:=dn ((l.length:Int) - 1) i) (b:=1) (c:=(dn ((l.length:Int) - 1) i) - 1) (by rw [Fl]; omega)) .nil))))))))) (.t2 q1 (.t q1 (.ix (n:=dn ((l.length:Int) - 1) (l.length - dl l)) (i:=(dl l - 1)) (m:=l.length) (e:=(by have h:=otq q1; rw [Fl] at h ⊢; have:=Gh l; omega)) (by have h:=otq q1; rw [Fl] at h; have:=Gh l; omega) (.t q1 (.el (e:=eB) (gD (l:=l) (i:=(dl l - 1)) (by have h:=otq q1; rw [Fl] at h; have:=Gh l; omega)) (.t2 q1 (.t (sQF (((l.getD (dl l - 1) 0:Nat):Int)=0) (by have h:=otq q1; rw [Fl] at h; have:=Gh l; have:=A4w (l:=l) (by omega); omega)) .nil)))))))))
theorem A7r (l:List Nat) (hl:l.length<=65536) (q1:(decide (0<=dn ((l.length:Int) - 1) (l.length - dl l)))=false):Sp P 307 [.sl 0] [.ro (.row eB l)] (vi (dn ((l.length:Int) - 1) (l.length - dl l))) [.ro (.row eB l)] :=
 so Tryz.f307 3 [.id 0] (.e 6 (Yq (a:=(l.length:Int)) (b:=1) (c:=(l.length:Int) - 1) (by omega)) (.lp (l.length - dl l) 2 [] [] (fun i=>[(3,vi (dn ((l.length:Int) - 1) i))]) (fun i=>[]) (fun i hi=>(.t2 (sQT (0<=dn ((l.length:Int) - 1) i) (by rw [Fl]; omega)) (.t (sQT (0<=dn ((l.length:Int) - 1) i) (by rw [Fl]; omega)) (.ix (n:=dn ((l.length:Int) - 1) i) (i:=(l.length - 1 - i)) (m:=l.length) (e:=(by rw [Fl]; omega)) (by omega) (.t (sQT (0<=dn ((l.length:Int) - 1) i) (by rw [Fl]; omega)) (.el (e:=eB) (gD (l:=l) (i:=(l.length - 1 - i)) (by omega)) (.t2 (sQT (0<=dn ((l.length:Int) - 1) i) (by rw [Fl]; omega)) (.t (sQT (((l.getD (l.length - 1 - i) 0:Nat):Int)=0) (by rw [A4x (by omega) (by omega)]; rfl)) (.e 17 (Yq (a:=dn ((l.length:Int) - 1) i) (b:=1) (c:=(dn ((l.length:Int) - 1) i) - 1) (by rw [Fl]; omega)) .nil))))))))) (.t4 q1 (.t2 q1 (.n .nil)))))
theorem A2r (l:List Nat) (hl:l.length<=65536):Sp P 307 [.sl 0] [.ro (.row eB l)] (vi (((dl l:Nat):Int) - 1)) [.ro (.row eB l)]:=by
 cases q1:decide (0<=dn ((l.length:Int) - 1) (l.length - dl l)) with
 | true =>
   have e:(((dl l:Nat):Int) - 1)=(dn ((l.length:Int) - 1) (l.length - dl l)):=by rw [Fl]; have:=Gh l; omega
   rw [e]
   exact A7q l hl q1
 | false =>
   have e:(((dl l:Nat):Int) - 1)=(dn ((l.length:Int) - 1) (l.length - dl l)):=by rw [Fl]; have:=Gh l; omega
   rw [e]
   exact A7r l hl q1
theorem Aaz (x:Nat) (l:List Nat) (hl:(x :: l).length<=65536):Sp P 309 [.sl 0] [.ro (.row eB (x :: l))] (.sl 1) [.ro (.row eB (x :: l)),.row eB (x :: l)] :=
 so Tryz.f309 4 [.id 0,.id 3] (.n (.bs 5 (e:=eB) [] (.ap (e:=eB) (l:=[]) (l':=x :: l) .row .row (by simp only [List.length_nil,List.length_cons] at *; omega) .nil)))
theorem Z3 (a:Addr) (c:Nat) :Sp P 309 [.v (.slice (some a) 0 c)] [.ro (.row eB [])] (.sl 1) [.ro (.row eB []),.row eB []] :=
 so Tryz.f309 4 [.id 0,.id 3] (.n (.bs 5 (e:=eB) [] (.ap (e:=eB) (l:=[]) (l':=[]) .row (.flat [] [] rfl) (by decide) .nil)))
theorem Ahl  :Sp P 309 [A64] [.ro (.row eB [])] (.sl 1) [.ro (.row eB []),.row eB []] :=
 so Tryz.f309 3 [.id 0,.nil] (.y .nil)
theorem A7j (l:List Nat) (hl:l.length<=65536):Sp P 309 [.sl 0] [.ro (.row eB l)] (.sl 1) [.ro (.row eB l),.row eB l]:=by
 cases l with
 | cons x l=>exact Aaz x l hl
 | nil =>
   have hA:=Ahl
   refine ⟨⟨rfl,rfl⟩,hA.ln,hA.fr,hA.rs,hA.ro,fun ρ M w h=>?_⟩
   obtain ⟨h1,h2,h3,h4⟩:=h.row (g:=0) rfl rfl
   cases ha:(ρ 0).a with
   | none =>
     cases hea:(ρ 0).ea with
     | none =>
       have e:V.dens ρ [V.sl 0]=V.dens ρ [A64]:=by simp only [V.dens,V.den,Loc.slv_none ha,Loc.emp,hea]
       rw [e]; exact hA.out ρ M w h
     | some A =>
       have e:V.dens ρ [V.sl 0]=V.dens ρ [V.v (.slice (some A) 0 (ρ 0).ec)]:=by simp only [V.dens,V.den,Loc.slv_none ha,Loc.emp,hea]
       rw [e]; exact (Z3 _ _).out ρ M w h
   | some a =>
     have e:V.dens ρ [V.sl 0]=V.dens ρ [V.v (.slice (some ((ρ 0).adr 0)) 0 (ρ 0).cap)]:=by simp only [V.dens,V.den,L2 ha,h1,List.length_nil]
     rw [e]; exact (Z3 _ _).out ρ M w h
def tr (l:List Nat):List Nat:=l.take (dl l)
theorem Apz (l:List Nat):(tr l).length=dl l:=by unfold tr; rw [List.length_take]; have:=Gh l; omega
theorem My (l:List Nat):(tr l).length<=l.length:=by rw [Apz]; exact Gh l
theorem Agr {l:List Nat} (h:B8 l):B8 (tr l):=h.take _
theorem Yn (l:List Nat) (hl:l.length<=65536):Sp P 306 [.sl 0] [.ro (.row eB l)] (.sl 1) [.ro (.row eB l),.row eB (tr l)] :=
 so Tryz.f306 3 [.id 0,.id 2] (.c [.id 0] (A2r l (by first | assumption | omega)) (.e 6 (Ck (a:=((dl l:Nat):Int) - 1) (b:=1) (c:=((dl l:Nat):Int)) (by have:=Gh l; omega)) (.sl (i:=0) (n:=dl l) (m:=l.length) (hi:=((dl l:Nat):Int)) (h2:=by omega) (by have:=Gh l; omega) (.cw [.ss 0 0 1 (dl l)] (A7j (l.take (dl l)) (by rw [List.length_take]; have:=Gh l; omega)) _ (congrArg (fun z:Fd=>[z]) (vwT eB l (dl l) (Gh l))) .nil))))
theorem Ab9 (l:List Nat) (hl:l.length<=65536) (h:dl l ≠ 0):Sp P 307 [.sl 0] [.ro (.row eB l)] (vn (dl l - 1)) [.ro (.row eB l)]:=by
 have:=A2r l hl
 rw [show ((dl l:Nat):Int) - 1=((dl l - 1:Nat):Int) by omega] at this
 exact this
def mi (a b o:List Nat) (i:Nat):Nat->List Nat
 | 0=>o
 | k + 1=>(mi a b o i k).set (i + k) (xr ((mi a b o i k).getD (i + k) 0) (Am (a.getD i 0) (b.getD k 0)))
def mo (a b:List Nat):Nat->List Nat
 | 0=>List.replicate (a.length + b.length) 0
 | i + 1=>mi a b (mo a b i) i b.length
theorem Wa (a b o:List Nat) (i:Nat):∀ k,(mi a b o i k).length=o.length
 | 0=>rfl
 | k + 1=>by rw [mi,List.length_set,Wa a b o i k]
theorem T5 (a b:List Nat):∀ i,(mo a b i).length=a.length + b.length
 | 0=>List.length_replicate
 | i + 1=>by rw [mo,Wa,T5 a b i]
theorem Ag1 {a b o:List Nat} {i:Nat} (h:B8 o):∀ k,B8 (mi a b o i k)
 | 0=>h
 | k + 1=>(Ag1 h k).set (I5 (Ag1 h k _) (Cz _ _))
theorem Anu {a b:List Nat}:∀ i,B8 (mo a b i)
 | 0=>B8.rep _
 | i + 1=>Ag1 (Anu i) _
def A0h (a b:List Nat):List Nat:=tr (mo (tr a) (tr b) (tr a).length)
theorem A62 {a b:List Nat}:B8 (A0h a b):=Agr (Anu _)
theorem Any (a b:List Nat):(A0h a b).length<=a.length + b.length:=by
 have h:=My (mo (tr a) (tr b) (tr a).length)
 rw [T5] at h
 have:=My a; have:=My b
 unfold A0h; omega
theorem Ye (a:List Nat) (b:List Nat) (ha:a.length<=1000) (hb:b.length<=1000) (ba:B8 a) (bb:B8 b):Sp P 281 [.pt 0 0,.sl 1,.sl 2] [.ro (gF),.ro (.row eB a),.ro (.row eB b)] (.sl 3) [.ro (gF),.ro (.row eB a),.ro (.row eB b),.row eB (A0h a b)] :=
 so Tryz.f281 7 (ir 0 3 ++ .id 7 :: []) (.c [.id 1] (Yn a (by first | assumption | omega)) (.c [.id 2] (Yn b (by first | assumption | omega)) (.e 20 (Ck (a:=(((tr a).length:Nat):Int)) (b:=(((tr b).length:Nat):Int)) (c:=(((tr a).length + (tr b).length:Nat):Int)) (by have:=My a; have:=My b; omega)) (.mk (e:=eB) (a:=0) (n:=(tr a).length + (tr b).length) (by have:=My a; have:=My b; omega) (.lp (tr a).length 7 [] [] (fun i=>[(24,vn i)]) (fun i=>[(6,.row eB (mo (tr a) (tr b) i))]) (fun i hi=>(.t (sQT ((i:Int) < (((tr a).length:Nat):Int)) (by omega)) (.ix (i:=i) (m:=(tr a).length) (by omega) (.el (e:=eB) (gD (l:=tr a) (i:=i) (by omega)) (.lp (tr b).length 7 [] [] (fun k=>[(31,vn k)]) (fun k=>[(6,.row eB (mi (tr a) (tr b) (mo (tr a) (tr b) i) i k))]) (fun k hk=>(.t (sQT ((k:Int) < (((tr b).length:Nat):Int)) (by omega)) (.ix (i:=k) (m:=(tr b).length) (by omega) (.el (e:=eB) (gD (l:=tr b) (i:=k) (by omega)) (.e 39 (Ck (a:=(i:Int)) (b:=(k:Int)) (c:=((i + k:Nat):Int)) (by have:=My a; have:=My b; omega)) (.ix (i:=i + k) (m:=(mi (tr a) (tr b) (mo (tr a) (tr b) i) i k).length) (by rw [Wa,T5]; omega) (.el (e:=eB) (gD (l:=mi (tr a) (tr b) (mo (tr a) (tr b) i) i k) (i:=i + k) (by rw [Wa,T5]; omega)) (.c [.id 0] (Ed ((tr a).getD i 0) ((tr b).getD k 0) (Agr ba _) (Agr bb _)) (.e 46 (Yt ((mi (tr a) (tr b) (mo (tr a) (tr b) i) i k).getD (i + k) 0) (Am ((tr a).getD i 0) ((tr b).getD k 0)) (Ag1 (Anu _) _ _) (Cz _ _)) (.ix (i:=i + k) (m:=(mi (tr a) (tr b) (mo (tr a) (tr b) i) i k).length) (by rw [Wa,T5]; omega) (.sw (e:=eB) (l:=mi (tr a) (tr b) (mo (tr a) (tr b) i) i k) (i:=i + k) (a:=xr ((mi (tr a) (tr b) (mo (tr a) (tr b) i) i k).getD (i + k) 0) (Am ((tr a).getD i 0) ((tr b).getD k 0))) (by rw [Wa,T5]; omega) (.e 48 (Ck (a:=(k:Int)) (b:=1) (c:=((k + 1:Nat):Int)) (by have:=My a; have:=My b; omega)) .nil)))))))))))) (.t (sQF ((((tr b).length:Nat):Int) < (((tr b).length:Nat):Int)) (by omega)) (.e 49 (Ck (a:=(i:Int)) (b:=1) (c:=((i + 1:Nat):Int)) (by have:=My a; have:=My b; omega)) .nil))))))) (.t (sQF ((((tr a).length:Nat):Int) < (((tr a).length:Nat):Int)) (by omega)) (.c [.id 6] (Yn (mo (tr a) (tr b) (tr a).length) (by rw [T5]; have:=My a; have:=My b; omega)) .nil)))))))
def mdi (b o:List Nat) (A e:Nat):Nat->List Nat
 | 0=>o
 | k + 1=>(mdi b o A e k).set (e + k) (xr ((mdi b o A e k).getD (e + k) 0) (Am A (b.getD k 0)))
def mdo (a b:List Nat) (t:Nat):Nat->List Nat
 | 0=>a
 | i + 1=>mdi b (mdo a b t i) (Am ((mdo a b t i).getD (a.length - 1 - i) 0) t) (a.length - 1 - i - (dl b - 1)) (dl b - 1 + 1)
theorem Ls (b o:List Nat) (A e:Nat):∀ k,(mdi b o A e k).length=o.length
 | 0=>rfl
 | k + 1=>by rw [mdi,List.length_set,Ls b o A e k]
theorem Id (a b:List Nat) (t:Nat):∀ i,(mdo a b t i).length=a.length
 | 0=>rfl
 | i + 1=>by rw [mdo,Ls,Id a b t i]
theorem A0c {b o:List Nat} {A e:Nat} (h:B8 o):∀ k,B8 (mdi b o A e k)
 | 0=>h
 | k + 1=>(A0c h k).set (I5 (A0c h k _) (Cz _ _))
theorem W9 {a b:List Nat} {t:Nat} (h:B8 a):∀ i,B8 (mdo a b t i)
 | 0=>h
 | i + 1=>A0c (W9 h i) _
def J4 (b:List Nat):Nat:=Av 1 (b.getD (dl b - 1) 0)
def Acm (a b:List Nat):List Nat:=tr (mdo a b (J4 b) (a.length + 1 - dl b))
theorem At1 {a b:List Nat} (h:B8 a):B8 (Acm a b):=Agr (W9 h _)
theorem At7 (a:List Nat) (b:List Nat) (ha:a.length<=1000) (hb:b.length<=1000) (ba:B8 a) (bb:B8 b) (hq:dl b ≠ 0):Sp P 286 [.pt 0 0,.sl 1,.sl 2] [.ro (gF),.ro (.row eB a),.ro (.row eB b)] (.tu [.sl 3,vn 0]) [.ro (gF),.ro (.row eB a),.ro (.row eB b),.row eB (Acm a b)] :=
 so Tryz.f286 5 (ir 0 3 ++ .id 5 :: []) (.c [.id 2] (Ab9 b (by first | assumption | omega) (by first | assumption | omega)) (.t (sQF (((dl b - 1:Nat):Int) < 0) (by omega)) (.ix (n:=((dl b - 1:Nat):Int)) (i:=(dl b - 1)) (m:=b.length) (e:=rfl) (by have:=Gh b; omega) (.el (e:=eB) (gD (l:=b) (i:=(dl b - 1)) (by have:=Gh b; omega)) (.c [.id 0] (Axp (b.getD (dl b - 1) 0) (bb _)) (.t (congrArg (!·) (sQT (noI (b.getD (dl b - 1) 0)=0) (by unfold noI; rw [if_neg (A4w hq)]))) (.c [.id 1] (A7j a (by first | assumption | omega)) (.e 35 (Yq (a:=(a.length:Int)) (b:=1) (c:=(a.length:Int) - 1) (by omega)) (.lp (a.length + 1 - dl b) 5 [] [] (fun i=>[(12,vi (dn ((a.length:Int) - 1) i))]) (fun i=>[(4,.row eB (mdo a b (J4 b) i))]) (fun i hi=>(.t (sQT (((dl b - 1:Nat):Int)<=dn ((a.length:Int) - 1) i) (by rw [Fl]; omega)) (.ix (n:=dn ((a.length:Int) - 1) i) (i:=(a.length - 1 - i)) (m:=(mdo a b (J4 b) i).length) (e:=(by rw [Fl]; omega)) (by rw [Id]; omega) (.el (e:=eB) (gD (l:=mdo a b (J4 b) i) (i:=(a.length - 1 - i)) (by rw [Id]; omega)) (.c [.id 0] (Ed ((mdo a b (J4 b) i).getD (a.length - 1 - i) 0) (Av 1 (b.getD (dl b - 1) 0)) (W9 ba _ _) (Dc _ _)) (.e 49 (Ck (a:=((dl b - 1:Nat):Int)) (b:=1) (c:=(((dl b - 1) + 1:Nat):Int)) (by have:=Gh b; omega)) (.lp (dl b - 1 + 1) 5 [] [] (fun k=>[(50,vn k)]) (fun k=>[(4,.row eB (mdi b (mdo a b (J4 b) i) (Am ((mdo a b (J4 b) i).getD (a.length - 1 - i) 0) (J4 b)) (a.length - 1 - i - (dl b - 1)) k))]) (fun k hk=>(.t (sQT ((k:Int) < (((dl b - 1) + 1:Nat):Int)) (by omega)) (.e 56 (Yq (a:=dn ((a.length:Int) - 1) i) (b:=((dl b - 1:Nat):Int)) (c:=(dn ((a.length:Int) - 1) i) - ((dl b - 1:Nat):Int)) (by rw [Fl]; have:=Gh b; omega)) (.e 58 (Ck (a:=(dn ((a.length:Int) - 1) i) - ((dl b - 1:Nat):Int)) (b:=(k:Int)) (c:=((dn ((a.length:Int) - 1) i) - ((dl b - 1:Nat):Int)) + (k:Int)) (by rw [Fl]; have:=Gh b; omega)) (.ix (n:=((dn ((a.length:Int) - 1) i) - ((dl b - 1:Nat):Int)) + (k:Int)) (i:=(a.length - 1 - i - (dl b - 1) + k)) (m:=(mdi b (mdo a b (J4 b) i) (Am ((mdo a b (J4 b) i).getD (a.length - 1 - i) 0) (J4 b)) (a.length - 1 - i - (dl b - 1)) k).length) (e:=(by rw [Fl]; have:=Gh b; omega)) (by rw [Ls,Id]; have:=Gh b; omega) (.el (e:=eB) (gD (l:=mdi b (mdo a b (J4 b) i) (Am ((mdo a b (J4 b) i).getD (a.length - 1 - i) 0) (J4 b)) (a.length - 1 - i - (dl b - 1)) k) (i:=(a.length - 1 - i - (dl b - 1) + k)) (by rw [Ls,Id]; have:=Gh b; omega)) (.ix (i:=k) (m:=b.length) (by have:=Gh b; omega) (.el (e:=eB) (gD (l:=b) (i:=k) (by have:=Gh b; omega)) (.c [.id 0] (Ed (Am ((mdo a b (J4 b) i).getD (a.length - 1 - i) 0) (Av 1 (b.getD (dl b - 1) 0))) (b.getD k 0) (Cz _ _) (bb _)) (.e 68 (Yt ((mdi b (mdo a b (J4 b) i) (Am ((mdo a b (J4 b) i).getD (a.length - 1 - i) 0) (J4 b)) (a.length - 1 - i - (dl b - 1)) k).getD (a.length - 1 - i - (dl b - 1) + k) 0) (Am (Am ((mdo a b (J4 b) i).getD (a.length - 1 - i) 0) (Av 1 (b.getD (dl b - 1) 0))) (b.getD k 0)) (A0c (W9 ba _) _ _) (Cz _ _)) (.ix (n:=((dn ((a.length:Int) - 1) i) - ((dl b - 1:Nat):Int)) + (k:Int)) (i:=(a.length - 1 - i - (dl b - 1) + k)) (m:=(mdi b (mdo a b (J4 b) i) (Am ((mdo a b (J4 b) i).getD (a.length - 1 - i) 0) (J4 b)) (a.length - 1 - i - (dl b - 1)) k).length) (e:=(by rw [Fl]; have:=Gh b; omega)) (by rw [Ls,Id]; have:=Gh b; omega) (.sw (e:=eB) (l:=mdi b (mdo a b (J4 b) i) (Am ((mdo a b (J4 b) i).getD (a.length - 1 - i) 0) (J4 b)) (a.length - 1 - i - (dl b - 1)) k) (i:=(a.length - 1 - i - (dl b - 1) + k)) (a:=xr ((mdi b (mdo a b (J4 b) i) (Am ((mdo a b (J4 b) i).getD (a.length - 1 - i) 0) (J4 b)) (a.length - 1 - i - (dl b - 1)) k).getD (a.length - 1 - i - (dl b - 1) + k) 0) (Am (Am ((mdo a b (J4 b) i).getD (a.length - 1 - i) 0) (Av 1 (b.getD (dl b - 1) 0))) (b.getD k 0))) (by rw [Ls,Id]; have:=Gh b; omega) (.e 70 (Ck (a:=(k:Int)) (b:=1) (c:=((k + 1:Nat):Int)) (by have:=Gh b; omega)) .nil))))))))))))) (.t (sQF ((((dl b - 1 + 1):Nat):Int) < (((dl b - 1) + 1:Nat):Int)) (by omega)) (.e 40 (Yq (a:=dn ((a.length:Int) - 1) i) (b:=1) (c:=(dn ((a.length:Int) - 1) i) - 1) (by rw [Fl]; omega)) .nil))))))))) (.t (sQF (((dl b - 1:Nat):Int)<=dn ((a.length:Int) - 1) (a.length + 1 - dl b)) (by rw [Fl]; omega)) (.c [.id 4] (Yn (mdo a b (J4 b) (a.length + 1 - dl b)) (by rw [Id]; omega)) .nil)))))))))))
def Io (l:List Nat) (x:Nat):Nat->Nat
 | 0=>0
 | i + 1=>xr (Am (Io l x i) x) (l.getD (l.length - 1 - i) 0)
theorem A51 {l:List Nat} (h:B8 l) (x:Nat):∀ i,Io l x i < 256
 | 0=>(by decide:(0:Nat) < 256)
 | i + 1=>I5 (Cz _ _) (h _)
theorem A7a (l:List Nat) :Sp P 356 [.sl 0] [.ro (.row eB l)] (.fn (.func 357) [] [.pt 1 0]) [.ro (.row eB l),.blk [.sl 0] 77] :=
 so Tryz.f356 3 [.id 0,.id 2] .nil
theorem Aod (l:List Nat) (x:Nat) (hl:l.length<=65536) (bl:B8 l) (hx:x < 256):Sp P 350 [.pt 0 0,.sl 1,vb x] [.ro (gF),.ro (.row eB l)] (vb (Io l x l.length)) [.ro (gF),.ro (.row eB l)] :=
 so Tryz.f350 8 [.id 0,.id 1] (.c [.id 1] (A7a l) (.e 6 (Yq (a:=(l.length:Int)) (b:=1) (c:=(l.length:Int) - 1) (by omega)) (.lp l.length 9 [] [] (fun i=>[(3,vi (dn ((l.length:Int) - 1) i))]) (fun i=>[(5,.blk [vb (Io l x i)] 5),(7,.lo .ready none)]) (fun i hi=>(.t (sQT (0<=dn ((l.length:Int) - 1) i) (by rw [Fl]; omega)) (.ix (n:=dn ((l.length:Int) - 1) i) (i:=(l.length - 1 - i)) (m:=l.length) (e:=(by rw [Fl]; omega)) (by omega) (.el (e:=eB) (gD (l:=l) (i:=(l.length - 1 - i)) (by omega)) (.c [.id 0] (Ed (Io l x i) x (A51 bl x i) hx) (.e 19 (Yt (Am (Io l x i) x) (l.getD (l.length - 1 - i) 0) (Cz _ _) (bl _)) (.n (.e 10 (Yq (a:=dn ((l.length:Int) - 1) i) (b:=1) (c:=(dn ((l.length:Int) - 1) i) - 1) (by rw [Fl]; omega)) .nil)))))))) (.t (sQF (0<=dn ((l.length:Int) - 1) l.length) (by rw [Fl]; omega)) .nil))))
def rtP (r:List Nat):Nat->List Nat
 | 0=>[1]
 | i + 1=>A0h (rtP r i) [r.getD i 0,1]
theorem Agk (r:List Nat):∀ i,(rtP r i).length<=2 * i + 1
 | 0=>Nat.le_refl 1
 | i + 1=>by
   have h:=Any (rtP r i) [r.getD i 0,1]
   have:=Agk r i
   simp only [List.length_cons,List.length_nil] at h
   rw [rtP]; omega
theorem Ap0 (i:Nat) (h:i<=4):(rtP [1,2,4,8] i).length<=1000:=by have:=Agk [1,2,4,8] i; omega
theorem Aop  :Sp P 243 [.pt 0 0,.sl 1] [.ro (gF),.ro (.row eB [1,2,4,8])] (.sl 2) [.ro (gF),.ro (.row eB [1,2,4,8]),.row eB (rtP [1,2,4,8] 4)] :=
 so Tryz.f243 11 [.id 0,.id 1,.id 11] (.bs 8 (e:=eB) [1] (.lu 4 (.y (.ix (i:=0) (m:=4) (by decide) (.el (e:=eB) (gD (l:=[1,2,4,8]) (i:=0) (by decide)) (.bs 18 (e:=eB) [[1,2,4,8].getD 0 0,1] (.c [.id 0,.id 3,.id 4] (Ye [1] [[1,2,4,8].getD 0 0,1] (by decide) (by decide) (B8.mem (by decide)) (B8.mem (by decide))) (.y (.ix (i:=1) (m:=4) (by decide) (.el (e:=eB) (gD (l:=[1,2,4,8]) (i:=1) (by decide)) (.bs 18 (e:=eB) [[1,2,4,8].getD 1 0,1] (.c [.id 0,.id 5,.id 6] (Ye (A0h [1] [[1,2,4,8].getD 0 0,1]) [[1,2,4,8].getD 1 0,1] (Ap0 1 (by decide)) (by decide) A62 (B8.mem (by decide))) (.y (.ix (i:=2) (m:=4) (by decide) (.el (e:=eB) (gD (l:=[1,2,4,8]) (i:=2) (by decide)) (.bs 18 (e:=eB) [[1,2,4,8].getD 2 0,1] (.c [.id 0,.id 7,.id 8] (Ye (A0h (A0h [1] [[1,2,4,8].getD 0 0,1]) [[1,2,4,8].getD 1 0,1]) [[1,2,4,8].getD 2 0,1] (Ap0 2 (by decide)) (by decide) A62 (B8.mem (by decide))) (.y (.ix (i:=3) (m:=4) (by decide) (.el (e:=eB) (gD (l:=[1,2,4,8]) (i:=3) (by decide)) (.bs 18 (e:=eB) [[1,2,4,8].getD 3 0,1] (.c [.id 0,.id 9,.id 10] (Ye (A0h (A0h (A0h [1] [[1,2,4,8].getD 0 0,1]) [[1,2,4,8].getD 1 0,1]) [[1,2,4,8].getD 2 0,1]) [[1,2,4,8].getD 3 0,1] (Ap0 3 (by decide)) (by decide) A62 (B8.mem (by decide))) (.n .nil)))))))))))))))))))))))
def gen:List Nat:=[64,120,54,15,1]
theorem Axi:rtP [1,2,4,8] 4=gen:=by decide +kernel
theorem Vs:dl gen=5:=by decide
theorem Ama:B8 gen:=.mem (by decide)
theorem Aiw (a:Nat) (n:Nat) :Sp P 241 [.pt 0 0,vb a,vn n] [.ro (gF)] (.fn (.func 278) [] [.pt 3 0,.pt 1 0,.pt 2 0]) [.ro (gF),.blk [.pt 0 0] 311,.blk [vb a] 5,.blk [vn n] 3] :=
 so Tryz.f241 5 (.id 0 :: ir 2 3) .nil
theorem Aj1  :Sp P 187 [.pt 0 0] [.ro (gF)] (.pt 1 0) [.ro (gF),.blk [.pt 0 0,.sl 2] 368,.row eB (rtP [1,2,4,8] 4)] :=
 so Tryz.f187 18 [.id 0,.id 17,.id 16] (.c [.id 0] (A53 1) (.c [.id 0] (Aiw (ex (cu 1)) 4) (.lu 4 (.y (.bs 14 (e:=eB) [1] (.ap (e:=eB) (l:=[]) (l':=[1]) (.flat [] [] rfl) .row (by decide) (.n (.c [.id 0] (Ed 1 (ex (cu 1)) (by decide) (Wy _)) (.y (.bs 14 (e:=eB) [2] (.ap (e:=eB) (l:=[1]) (l':=[2]) .row .row (by decide) (.n (.c [.id 0] (Ed (Am 1 (ex (cu 1))) (ex (cu 1)) (Cz _ _) (Wy _)) (.y (.bs 14 (e:=eB) [4] (.ap (e:=eB) (l:=[1,2]) (l':=[4]) .row .row (by decide) (.n (.c [.id 0] (Ed (Am (Am 1 (ex (cu 1))) (ex (cu 1))) (ex (cu 1)) (Cz _ _) (Wy _)) (.y (.bs 14 (e:=eB) [8] (.ap (e:=eB) (l:=[1,2,4]) (l':=[8]) .row .row (by decide) (.n (.c [.id 0] (Ed (Am (Am (Am 1 (ex (cu 1))) (ex (cu 1))) (ex (cu 1))) (ex (cu 1)) (Cz _ _) (Wy _)) (.n (.c [.id 0,.id 15] (Aop) .nil)))))))))))))))))))))))))
theorem Aoz:Sp P 187 [.pt 0 0] [.ro (gF)] (.pt 1 0) [.ro (gF),.blk [.pt 0 0,.sl 2] 368,.row eB gen]:=by
 have h:=Aj1
 rw [Axi] at h
 exact h
def Nk (f v:Nat->Nat):List Nat:=(List.replicate 4 0 ++ arL f 32 0) ++ arL v 3 0
theorem Ej (f v:Nat->Nat):(Nk f v).length=39:=by simp only [Nk,List.length_append,List.length_replicate,Bh]
theorem Ri {f v:Nat->Nat} (hf:∀ j,f j < 256) (hv:∀ j,v j < 256):B8 (Nk f v):=((B8.rep 4).app (Ij hf _ _)).app (Ij hv _ _)
theorem Af9 (l:List Nat) (i j a:Nat):(l.set i a).getD j 0=if i=j/\i < l.length then a else l.getD j 0:=by
 rw [List.getD_eq_getElem?_getD,List.getD_eq_getElem?_getD,List.getElem?_set]
 by_cases h:i=j
 ·subst h
  by_cases h2:i < l.length
  ·simp [h2]
  ·simp only [if_true,if_neg h2,true_and]
   rw [List.getElem?_eq_none (by omega)]
 ·rw [if_neg h,if_neg (fun h2=>h h2.1)]
theorem B22 (x:Nat) (h:x < 256):Am (Am x 1) 1=x:=Av4 (q:=fun x=>Am (Am x 1) 1=x) (by decide +kernel) h
theorem Aad:J4 gen=1:=by decide +kernel
theorem Dd (x:Nat):xr x x=0:=Nat.xor_self x
theorem A61 {b o:List Nat} {A e j:Nat}:∀ k,e + k<=j->(mdi b o A e k).getD j 0=o.getD j 0
 | 0,_=>rfl
 | k + 1,h=>by rw [mdi,Af9,if_neg (by omega),A61 k (by omega)]
theorem A0d {a:List Nat} (ba:B8 a):∀ i j,i + 4<=a.length->a.length - i<=j->j < a.length->(mdo a gen 1 i).getD j 0=0
 | 0,j,_,h1,h2=>by omega
 | i + 1,j,h0,h1,h2=>by
   rw [mdo,Vs]
   have hl:=Id a gen 1 i
   rcases Nat.lt_or_ge j (a.length - i) with h3 | h3
   ·have e:j=a.length - 1 - i - (5 - 1) + 4:=by omega
    show (mdi gen (mdo a gen 1 i) _ (a.length - 1 - i - (5 - 1)) (4 + 1)).getD j 0=0
    rw [mdi,Af9,if_pos ⟨by omega,by rw [Ls,hl]; omega⟩,A61 4 (by omega),show gen.getD 4 0=1 from rfl,show a.length - 1 - i - (5 - 1) + 4=a.length - 1 - i by omega,B22 _ (W9 ba i _),Dd]
   ·rw [A61 _ (by omega)]
    exact A0d ba i j (by omega) h3 h2
theorem Ag2 {a:List Nat} (ba:B8 a) (h:4<=a.length):(Acm a gen).length<=4:=by
 unfold Acm
 rw [Apz,Aad,Vs]
 rcases Nat.lt_or_ge 4 (dl (mdo a gen 1 (a.length + 1 - 5))) with h1 | h1
 ·have h2:=A4w (l:=mdo a gen 1 (a.length + 1 - 5)) (by omega)
  have h3:=Gh (mdo a gen 1 (a.length + 1 - 5))
  rw [Id] at h3
  exact absurd (A0d ba _ _ (by omega) (by omega) (by omega)) h2
 ·exact h1
def ckF (f v:Nat->Nat) (j:Nat):Nat:=(Acm (Nk f v) gen).getD j 0
theorem Akh {f v:Nat->Nat} (hf:∀ j,f j < 256) (hv:∀ j,v j < 256) (j:Nat):ckF f v j < 256:=At1 (Ri hf hv) j
theorem Arg {l:List Nat} (h:l.length<=4):V.flat ρN [.ar .u8 4 (nf fun j=>l.getD j 0)]=(V.flat ρN [.ar .u8 4 (fun _=>0)]).take 0 ++ eB.cs l ++ (V.flat ρN [.ar .u8 4 (fun _=>0)]).drop (0 + l.length * eB.sz):=by
 match l,h with
 | [],_=>rfl
 | [a],_=>rfl
 | [a,b],_=>rfl
 | [a,b,c],_=>rfl
 | [a,b,c,d],_=>rfl
 | a :: b :: c :: d :: e :: l,h=>exact absurd h (by simp only [List.length_cons]; omega)
theorem A2m (f:Nat->Nat) (v:Nat->Nat) (hf:∀ j,f j < 256) (hv:∀ j,v j < 256):Sp P 253 [.pt 0 0,.ar .u8 32 (nf f),.ar .u8 3 (nf v)] [.ro (.blk [.pt 1 0,.sl 2] 368),.ro (gF),.ro (.row eB gen)] (.ar .u8 4 (nf (ckF f v))) [.ro (.blk [.pt 1 0,.sl 2] 368),.ro (gF),.ro (.row eB gen)] :=
 so Tryz.f253 10 (ir 0 3) (.mk (e:=eB) (a:=0) (n:=4) (by decide) (.ap (e:=eB) (l:=List.replicate 4 0) (l':=arL f 32 0) .row (.flat _ _ (Ef f 32)) (by simp only [List.length_append,List.length_replicate,Bh,List.length_nil]; omega) (.ap (e:=eB) (l:=List.replicate 4 0 ++ arL f 32 0) (l':=arL v 3 0) .row (.flat _ _ (Ef v 3)) (by simp only [List.length_append,List.length_replicate,Bh,List.length_nil]; omega) (.c [.id 1,.id 10,.id 2] (At7 (Nk f v) gen (by rw [Ej]; decide) (by decide) (Ri hf hv) Ama (by rw [Vs]; decide)) (.y (.cp (xs:=Acm (Nk f v) gen) .row (Ag2 (Ri hf hv) (by rw [Ej]; decide)) (Arg (Ag2 (Ri hf hv) (by rw [Ej]; decide))) .nil))))))
def Sr (w v:Nat->Nat):List Nat:=([] ++ arL w 36 0) ++ arL v 3 0
theorem Sc (w v:Nat->Nat):(Sr w v).length=39:=by simp only [Sr,List.length_append,List.length_nil,Bh]
theorem Vf {w v:Nat->Nat} (hw:∀ j,w j < 256) (hv:∀ j,v j < 256):B8 (Sr w v):=((B8.mem (fun x hx=>by cases hx)).app (Ij hw _ _)).app (Ij hv _ _)
def syF (w v:Nat->Nat) (j:Nat):Nat:=Io (Sr w v) (ex (cu (j:Int))) (Sr w v).length
theorem Wq {w v:Nat->Nat} (hw:∀ j,w j < 256) (hv:∀ j,v j < 256) (j:Nat):syF w v j < 256:=A51 (Vf hw hv) _ _
def syA (w v:Nat->Nat):Nat->Nat->Int
 | 0=>fun _=>0
 | i + 1=>upI (syA w v i) i ((syF w v i:Nat):Int)
theorem Ayr (w v:Nat->Nat):∀ j,j < 4->syA w v 4 j=nf (syF w v) j
 | 0,_=>rfl
 | 1,_=>rfl
 | 2,_=>rfl
 | 3,_=>rfl
 | j + 4,h=>absurd h (by omega)
theorem A2i (w:Nat->Nat) (v:Nat->Nat) (hw:∀ j,w j < 256) (hv:∀ j,v j < 256):Sp P 334 [.pt 0 0,.ar .u8 36 (nf w),.ar .u8 3 (nf v)] [.ro (.blk [.pt 1 0,.sl 2] 368),.ro (gF),.ro (.row eB gen)] (.ar .u8 4 (syA w v 4)) [.ro (.blk [.pt 1 0,.sl 2] 368),.ro (gF),.ro (.row eB gen)] :=
 so Tryz.f334 12 (ir 0 3) (.bs 10 (e:=eB) [] (.ap (e:=eB) (l:=[]) (l':=arL w 36 0) .row (.flat _ _ (Ef w 36)) (by simp only [List.length_append,List.length_replicate,Bh,List.length_nil]; omega) (.ap (e:=eB) (l:=[] ++ arL w 36 0) (l':=arL v 3 0) .row (.flat _ _ (Ef v 3)) (by simp only [List.length_append,List.length_replicate,Bh,List.length_nil]; omega) (.lp 4 11 [] [] (fun i=>[(15,vn i)]) (fun i=>[(7,.blk [.ar .u8 4 (syA w v i)] 384)]) (fun i hi=>(.t (sQT ((i:Int) < 4) (by omega)) (.c [.id 1] (A53 (i:Int)) (.c [.id 1,.id 10] (Aod (Sr w v) (ex (cu (i:Int))) (by rw [Sc]; decide) (Vf hw hv) (Wy _)) (.ix (i:=i) (m:=4) hi (.lt (i:=i) (n:=4) hi (.e 32 (Ck (a:=(i:Int)) (b:=1) (c:=((i + 1:Nat):Int)) (by omega)) .nil))))))) (.n .nil)))))
theorem Vb (w v:Nat->Nat) (hw:∀ j,w j < 256) (hv:∀ j,v j < 256):Sp P 334 [.pt 0 0,.ar .u8 36 (nf w),.ar .u8 3 (nf v)] [.ro (.blk [.pt 1 0,.sl 2] 368),.ro (gF),.ro (.row eB gen)] (.ar .u8 4 (nf (syF w v))) [.ro (.blk [.pt 1 0,.sl 2] 368),.ro (gF),.ro (.row eB gen)] :=
 (A2i w v hw hv).resE (K4 (Ayr w v)) rfl rfl rfl
theorem Pa  :Sp P 348 [] [] (.ag [vn 3,vi (-1),vb 0]) [] :=
 so Tryz.f348 3 [] .nil
def Dk (s:Nat->Nat) (r:Nat):Bool:=decide (s 0 ≠ 0) && decide (r ≠ 0) && decide (s 1=Am (s 0) r) && decide (s 2=Am (s 1) r) && decide (s 3=Am (s 2) r) && decide (K1 r < 39)
def Aq (s:Nat->Nat):Nat:=if eqA (nf s) (fun _=>0) 4 0=true then 0 else if Dk s (Av (s 1) (s 0))=true then (if K1 (Av (s 1) (s 0)) < 36 then 1 else 2) else 3
def Ap (s:Nat->Nat):Int:=if eqA (nf s) (fun _=>0) 4 0=true then -1 else if Dk s (Av (s 1) (s 0))=true then ((K1 (Av (s 1) (s 0)):Nat):Int) else -1
def Dt (s:Nat->Nat):Nat:=if eqA (nf s) (fun _=>0) 4 0=true then 0 else if Dk s (Av (s 1) (s 0))=true then s 0 else 0
theorem M7 {s:Nat->Nat} (h:Aq s=1):0<=Ap s/\Ap s < 36:=by
 unfold Aq at h
 split at h
 ·cases h
 ·rename_i h1
  split at h
  ·rename_i h2
   split at h
   ·rename_i h3
    unfold Ap
    rw [if_neg h1,if_pos h2]
    omega
   ·cases h
  ·cases h
theorem Afr {s:Nat->Nat} (h:∀ j,s j < 256):Dt s < 256:=by
 unfold Dt; split; decide; split; exact h 0; decide
theorem Jf (a:Nat):((a:Int) < 39)=(a < 39):=by simp; omega
theorem Jg (a:Nat):((39:Int)<=a)=(39<=a):=by simp; omega
theorem Jh (a:Nat):((36:Int)<=a)=(36<=a):=by simp; omega
theorem Ji (a:Nat):((a:Int) < 36)=(a < 36):=by simp; omega
theorem A91 (s:Nat->Nat) (bs:∀ j,s j < 256) (q1:(eqA (nf s) (fun _=>0) 4 0)=true):Sp P 333 [.pt 0 0,.ar .u8 4 (nf s)] [.ro (.blk [.pt 1 0,.sl 2] 368),.ro (gF),.ro (.row eB gen)] (.ag [vn 0,vi (-1),vb 0]) [.ro (.blk [.pt 1 0,.sl 2] 368),.ro (gF),.ro (.row eB gen)] :=
 so Tryz.f333 4 (ir 0 3) (.t q1 .nil)
theorem A92 (s:Nat->Nat) (bs:∀ j,s j < 256) (q1:(eqA (nf s) (fun _=>0) 4 0)=false) (q2:(decide (noI (s 0)=0))=true) (q3:(decide (((Av (s 1) (s 0):Nat):Int)=0))=true):Sp P 333 [.pt 0 0,.ar .u8 4 (nf s)] [.ro (.blk [.pt 1 0,.sl 2] 368),.ro (gF),.ro (.row eB gen)] (.ag [vn 3,vi (-1),vb 0]) [.ro (.blk [.pt 1 0,.sl 2] 368),.ro (gF),.ro (.row eB gen)] :=
 so Tryz.f333 5 (ir 0 3) (.t q1 (.c [.id 1] (Np (s 1) (s 0) (bs _) (bs _)) (.g2 q2 (.g q2 (.t q3 (.c [] (Pa) .nil))))))
theorem A93 (s:Nat->Nat) (bs:∀ j,s j < 256) (q1:(eqA (nf s) (fun _=>0) 4 0)=false) (q2:(decide (noI (s 0)=0))=true) (q3:(decide (((Av (s 1) (s 0):Nat):Int)=0))=false) (q4:(decide (((s 1:Nat):Int)=((Am (s 0) (Av (s 1) (s 0)):Nat):Int)))=true) (q5:(decide (((s 2:Nat):Int)=((Am (s 1) (Av (s 1) (s 0)):Nat):Int)))=true) (q6:(decide (((s 3:Nat):Int)=((Am (s 2) (Av (s 1) (s 0)):Nat):Int)))=true) (q7:(decide (noI (Av (s 1) (s 0))=0))=true) (q8:(decide (39<=((K1 (Av (s 1) (s 0)):Nat):Int)))=true):Sp P 333 [.pt 0 0,.ar .u8 4 (nf s)] [.ro (.blk [.pt 1 0,.sl 2] 368),.ro (gF),.ro (.row eB gen)] (.ag [vn 3,vi (-1),vb 0]) [.ro (.blk [.pt 1 0,.sl 2] 368),.ro (gF),.ro (.row eB gen)] :=
 so Tryz.f333 8 (ir 0 3) (.t q1 (.c [.id 1] (Np (s 1) (s 0) (bs _) (bs _)) (.g2 q2 (.g q2 (.t q3 (.lu 3 (.y (.ix (i:=1) (m:=4) (by decide) (.lt (i:=1) (n:=4) (by decide) (.ix (i:=0) (m:=4) (by decide) (.lt (i:=0) (n:=4) (by decide) (.c [.id 1] (Ed (s 0) (Av (s 1) (s 0)) (bs _) (Dc _ _)) (.g q4 (.y (.ix (i:=2) (m:=4) (by decide) (.lt (i:=2) (n:=4) (by decide) (.ix (i:=1) (m:=4) (by decide) (.lt (i:=1) (n:=4) (by decide) (.c [.id 1] (Ed (s 1) (Av (s 1) (s 0)) (bs _) (Dc _ _)) (.g q5 (.y (.ix (i:=3) (m:=4) (by decide) (.lt (i:=3) (n:=4) (by decide) (.ix (i:=2) (m:=4) (by decide) (.lt (i:=2) (n:=4) (by decide) (.c [.id 1] (Ed (s 2) (Av (s 1) (s 0)) (bs _) (Dc _ _)) (.g q6 (.n (.c [.id 1] (A5u (Av (s 1) (s 0)) (Dc _ _)) (.g2 q7 (.g q7 (.t q8 (.c [] (Pa) .nil)))))))))))))))))))))))))))))))))
theorem A94 (s:Nat->Nat) (bs:∀ j,s j < 256) (q1:(eqA (nf s) (fun _=>0) 4 0)=false) (q2:(decide (noI (s 0)=0))=true) (q3:(decide (((Av (s 1) (s 0):Nat):Int)=0))=false) (q4:(decide (((s 1:Nat):Int)=((Am (s 0) (Av (s 1) (s 0)):Nat):Int)))=true) (q5:(decide (((s 2:Nat):Int)=((Am (s 1) (Av (s 1) (s 0)):Nat):Int)))=true) (q6:(decide (((s 3:Nat):Int)=((Am (s 2) (Av (s 1) (s 0)):Nat):Int)))=true) (q7:(decide (noI (Av (s 1) (s 0))=0))=true) (q8:(decide (39<=((K1 (Av (s 1) (s 0)):Nat):Int)))=false) (q9:(decide (36<=((K1 (Av (s 1) (s 0)):Nat):Int)))=true):Sp P 333 [.pt 0 0,.ar .u8 4 (nf s)] [.ro (.blk [.pt 1 0,.sl 2] 368),.ro (gF),.ro (.row eB gen)] (.ag [vn 2,vn (K1 (Av (s 1) (s 0))),vb (s 0)]) [.ro (.blk [.pt 1 0,.sl 2] 368),.ro (gF),.ro (.row eB gen)] :=
 so Tryz.f333 8 (ir 0 3) (.t q1 (.c [.id 1] (Np (s 1) (s 0) (bs _) (bs _)) (.g2 q2 (.g q2 (.t q3 (.lu 3 (.y (.ix (i:=1) (m:=4) (by decide) (.lt (i:=1) (n:=4) (by decide) (.ix (i:=0) (m:=4) (by decide) (.lt (i:=0) (n:=4) (by decide) (.c [.id 1] (Ed (s 0) (Av (s 1) (s 0)) (bs _) (Dc _ _)) (.g q4 (.y (.ix (i:=2) (m:=4) (by decide) (.lt (i:=2) (n:=4) (by decide) (.ix (i:=1) (m:=4) (by decide) (.lt (i:=1) (n:=4) (by decide) (.c [.id 1] (Ed (s 1) (Av (s 1) (s 0)) (bs _) (Dc _ _)) (.g q5 (.y (.ix (i:=3) (m:=4) (by decide) (.lt (i:=3) (n:=4) (by decide) (.ix (i:=2) (m:=4) (by decide) (.lt (i:=2) (n:=4) (by decide) (.c [.id 1] (Ed (s 2) (Av (s 1) (s 0)) (bs _) (Dc _ _)) (.g q6 (.n (.c [.id 1] (A5u (Av (s 1) (s 0)) (Dc _ _)) (.g2 q7 (.g q7 (.t q8 (.t q9 .nil)))))))))))))))))))))))))))))))))
theorem A95 (s:Nat->Nat) (bs:∀ j,s j < 256) (q1:(eqA (nf s) (fun _=>0) 4 0)=false) (q2:(decide (noI (s 0)=0))=true) (q3:(decide (((Av (s 1) (s 0):Nat):Int)=0))=false) (q4:(decide (((s 1:Nat):Int)=((Am (s 0) (Av (s 1) (s 0)):Nat):Int)))=true) (q5:(decide (((s 2:Nat):Int)=((Am (s 1) (Av (s 1) (s 0)):Nat):Int)))=true) (q6:(decide (((s 3:Nat):Int)=((Am (s 2) (Av (s 1) (s 0)):Nat):Int)))=true) (q7:(decide (noI (Av (s 1) (s 0))=0))=true) (q8:(decide (39<=((K1 (Av (s 1) (s 0)):Nat):Int)))=false) (q9:(decide (36<=((K1 (Av (s 1) (s 0)):Nat):Int)))=false):Sp P 333 [.pt 0 0,.ar .u8 4 (nf s)] [.ro (.blk [.pt 1 0,.sl 2] 368),.ro (gF),.ro (.row eB gen)] (.ag [vn 1,vn (K1 (Av (s 1) (s 0))),vb (s 0)]) [.ro (.blk [.pt 1 0,.sl 2] 368),.ro (gF),.ro (.row eB gen)] :=
 so Tryz.f333 8 (ir 0 3) (.t q1 (.c [.id 1] (Np (s 1) (s 0) (bs _) (bs _)) (.g2 q2 (.g q2 (.t q3 (.lu 3 (.y (.ix (i:=1) (m:=4) (by decide) (.lt (i:=1) (n:=4) (by decide) (.ix (i:=0) (m:=4) (by decide) (.lt (i:=0) (n:=4) (by decide) (.c [.id 1] (Ed (s 0) (Av (s 1) (s 0)) (bs _) (Dc _ _)) (.g q4 (.y (.ix (i:=2) (m:=4) (by decide) (.lt (i:=2) (n:=4) (by decide) (.ix (i:=1) (m:=4) (by decide) (.lt (i:=1) (n:=4) (by decide) (.c [.id 1] (Ed (s 1) (Av (s 1) (s 0)) (bs _) (Dc _ _)) (.g q5 (.y (.ix (i:=3) (m:=4) (by decide) (.lt (i:=3) (n:=4) (by decide) (.ix (i:=2) (m:=4) (by decide) (.lt (i:=2) (n:=4) (by decide) (.c [.id 1] (Ed (s 2) (Av (s 1) (s 0)) (bs _) (Dc _ _)) (.g q6 (.n (.c [.id 1] (A5u (Av (s 1) (s 0)) (Dc _ _)) (.g2 q7 (.g q7 (.t q8 (.t q9 .nil)))))))))))))))))))))))))))))))))
theorem A96 (s:Nat->Nat) (bs:∀ j,s j < 256) (q1:(eqA (nf s) (fun _=>0) 4 0)=false) (q2:(decide (noI (s 0)=0))=true) (q3:(decide (((Av (s 1) (s 0):Nat):Int)=0))=false) (q4:(decide (((s 1:Nat):Int)=((Am (s 0) (Av (s 1) (s 0)):Nat):Int)))=true) (q5:(decide (((s 2:Nat):Int)=((Am (s 1) (Av (s 1) (s 0)):Nat):Int)))=true) (q6:(decide (((s 3:Nat):Int)=((Am (s 2) (Av (s 1) (s 0)):Nat):Int)))=true) (q7:(decide (noI (Av (s 1) (s 0))=0))=false):Sp P 333 [.pt 0 0,.ar .u8 4 (nf s)] [.ro (.blk [.pt 1 0,.sl 2] 368),.ro (gF),.ro (.row eB gen)] (.ag [vn 3,vi (-1),vb 0]) [.ro (.blk [.pt 1 0,.sl 2] 368),.ro (gF),.ro (.row eB gen)] :=
 so Tryz.f333 8 (ir 0 3) (.t q1 (.c [.id 1] (Np (s 1) (s 0) (bs _) (bs _)) (.g2 q2 (.g q2 (.t q3 (.lu 3 (.y (.ix (i:=1) (m:=4) (by decide) (.lt (i:=1) (n:=4) (by decide) (.ix (i:=0) (m:=4) (by decide) (.lt (i:=0) (n:=4) (by decide) (.c [.id 1] (Ed (s 0) (Av (s 1) (s 0)) (bs _) (Dc _ _)) (.g q4 (.y (.ix (i:=2) (m:=4) (by decide) (.lt (i:=2) (n:=4) (by decide) (.ix (i:=1) (m:=4) (by decide) (.lt (i:=1) (n:=4) (by decide) (.c [.id 1] (Ed (s 1) (Av (s 1) (s 0)) (bs _) (Dc _ _)) (.g q5 (.y (.ix (i:=3) (m:=4) (by decide) (.lt (i:=3) (n:=4) (by decide) (.ix (i:=2) (m:=4) (by decide) (.lt (i:=2) (n:=4) (by decide) (.c [.id 1] (Ed (s 2) (Av (s 1) (s 0)) (bs _) (Dc _ _)) (.g q6 (.n (.c [.id 1] (A5u (Av (s 1) (s 0)) (Dc _ _)) (.g2 q7 (.g q7 (.y (.c [] (Pa) .nil)))))))))))))))))))))))))))))))))
theorem A97 (s:Nat->Nat) (bs:∀ j,s j < 256) (q1:(eqA (nf s) (fun _=>0) 4 0)=false) (q2:(decide (noI (s 0)=0))=true) (q3:(decide (((Av (s 1) (s 0):Nat):Int)=0))=false) (q4:(decide (((s 1:Nat):Int)=((Am (s 0) (Av (s 1) (s 0)):Nat):Int)))=true) (q5:(decide (((s 2:Nat):Int)=((Am (s 1) (Av (s 1) (s 0)):Nat):Int)))=true) (q6:(decide (((s 3:Nat):Int)=((Am (s 2) (Av (s 1) (s 0)):Nat):Int)))=false):Sp P 333 [.pt 0 0,.ar .u8 4 (nf s)] [.ro (.blk [.pt 1 0,.sl 2] 368),.ro (gF),.ro (.row eB gen)] (.ag [vn 3,vi (-1),vb 0]) [.ro (.blk [.pt 1 0,.sl 2] 368),.ro (gF),.ro (.row eB gen)] :=
 so Tryz.f333 8 (ir 0 3) (.t q1 (.c [.id 1] (Np (s 1) (s 0) (bs _) (bs _)) (.g2 q2 (.g q2 (.t q3 (.lu 2 (.y (.ix (i:=1) (m:=4) (by decide) (.lt (i:=1) (n:=4) (by decide) (.ix (i:=0) (m:=4) (by decide) (.lt (i:=0) (n:=4) (by decide) (.c [.id 1] (Ed (s 0) (Av (s 1) (s 0)) (bs _) (Dc _ _)) (.g q4 (.y (.ix (i:=2) (m:=4) (by decide) (.lt (i:=2) (n:=4) (by decide) (.ix (i:=1) (m:=4) (by decide) (.lt (i:=1) (n:=4) (by decide) (.c [.id 1] (Ed (s 1) (Av (s 1) (s 0)) (bs _) (Dc _ _)) (.g q5 (.y (.ix (i:=3) (m:=4) (by decide) (.lt (i:=3) (n:=4) (by decide) (.ix (i:=2) (m:=4) (by decide) (.lt (i:=2) (n:=4) (by decide) (.c [.id 1] (Ed (s 2) (Av (s 1) (s 0)) (bs _) (Dc _ _)) (.g q6 (.c [] (Pa) .nil))))))))))))))))))))))))))))
theorem A98 (s:Nat->Nat) (bs:∀ j,s j < 256) (q1:(eqA (nf s) (fun _=>0) 4 0)=false) (q2:(decide (noI (s 0)=0))=true) (q3:(decide (((Av (s 1) (s 0):Nat):Int)=0))=false) (q4:(decide (((s 1:Nat):Int)=((Am (s 0) (Av (s 1) (s 0)):Nat):Int)))=true) (q5:(decide (((s 2:Nat):Int)=((Am (s 1) (Av (s 1) (s 0)):Nat):Int)))=false):Sp P 333 [.pt 0 0,.ar .u8 4 (nf s)] [.ro (.blk [.pt 1 0,.sl 2] 368),.ro (gF),.ro (.row eB gen)] (.ag [vn 3,vi (-1),vb 0]) [.ro (.blk [.pt 1 0,.sl 2] 368),.ro (gF),.ro (.row eB gen)] :=
 so Tryz.f333 7 (ir 0 3) (.t q1 (.c [.id 1] (Np (s 1) (s 0) (bs _) (bs _)) (.g2 q2 (.g q2 (.t q3 (.lu 1 (.y (.ix (i:=1) (m:=4) (by decide) (.lt (i:=1) (n:=4) (by decide) (.ix (i:=0) (m:=4) (by decide) (.lt (i:=0) (n:=4) (by decide) (.c [.id 1] (Ed (s 0) (Av (s 1) (s 0)) (bs _) (Dc _ _)) (.g q4 (.y (.ix (i:=2) (m:=4) (by decide) (.lt (i:=2) (n:=4) (by decide) (.ix (i:=1) (m:=4) (by decide) (.lt (i:=1) (n:=4) (by decide) (.c [.id 1] (Ed (s 1) (Av (s 1) (s 0)) (bs _) (Dc _ _)) (.g q5 (.c [] (Pa) .nil)))))))))))))))))))))
theorem A99 (s:Nat->Nat) (bs:∀ j,s j < 256) (q1:(eqA (nf s) (fun _=>0) 4 0)=false) (q2:(decide (noI (s 0)=0))=true) (q3:(decide (((Av (s 1) (s 0):Nat):Int)=0))=false) (q4:(decide (((s 1:Nat):Int)=((Am (s 0) (Av (s 1) (s 0)):Nat):Int)))=false):Sp P 333 [.pt 0 0,.ar .u8 4 (nf s)] [.ro (.blk [.pt 1 0,.sl 2] 368),.ro (gF),.ro (.row eB gen)] (.ag [vn 3,vi (-1),vb 0]) [.ro (.blk [.pt 1 0,.sl 2] 368),.ro (gF),.ro (.row eB gen)] :=
 so Tryz.f333 6 (ir 0 3) (.t q1 (.c [.id 1] (Np (s 1) (s 0) (bs _) (bs _)) (.g2 q2 (.g q2 (.t q3 (.lu 0 (.y (.ix (i:=1) (m:=4) (by decide) (.lt (i:=1) (n:=4) (by decide) (.ix (i:=0) (m:=4) (by decide) (.lt (i:=0) (n:=4) (by decide) (.c [.id 1] (Ed (s 0) (Av (s 1) (s 0)) (bs _) (Dc _ _)) (.g q4 (.c [] (Pa) .nil))))))))))))))
theorem A9a (s:Nat->Nat) (bs:∀ j,s j < 256) (q1:(eqA (nf s) (fun _=>0) 4 0)=false) (q2:(decide (noI (s 0)=0))=false):Sp P 333 [.pt 0 0,.ar .u8 4 (nf s)] [.ro (.blk [.pt 1 0,.sl 2] 368),.ro (gF),.ro (.row eB gen)] (.ag [vn 3,vi (-1),vb 0]) [.ro (.blk [.pt 1 0,.sl 2] 368),.ro (gF),.ro (.row eB gen)] :=
 so Tryz.f333 5 (ir 0 3) (.t q1 (.c [.id 1] (Np (s 1) (s 0) (bs _) (bs _)) (.g2 q2 (.g q2 (.y (.c [] (Pa) .nil))))))
theorem A38 (s:Nat->Nat) (bs:∀ j,s j < 256):Sp P 333 [.pt 0 0,.ar .u8 4 (nf s)] [.ro (.blk [.pt 1 0,.sl 2] 368),.ro (gF),.ro (.row eB gen)] (.ag [vn (Aq s),vi (Ap s),vb (Dt s)]) [.ro (.blk [.pt 1 0,.sl 2] 368),.ro (gF),.ro (.row eB gen)]:=by
 cases q1:(eqA (nf s) (fun _=>0) 4 0) with
 | true =>
   have e:(Aq s)=0:=by (first | unfold Aq | unfold Ap | unfold Dt); generalize Av (s 1) (s 0)=r at *; simp_all [Dk,noI,nf,Int.ofNat_inj,Jf,Jg,Jh,Ji]; try omega
   rw [e]
   have e:(Ap s)=(-1):=by (first | unfold Aq | unfold Ap | unfold Dt); generalize Av (s 1) (s 0)=r at *; simp_all [Dk,noI,nf,Int.ofNat_inj,Jf,Jg,Jh,Ji]; try omega
   rw [e]
   have e:(Dt s)=0:=by (first | unfold Aq | unfold Ap | unfold Dt); generalize Av (s 1) (s 0)=r at *; simp_all [Dk,noI,nf,Int.ofNat_inj,Jf,Jg,Jh,Ji]; try omega
   rw [e]
   exact A91 s bs q1
 | false =>
   cases q2:decide (noI (s 0)=0) with
   | true =>
     cases q3:decide (((Av (s 1) (s 0):Nat):Int)=0) with
     | true =>
       have e:(Aq s)=3:=by (first | unfold Aq | unfold Ap | unfold Dt); generalize Av (s 1) (s 0)=r at *; simp_all [Dk,noI,nf,Int.ofNat_inj,Jf,Jg,Jh,Ji]; try omega
       rw [e]
       have e:(Ap s)=(-1):=by (first | unfold Aq | unfold Ap | unfold Dt); generalize Av (s 1) (s 0)=r at *; simp_all [Dk,noI,nf,Int.ofNat_inj,Jf,Jg,Jh,Ji]; try omega
       rw [e]
       have e:(Dt s)=0:=by (first | unfold Aq | unfold Ap | unfold Dt); generalize Av (s 1) (s 0)=r at *; simp_all [Dk,noI,nf,Int.ofNat_inj,Jf,Jg,Jh,Ji]; try omega
       rw [e]
       exact A92 s bs q1 q2 q3
     | false =>
       cases q4:decide (((s 1:Nat):Int)=((Am (s 0) (Av (s 1) (s 0)):Nat):Int)) with
       | true =>
         cases q5:decide (((s 2:Nat):Int)=((Am (s 1) (Av (s 1) (s 0)):Nat):Int)) with
         | true =>
           cases q6:decide (((s 3:Nat):Int)=((Am (s 2) (Av (s 1) (s 0)):Nat):Int)) with
           | true =>
             cases q7:decide (noI (Av (s 1) (s 0))=0) with
             | true =>
               cases q8:decide (39<=((K1 (Av (s 1) (s 0)):Nat):Int)) with
               | true =>
                 have e:(Aq s)=3:=by (first | unfold Aq | unfold Ap | unfold Dt); generalize Av (s 1) (s 0)=r at *; simp_all [Dk,noI,nf,Int.ofNat_inj,Jf,Jg,Jh,Ji]; try omega
                 rw [e]
                 have e:(Ap s)=(-1):=by (first | unfold Aq | unfold Ap | unfold Dt); generalize Av (s 1) (s 0)=r at *; simp_all [Dk,noI,nf,Int.ofNat_inj,Jf,Jg,Jh,Ji]; try omega
                 rw [e]
                 have e:(Dt s)=0:=by (first | unfold Aq | unfold Ap | unfold Dt); generalize Av (s 1) (s 0)=r at *; simp_all [Dk,noI,nf,Int.ofNat_inj,Jf,Jg,Jh,Ji]; try omega
                 rw [e]
                 exact A93 s bs q1 q2 q3 q4 q5 q6 q7 q8
               | false =>
                 cases q9:decide (36<=((K1 (Av (s 1) (s 0)):Nat):Int)) with
                 | true =>
                   have e:(Aq s)=2:=by (first | unfold Aq | unfold Ap | unfold Dt); generalize Av (s 1) (s 0)=r at *; simp_all [Dk,noI,nf,Int.ofNat_inj,Jf,Jg,Jh,Ji]; try omega
                   rw [e]
                   have e:(Ap s)=((K1 (Av (s 1) (s 0)):Nat):Int):=by (first | unfold Aq | unfold Ap | unfold Dt); generalize Av (s 1) (s 0)=r at *; simp_all [Dk,noI,nf,Int.ofNat_inj,Jf,Jg,Jh,Ji]; try omega
                   rw [e]
                   have e:(Dt s)=(s 0):=by (first | unfold Aq | unfold Ap | unfold Dt); generalize Av (s 1) (s 0)=r at *; simp_all [Dk,noI,nf,Int.ofNat_inj,Jf,Jg,Jh,Ji]; try omega
                   rw [e]
                   exact A94 s bs q1 q2 q3 q4 q5 q6 q7 q8 q9
                 | false =>
                   have e:(Aq s)=1:=by (first | unfold Aq | unfold Ap | unfold Dt); generalize Av (s 1) (s 0)=r at *; simp_all [Dk,noI,nf,Int.ofNat_inj,Jf,Jg,Jh,Ji]; try omega
                   rw [e]
                   have e:(Ap s)=((K1 (Av (s 1) (s 0)):Nat):Int):=by (first | unfold Aq | unfold Ap | unfold Dt); generalize Av (s 1) (s 0)=r at *; simp_all [Dk,noI,nf,Int.ofNat_inj,Jf,Jg,Jh,Ji]; try omega
                   rw [e]
                   have e:(Dt s)=(s 0):=by (first | unfold Aq | unfold Ap | unfold Dt); generalize Av (s 1) (s 0)=r at *; simp_all [Dk,noI,nf,Int.ofNat_inj,Jf,Jg,Jh,Ji]; try omega
                   rw [e]
                   exact A95 s bs q1 q2 q3 q4 q5 q6 q7 q8 q9
             | false =>
               have e:(Aq s)=3:=by (first | unfold Aq | unfold Ap | unfold Dt); generalize Av (s 1) (s 0)=r at *; simp_all [Dk,noI,nf,Int.ofNat_inj,Jf,Jg,Jh,Ji]; try omega
               rw [e]
               have e:(Ap s)=(-1):=by (first | unfold Aq | unfold Ap | unfold Dt); generalize Av (s 1) (s 0)=r at *; simp_all [Dk,noI,nf,Int.ofNat_inj,Jf,Jg,Jh,Ji]; try omega
               rw [e]
               have e:(Dt s)=0:=by (first | unfold Aq | unfold Ap | unfold Dt); generalize Av (s 1) (s 0)=r at *; simp_all [Dk,noI,nf,Int.ofNat_inj,Jf,Jg,Jh,Ji]; try omega
               rw [e]
               exact A96 s bs q1 q2 q3 q4 q5 q6 q7
           | false =>
             have e:(Aq s)=3:=by (first | unfold Aq | unfold Ap | unfold Dt); generalize Av (s 1) (s 0)=r at *; simp_all [Dk,noI,nf,Int.ofNat_inj,Jf,Jg,Jh,Ji]; try omega
             rw [e]
             have e:(Ap s)=(-1):=by (first | unfold Aq | unfold Ap | unfold Dt); generalize Av (s 1) (s 0)=r at *; simp_all [Dk,noI,nf,Int.ofNat_inj,Jf,Jg,Jh,Ji]; try omega
             rw [e]
             have e:(Dt s)=0:=by (first | unfold Aq | unfold Ap | unfold Dt); generalize Av (s 1) (s 0)=r at *; simp_all [Dk,noI,nf,Int.ofNat_inj,Jf,Jg,Jh,Ji]; try omega
             rw [e]
             exact A97 s bs q1 q2 q3 q4 q5 q6
         | false =>
           have e:(Aq s)=3:=by (first | unfold Aq | unfold Ap | unfold Dt); generalize Av (s 1) (s 0)=r at *; simp_all [Dk,noI,nf,Int.ofNat_inj,Jf,Jg,Jh,Ji]; try omega
           rw [e]
           have e:(Ap s)=(-1):=by (first | unfold Aq | unfold Ap | unfold Dt); generalize Av (s 1) (s 0)=r at *; simp_all [Dk,noI,nf,Int.ofNat_inj,Jf,Jg,Jh,Ji]; try omega
           rw [e]
           have e:(Dt s)=0:=by (first | unfold Aq | unfold Ap | unfold Dt); generalize Av (s 1) (s 0)=r at *; simp_all [Dk,noI,nf,Int.ofNat_inj,Jf,Jg,Jh,Ji]; try omega
           rw [e]
           exact A98 s bs q1 q2 q3 q4 q5
       | false =>
         have e:(Aq s)=3:=by (first | unfold Aq | unfold Ap | unfold Dt); generalize Av (s 1) (s 0)=r at *; simp_all [Dk,noI,nf,Int.ofNat_inj,Jf,Jg,Jh,Ji]; try omega
         rw [e]
         have e:(Ap s)=(-1):=by (first | unfold Aq | unfold Ap | unfold Dt); generalize Av (s 1) (s 0)=r at *; simp_all [Dk,noI,nf,Int.ofNat_inj,Jf,Jg,Jh,Ji]; try omega
         rw [e]
         have e:(Dt s)=0:=by (first | unfold Aq | unfold Ap | unfold Dt); generalize Av (s 1) (s 0)=r at *; simp_all [Dk,noI,nf,Int.ofNat_inj,Jf,Jg,Jh,Ji]; try omega
         rw [e]
         exact A99 s bs q1 q2 q3 q4
   | false =>
     have e:(Aq s)=3:=by (first | unfold Aq | unfold Ap | unfold Dt); generalize Av (s 1) (s 0)=r at *; simp_all [Dk,noI,nf,Int.ofNat_inj,Jf,Jg,Jh,Ji]; try omega
     rw [e]
     have e:(Ap s)=(-1):=by (first | unfold Aq | unfold Ap | unfold Dt); generalize Av (s 1) (s 0)=r at *; simp_all [Dk,noI,nf,Int.ofNat_inj,Jf,Jg,Jh,Ji]; try omega
     rw [e]
     have e:(Dt s)=0:=by (first | unfold Aq | unfold Ap | unfold Dt); generalize Av (s 1) (s 0)=r at *; simp_all [Dk,noI,nf,Int.ofNat_inj,Jf,Jg,Jh,Ji]; try omega
     rw [e]
     exact A9a s bs q1 q2
def Jc (w v:Nat->Nat) (j:Nat):Nat:=if Aq (syF w v)=1/\4 + j=(Ap (syF w v)).toNat then xr (w (4 + j)) (Dt (syF w v)) else w (4 + j)
theorem Aoy {w v:Nat->Nat} (hw:∀ j,w j < 256) (hv:∀ j,v j < 256) (j:Nat):Jc w v j < 256:=by
 unfold Jc; split
 ·exact I5 (hw _) (Afr (Wq hw hv))
 ·exact hw _
theorem Aq0 {a a' c:V} (h:V.den ρN a=V.den ρN a'):V.den ρN (.tu [a,c])=V.den ρN (.tu [a',c]):=by simp only [V.den,V.dens,h]
theorem Add (w:Nat->Nat) (v:Nat->Nat) (hw:∀ j,w j < 256) (hv:∀ j,v j < 256) (q:decide (((Aq (syF w v):Nat):Int)=1)=false):Sp P 314 [.pt 0 0,.ar .u8 36 (nf w),.ar .u8 3 (nf v)] [.ro (.blk [.pt 1 0,.sl 2] 368),.ro (gF),.ro (.row eB gen)] (.tu [.ar .u8 32 (nf (fun j=>w (4 + j))),.ag [vn (Aq (syF w v)),vi (Ap (syF w v)),vb (Dt (syF w v))]]) [.ro (.blk [.pt 1 0,.sl 2] 368),.ro (gF),.ro (.row eB gen)] :=
 so Tryz.f314 9 (ir 0 3) (.c (ir 0 3) (Vb w v (by first | assumption | omega) (by first | assumption | omega)) (.c (ir 0 3) (A38 (syF w v) (Wq hw hv)) (.t q (.sl (i:=4) (n:=32) (m:=36) (by decide) .nil))))
theorem Ade (w:Nat->Nat) (v:Nat->Nat) (hw:∀ j,w j < 256) (hv:∀ j,v j < 256) (q:decide (((Aq (syF w v):Nat):Int)=1)=true):Sp P 314 [.pt 0 0,.ar .u8 36 (nf w),.ar .u8 3 (nf v)] [.ro (.blk [.pt 1 0,.sl 2] 368),.ro (gF),.ro (.row eB gen)] (.tu [.ar .u8 32 (fun i=>upI (nf w) (Ap (syF w v)).toNat ((xr (w (Ap (syF w v)).toNat) (Dt (syF w v)):Nat):Int) (4 + i)),.ag [vn (Aq (syF w v)),vi (Ap (syF w v)),vb (Dt (syF w v))]]) [.ro (.blk [.pt 1 0,.sl 2] 368),.ro (gF),.ro (.row eB gen)] :=
 so Tryz.f314 10 (ir 0 3) (.c (ir 0 3) (Vb w v (by first | assumption | omega) (by first | assumption | omega)) (.c (ir 0 3) (A38 (syF w v) (Wq hw hv)) (.t q (.ix (n:=Ap (syF w v)) (i:=(Ap (syF w v)).toNat) (m:=36) (e:=(by have:=M7 (s:=(syF w v)) (by have:=otq q; omega); omega)) (by have:=M7 (s:=(syF w v)) (by have:=otq q; omega); omega) (.lt (i:=(Ap (syF w v)).toNat) (n:=36) (by have:=M7 (s:=(syF w v)) (by have:=otq q; omega); omega) (.e 24 (Yt (w (Ap (syF w v)).toNat) (Dt (syF w v)) (hw _) (Afr (Wq hw hv))) (.ix (n:=Ap (syF w v)) (i:=(Ap (syF w v)).toNat) (m:=36) (e:=(by have:=M7 (s:=(syF w v)) (by have:=otq q; omega); omega)) (by have:=M7 (s:=(syF w v)) (by have:=otq q; omega); omega) (.lt (i:=(Ap (syF w v)).toNat) (n:=36) (by have:=M7 (s:=(syF w v)) (by have:=otq q; omega); omega) (.sl (i:=4) (n:=32) (m:=36) (by decide) .nil)))))))))
theorem Ja (w v:Nat->Nat) (hw:∀ j,w j < 256) (hv:∀ j,v j < 256):Sp P 314 [.pt 0 0,.ar .u8 36 (nf w),.ar .u8 3 (nf v)] [.ro (.blk [.pt 1 0,.sl 2] 368),.ro (gF),.ro (.row eB gen)] (.tu [.ar .u8 32 (nf (Jc w v)),.ag [vn (Aq (syF w v)),vi (Ap (syF w v)),vb (Dt (syF w v))]]) [.ro (.blk [.pt 1 0,.sl 2] 368),.ro (gF),.ro (.row eB gen)]:=by
 cases q:decide (((Aq (syF w v):Nat):Int)=1) with
 | true =>
   refine (Ade w v hw hv q).resE (Aq0 (K4 fun j hj=>?_)) rfl rfl rfl
   have hk:Aq (syF w v)=1:=by have:=otq q; omega
   unfold upI nf Jc
   by_cases h:4 + j=(Ap (syF w v)).toNat
   ·rw [if_pos h,if_pos ⟨hk,h⟩,← h]
   ·rw [if_neg h,if_neg (fun h2=>h h2.2)]
 | false =>
   refine (Add w v hw hv q).resE (Aq0 (K4 fun j hj=>?_)) rfl rfl rfl
   have hk:¬ Aq (syF w v)=1:=by have:=ofq q; omega
   unfold nf Jc
   rw [if_neg (fun h2=>hk h2.1)]
