import Derived.Test.YtfhiggfmkjmeiaaGreatFHt
import Derived.Test.YtfhiggfmkjmeiaaGreatFxX
set_option linter.unusedVariables false
set_option linter.unusedSimpArgs false
set_option linter.unusedSectionVars false
namespace Go.Proofs.YtfhiggfmkjmeiaaGreat
open Go Go.RowKit
set_option maxRecDepth 100000
def dn (x:Int):Nat->Int
 | 0=>x
 | i + 1=>dn x i - 1
theorem dn_eq (x:Int):∀ i,dn x i=x - i
 | 0=>by simp [dn]
 | i + 1=>by rw [dn,dn_eq x i]; omega
theorem degree_sp_0 (l:List Nat) (hl:l.length<=65536) (q1:(decide (0<=dn (((l.length:Nat):Int) - 1) (l.length - dl l)))=true):Sp P 307 [.sl 0] [.ro (.row eB l)] (vi (dn (((l.length:Nat):Int) - 1) (l.length - dl l))) [.ro (.row eB l)] :=
 so Tryz.f307 3 [.id 0] (.e 6 (aSub (a:=((l.length:Nat):Int)) (b:=1) (c:=((l.length:Nat):Int) - 1) (by omega)) (.lp (l.length - dl l) 2 [] [] (fun i=>[(3,vi (dn (((l.length:Nat):Int) - 1) i))]) (fun i=>[]) (fun i hi=>(.t (show (decide (0<=dn (((l.length:Nat):Int) - 1) i))=true from decide_eq_true (by rw [dn_eq]; omega)) (.t (show (decide (0<=dn (((l.length:Nat):Int) - 1) i))=true from decide_eq_true (by rw [dn_eq]; omega)) (.t (show (decide (0<=dn (((l.length:Nat):Int) - 1) i))=true from decide_eq_true (by rw [dn_eq]; omega)) (.ix (n:=dn (((l.length:Nat):Int) - 1) i) (i:=(l.length - 1 - i)) (m:=l.length) (e:=(by rw [dn_eq]; omega)) (by omega) (.t (show (decide (0<=dn (((l.length:Nat):Int) - 1) i))=true from decide_eq_true (by rw [dn_eq]; omega)) (.el (e:=eB) (gD (l:=l) (i:=(l.length - 1 - i)) (by omega)) (.t (show (decide (0<=dn (((l.length:Nat):Int) - 1) i))=true from decide_eq_true (by rw [dn_eq]; omega)) (.t (show (decide (0<=dn (((l.length:Nat):Int) - 1) i))=true from decide_eq_true (by rw [dn_eq]; omega)) (.t (show (decide (((l.getD (l.length - 1 - i) 0:Nat):Int)=0))=true from decide_eq_true (by rw [dl_zero (by omega) (by omega)]; rfl)) (.e 17 (aSub (a:=dn (((l.length:Nat):Int) - 1) i) (b:=1) (c:=(dn (((l.length:Nat):Int) - 1) i) - 1) (by rw [dn_eq]; omega)) .nil))))))))))) (.t2 q1 (.t q1 (.ix (n:=dn (((l.length:Nat):Int) - 1) (l.length - dl l)) (i:=(dl l - 1)) (m:=l.length) (e:=(by have h:=of_decide_eq_true q1; rw [dn_eq] at h ⊢; have:=dl_le l; omega)) (by have h:=of_decide_eq_true q1; rw [dn_eq] at h; have:=dl_le l; omega) (.t q1 (.el (e:=eB) (gD (l:=l) (i:=(dl l - 1)) (by have h:=of_decide_eq_true q1; rw [dn_eq] at h; have:=dl_le l; omega)) (.t2 q1 (.t (show (decide (((l.getD (dl l - 1) 0:Nat):Int)=0))=false from decide_eq_false (by have h:=of_decide_eq_true q1; rw [dn_eq] at h; have:=dl_le l; have:=dl_last (l:=l) (by omega); omega)) .nil)))))))))
theorem degree_sp_1 (l:List Nat) (hl:l.length<=65536) (q1:(decide (0<=dn (((l.length:Nat):Int) - 1) (l.length - dl l)))=false):Sp P 307 [.sl 0] [.ro (.row eB l)] (vi (dn (((l.length:Nat):Int) - 1) (l.length - dl l))) [.ro (.row eB l)] :=
 so Tryz.f307 3 [.id 0] (.e 6 (aSub (a:=((l.length:Nat):Int)) (b:=1) (c:=((l.length:Nat):Int) - 1) (by omega)) (.lp (l.length - dl l) 2 [] [] (fun i=>[(3,vi (dn (((l.length:Nat):Int) - 1) i))]) (fun i=>[]) (fun i hi=>(.t (show (decide (0<=dn (((l.length:Nat):Int) - 1) i))=true from decide_eq_true (by rw [dn_eq]; omega)) (.t (show (decide (0<=dn (((l.length:Nat):Int) - 1) i))=true from decide_eq_true (by rw [dn_eq]; omega)) (.t (show (decide (0<=dn (((l.length:Nat):Int) - 1) i))=true from decide_eq_true (by rw [dn_eq]; omega)) (.ix (n:=dn (((l.length:Nat):Int) - 1) i) (i:=(l.length - 1 - i)) (m:=l.length) (e:=(by rw [dn_eq]; omega)) (by omega) (.t (show (decide (0<=dn (((l.length:Nat):Int) - 1) i))=true from decide_eq_true (by rw [dn_eq]; omega)) (.el (e:=eB) (gD (l:=l) (i:=(l.length - 1 - i)) (by omega)) (.t (show (decide (0<=dn (((l.length:Nat):Int) - 1) i))=true from decide_eq_true (by rw [dn_eq]; omega)) (.t (show (decide (0<=dn (((l.length:Nat):Int) - 1) i))=true from decide_eq_true (by rw [dn_eq]; omega)) (.t (show (decide (((l.getD (l.length - 1 - i) 0:Nat):Int)=0))=true from decide_eq_true (by rw [dl_zero (by omega) (by omega)]; rfl)) (.e 17 (aSub (a:=dn (((l.length:Nat):Int) - 1) i) (b:=1) (c:=(dn (((l.length:Nat):Int) - 1) i) - 1) (by rw [dn_eq]; omega)) .nil))))))))))) (.t4 q1 (.t2 q1 (.n .nil)))))
theorem degree_sp (l:List Nat) (hl:l.length<=65536):Sp P 307 [.sl 0] [.ro (.row eB l)] (vi (((dl l:Nat):Int) - 1)) [.ro (.row eB l)]:=by
 cases q1:decide (0<=dn (((l.length:Nat):Int) - 1) (l.length - dl l)) with
 | true =>
   have e:(((dl l:Nat):Int) - 1)=(dn (((l.length:Nat):Int) - 1) (l.length - dl l)):=by rw [dn_eq]; have:=dl_le l; omega
   rw [e]
   exact degree_sp_0 l hl q1
 | false =>
   have e:(((dl l:Nat):Int) - 1)=(dn (((l.length:Nat):Int) - 1) (l.length - dl l)):=by rw [dn_eq]; have:=dl_le l; omega
   rw [e]
   exact degree_sp_1 l hl q1
theorem clone_cons (x:Nat) (l:List Nat) (hl:(x :: l).length<=65536):Sp P 309 [.sl 0] [.ro (.row eB (x :: l))] (.sl 1) [.ro (.row eB (x :: l)),.row eB (x :: l)] :=
 so Tryz.f309 4 [.id 0,.id 3] (.n (.bs 5 (e:=eB) [] (.ap (e:=eB) (l:=[]) (l':=x :: l) .row .row (by simp only [List.length_nil,List.length_cons] at *; omega) .nil)))
theorem clone_some (a:Addr) (c:Nat) :Sp P 309 [.v (.slice (some a) 0 c)] [.ro (.row eB [])] (.sl 1) [.ro (.row eB []),.row eB []] :=
 so Tryz.f309 4 [.id 0,.id 3] (.n (.bs 5 (e:=eB) [] (.ap (e:=eB) (l:=[]) (l':=[]) .row (.flat [] [] rfl) (by decide) .nil)))
theorem clone_nil  :Sp P 309 [nilS] [.ro (.row eB [])] (.sl 1) [.ro (.row eB []),.row eB []] :=
 so Tryz.f309 3 [.id 0,.nil] (.y .nil)
theorem clone_sp (l:List Nat) (hl:l.length<=65536):Sp P 309 [.sl 0] [.ro (.row eB l)] (.sl 1) [.ro (.row eB l),.row eB l]:=by
 cases l with
 | cons x l=>exact clone_cons x l hl
 | nil =>
   have hA:=clone_nil
   refine ⟨⟨rfl,rfl⟩,hA.ln,hA.fr,hA.rs,hA.ro,fun ρ M w h=>?_⟩
   obtain ⟨h1,h2,h3,h4⟩:=h.row (g:=0) rfl rfl
   cases ha:(ρ 0).a with
   | none =>
     cases hea:(ρ 0).ea with
     | none =>
       have e:V.dens ρ [V.sl 0]=V.dens ρ [nilS]:=by simp only [V.dens,V.den,Loc.slv_none ha,Loc.emp,hea]
       rw [e]; exact hA.out ρ M w h
     | some A =>
       have e:V.dens ρ [V.sl 0]=V.dens ρ [V.v (.slice (some A) 0 (ρ 0).ec)]:=by simp only [V.dens,V.den,Loc.slv_none ha,Loc.emp,hea]
       rw [e]; exact (clone_some _ _).out ρ M w h
   | some a =>
     have e:V.dens ρ [V.sl 0]=V.dens ρ [V.v (.slice (some ((ρ 0).adr 0)) 0 (ρ 0).cap)]:=by simp only [V.dens,V.den,slv_some ha,h1,List.length_nil]
     rw [e]; exact (clone_some _ _).out ρ M w h
def tr (l:List Nat):List Nat:=l.take (dl l)
theorem tr_len (l:List Nat):(tr l).length=dl l:=by unfold tr; rw [List.length_take]; have:=dl_le l; omega
theorem tr_le (l:List Nat):(tr l).length<=l.length:=by rw [tr_len]; exact dl_le l
theorem tr_B8 {l:List Nat} (h:B8 l):B8 (tr l):=h.take _
theorem trim_sp (l:List Nat) (hl:l.length<=65536):Sp P 306 [.sl 0] [.ro (.row eB l)] (.sl 1) [.ro (.row eB l),.row eB (tr l)] :=
 so Tryz.f306 3 [.id 0,.id 2] (.c [.id 0] (degree_sp l (by first | assumption | omega)) (.e 6 (aAdd (a:=((dl l:Nat):Int) - 1) (b:=1) (c:=((dl l:Nat):Int)) (by have:=dl_le l; omega)) (.sl (i:=0) (n:=dl l) (m:=l.length) (hi:=((dl l:Nat):Int)) (h2:=by omega) (by have:=dl_le l; omega) (.cw [.ss 0 0 1 (dl l)] (clone_sp (l.take (dl l)) (by rw [List.length_take]; have:=dl_le l; omega)) _ (congrArg (fun z:Fd=>[z]) (vwT eB l (dl l) (dl_le l))) .nil))))
theorem degree_pos (l:List Nat) (hl:l.length<=65536) (h:dl l ≠ 0):Sp P 307 [.sl 0] [.ro (.row eB l)] (vn (dl l - 1)) [.ro (.row eB l)]:=by
 have:=degree_sp l hl
 rw [show ((dl l:Nat):Int) - 1=((dl l - 1:Nat):Int) by omega] at this
 exact this
def mi (a b o:List Nat) (i:Nat):Nat->List Nat
 | 0=>o
 | k + 1=>(mi a b o i k).set (i + k) (xr ((mi a b o i k).getD (i + k) 0) (mulF (a.getD i 0) (b.getD k 0)))
def mo (a b:List Nat):Nat->List Nat
 | 0=>List.replicate (a.length + b.length) 0
 | i + 1=>mi a b (mo a b i) i b.length
theorem mi_len (a b o:List Nat) (i:Nat):∀ k,(mi a b o i k).length=o.length
 | 0=>rfl
 | k + 1=>by rw [mi,List.length_set,mi_len a b o i k]
theorem mo_len (a b:List Nat):∀ i,(mo a b i).length=a.length + b.length
 | 0=>List.length_replicate
 | i + 1=>by rw [mo,mi_len,mo_len a b i]
theorem mi_B8 {a b o:List Nat} {i:Nat} (h:B8 o):∀ k,B8 (mi a b o i k)
 | 0=>h
 | k + 1=>(mi_B8 h k).set (xr_lt (mi_B8 h k _) (mulF_lt _ _))
theorem mo_B8 {a b:List Nat}:∀ i,B8 (mo a b i)
 | 0=>B8.rep _
 | i + 1=>mi_B8 (mo_B8 i) _
def mulP (a b:List Nat):List Nat:=tr (mo (tr a) (tr b) (tr a).length)
theorem mulP_B8 {a b:List Nat}:B8 (mulP a b):=tr_B8 (mo_B8 _)
theorem mulP_len (a b:List Nat):(mulP a b).length<=a.length + b.length:=by
 have h:=tr_le (mo (tr a) (tr b) (tr a).length)
 rw [mo_len] at h
 have:=tr_le a; have:=tr_le b
 unfold mulP; omega
theorem pmul_sp (a:List Nat) (b:List Nat) (ha:a.length<=1000) (hb:b.length<=1000) (ba:B8 a) (bb:B8 b):Sp P 281 [.pt 0 0,.sl 1,.sl 2] [.ro (gF),.ro (.row eB a),.ro (.row eB b)] (.sl 3) [.ro (gF),.ro (.row eB a),.ro (.row eB b),.row eB (mulP a b)] :=
 so Tryz.f281 7 (ir 0 3 ++ .id 7 :: []) (.c [.id 1] (trim_sp a (by first | assumption | omega)) (.c [.id 2] (trim_sp b (by first | assumption | omega)) (.e 20 (aAdd (a:=(((tr a).length:Nat):Int)) (b:=(((tr b).length:Nat):Int)) (c:=(((tr a).length + (tr b).length:Nat):Int)) (by have:=tr_le a; have:=tr_le b; omega)) (.mk (e:=eB) (a:=0) (n:=(tr a).length + (tr b).length) (by have:=tr_le a; have:=tr_le b; omega) (.lp (tr a).length 7 [] [] (fun i=>[(24,vn i)]) (fun i=>[(6,.row eB (mo (tr a) (tr b) i))]) (fun i hi=>(.t (show (decide (((i:Nat):Int) < (((tr a).length:Nat):Int)))=true from decide_eq_true (by omega)) (.ix (i:=i) (m:=(tr a).length) (by omega) (.el (e:=eB) (gD (l:=tr a) (i:=i) (by omega)) (.lp (tr b).length 7 [] [] (fun k=>[(31,vn k)]) (fun k=>[(6,.row eB (mi (tr a) (tr b) (mo (tr a) (tr b) i) i k))]) (fun k hk=>(.t (show (decide (((k:Nat):Int) < (((tr b).length:Nat):Int)))=true from decide_eq_true (by omega)) (.ix (i:=k) (m:=(tr b).length) (by omega) (.el (e:=eB) (gD (l:=tr b) (i:=k) (by omega)) (.e 39 (aAdd (a:=((i:Nat):Int)) (b:=((k:Nat):Int)) (c:=((i + k:Nat):Int)) (by have:=tr_le a; have:=tr_le b; omega)) (.ix (i:=i + k) (m:=(mi (tr a) (tr b) (mo (tr a) (tr b) i) i k).length) (by rw [mi_len,mo_len]; omega) (.el (e:=eB) (gD (l:=mi (tr a) (tr b) (mo (tr a) (tr b) i) i k) (i:=i + k) (by rw [mi_len,mo_len]; omega)) (.c [.id 0] (mul_sp ((tr a).getD i 0) ((tr b).getD k 0) (tr_B8 ba _) (tr_B8 bb _)) (.e 46 (bXor ((mi (tr a) (tr b) (mo (tr a) (tr b) i) i k).getD (i + k) 0) (mulF ((tr a).getD i 0) ((tr b).getD k 0)) (mi_B8 (mo_B8 _) _ _) (mulF_lt _ _)) (.ix (i:=i + k) (m:=(mi (tr a) (tr b) (mo (tr a) (tr b) i) i k).length) (by rw [mi_len,mo_len]; omega) (.sw (e:=eB) (l:=mi (tr a) (tr b) (mo (tr a) (tr b) i) i k) (i:=i + k) (a:=xr ((mi (tr a) (tr b) (mo (tr a) (tr b) i) i k).getD (i + k) 0) (mulF ((tr a).getD i 0) ((tr b).getD k 0))) (by rw [mi_len,mo_len]; omega) (.e 48 (aAdd (a:=((k:Nat):Int)) (b:=1) (c:=((k + 1:Nat):Int)) (by have:=tr_le a; have:=tr_le b; omega)) .nil)))))))))))) (.t (show (decide ((((tr b).length:Nat):Int) < (((tr b).length:Nat):Int)))=false from decide_eq_false (by omega)) (.e 49 (aAdd (a:=((i:Nat):Int)) (b:=1) (c:=((i + 1:Nat):Int)) (by have:=tr_le a; have:=tr_le b; omega)) .nil))))))) (.t (show (decide ((((tr a).length:Nat):Int) < (((tr a).length:Nat):Int)))=false from decide_eq_false (by omega)) (.c [.id 6] (trim_sp (mo (tr a) (tr b) (tr a).length) (by rw [mo_len]; have:=tr_le a; have:=tr_le b; omega)) .nil)))))))
def mdi (b o:List Nat) (A e:Nat):Nat->List Nat
 | 0=>o
 | k + 1=>(mdi b o A e k).set (e + k) (xr ((mdi b o A e k).getD (e + k) 0) (mulF A (b.getD k 0)))
def mdo (a b:List Nat) (t:Nat):Nat->List Nat
 | 0=>a
 | i + 1=>mdi b (mdo a b t i) (mulF ((mdo a b t i).getD (a.length - 1 - i) 0) t) (a.length - 1 - i - (dl b - 1)) (dl b - 1 + 1)
theorem mdi_len (b o:List Nat) (A e:Nat):∀ k,(mdi b o A e k).length=o.length
 | 0=>rfl
 | k + 1=>by rw [mdi,List.length_set,mdi_len b o A e k]
theorem mdo_len (a b:List Nat) (t:Nat):∀ i,(mdo a b t i).length=a.length
 | 0=>rfl
 | i + 1=>by rw [mdo,mdi_len,mdo_len a b t i]
theorem mdi_B8 {b o:List Nat} {A e:Nat} (h:B8 o):∀ k,B8 (mdi b o A e k)
 | 0=>h
 | k + 1=>(mdi_B8 h k).set (xr_lt (mdi_B8 h k _) (mulF_lt _ _))
theorem mdo_B8 {a b:List Nat} {t:Nat} (h:B8 a):∀ i,B8 (mdo a b t i)
 | 0=>h
 | i + 1=>mdi_B8 (mdo_B8 h i) _
def topI (b:List Nat):Nat:=divF 1 (b.getD (dl b - 1) 0)
def modP (a b:List Nat):List Nat:=tr (mdo a b (topI b) (a.length + 1 - dl b))
theorem modP_B8 {a b:List Nat} (h:B8 a):B8 (modP a b):=tr_B8 (mdo_B8 h _)
theorem pmod_sp (a:List Nat) (b:List Nat) (ha:a.length<=1000) (hb:b.length<=1000) (ba:B8 a) (bb:B8 b) (hq:dl b ≠ 0):Sp P 286 [.pt 0 0,.sl 1,.sl 2] [.ro (gF),.ro (.row eB a),.ro (.row eB b)] (.tu [.sl 3,vn 0]) [.ro (gF),.ro (.row eB a),.ro (.row eB b),.row eB (modP a b)] :=
 so Tryz.f286 5 (ir 0 3 ++ .id 5 :: []) (.c [.id 2] (degree_pos b (by first | assumption | omega) (by first | assumption | omega)) (.t (show (decide (((dl b - 1:Nat):Int) < 0))=false from decide_eq_false (by omega)) (.ix (n:=((dl b - 1:Nat):Int)) (i:=(dl b - 1)) (m:=b.length) (e:=rfl) (by have:=dl_le b; omega) (.el (e:=eB) (gD (l:=b) (i:=(dl b - 1)) (by have:=dl_le b; omega)) (.c [.id 0] (inv_sp (b.getD (dl b - 1) 0) (bb _)) (.t (congrArg (!·) (show (decide (noI (b.getD (dl b - 1) 0)=0))=true from decide_eq_true (by unfold noI; rw [if_neg (dl_last hq)]))) (.c [.id 1] (clone_sp a (by first | assumption | omega)) (.e 35 (aSub (a:=((a.length:Nat):Int)) (b:=1) (c:=((a.length:Nat):Int) - 1) (by omega)) (.lp (a.length + 1 - dl b) 5 [] [] (fun i=>[(12,vi (dn (((a.length:Nat):Int) - 1) i))]) (fun i=>[(4,.row eB (mdo a b (topI b) i))]) (fun i hi=>(.t (show (decide (((dl b - 1:Nat):Int)<=dn (((a.length:Nat):Int) - 1) i))=true from decide_eq_true (by rw [dn_eq]; omega)) (.ix (n:=dn (((a.length:Nat):Int) - 1) i) (i:=(a.length - 1 - i)) (m:=(mdo a b (topI b) i).length) (e:=(by rw [dn_eq]; omega)) (by rw [mdo_len]; omega) (.el (e:=eB) (gD (l:=mdo a b (topI b) i) (i:=(a.length - 1 - i)) (by rw [mdo_len]; omega)) (.c [.id 0] (mul_sp ((mdo a b (topI b) i).getD (a.length - 1 - i) 0) (divF 1 (b.getD (dl b - 1) 0)) (mdo_B8 ba _ _) (divF_lt _ _)) (.e 49 (aAdd (a:=((dl b - 1:Nat):Int)) (b:=1) (c:=(((dl b - 1) + 1:Nat):Int)) (by have:=dl_le b; omega)) (.lp (dl b - 1 + 1) 5 [] [] (fun k=>[(50,vn k)]) (fun k=>[(4,.row eB (mdi b (mdo a b (topI b) i) (mulF ((mdo a b (topI b) i).getD (a.length - 1 - i) 0) (topI b)) (a.length - 1 - i - (dl b - 1)) k))]) (fun k hk=>(.t (show (decide (((k:Nat):Int) < (((dl b - 1) + 1:Nat):Int)))=true from decide_eq_true (by omega)) (.e 56 (aSub (a:=dn (((a.length:Nat):Int) - 1) i) (b:=((dl b - 1:Nat):Int)) (c:=(dn (((a.length:Nat):Int) - 1) i) - ((dl b - 1:Nat):Int)) (by rw [dn_eq]; have:=dl_le b; omega)) (.e 58 (aAdd (a:=(dn (((a.length:Nat):Int) - 1) i) - ((dl b - 1:Nat):Int)) (b:=((k:Nat):Int)) (c:=((dn (((a.length:Nat):Int) - 1) i) - ((dl b - 1:Nat):Int)) + ((k:Nat):Int)) (by rw [dn_eq]; have:=dl_le b; omega)) (.ix (n:=((dn (((a.length:Nat):Int) - 1) i) - ((dl b - 1:Nat):Int)) + ((k:Nat):Int)) (i:=(a.length - 1 - i - (dl b - 1) + k)) (m:=(mdi b (mdo a b (topI b) i) (mulF ((mdo a b (topI b) i).getD (a.length - 1 - i) 0) (topI b)) (a.length - 1 - i - (dl b - 1)) k).length) (e:=(by rw [dn_eq]; have:=dl_le b; omega)) (by rw [mdi_len,mdo_len]; have:=dl_le b; omega) (.el (e:=eB) (gD (l:=mdi b (mdo a b (topI b) i) (mulF ((mdo a b (topI b) i).getD (a.length - 1 - i) 0) (topI b)) (a.length - 1 - i - (dl b - 1)) k) (i:=(a.length - 1 - i - (dl b - 1) + k)) (by rw [mdi_len,mdo_len]; have:=dl_le b; omega)) (.ix (i:=k) (m:=b.length) (by have:=dl_le b; omega) (.el (e:=eB) (gD (l:=b) (i:=k) (by have:=dl_le b; omega)) (.c [.id 0] (mul_sp (mulF ((mdo a b (topI b) i).getD (a.length - 1 - i) 0) (divF 1 (b.getD (dl b - 1) 0))) (b.getD k 0) (mulF_lt _ _) (bb _)) (.e 68 (bXor ((mdi b (mdo a b (topI b) i) (mulF ((mdo a b (topI b) i).getD (a.length - 1 - i) 0) (topI b)) (a.length - 1 - i - (dl b - 1)) k).getD (a.length - 1 - i - (dl b - 1) + k) 0) (mulF (mulF ((mdo a b (topI b) i).getD (a.length - 1 - i) 0) (divF 1 (b.getD (dl b - 1) 0))) (b.getD k 0)) (mdi_B8 (mdo_B8 ba _) _ _) (mulF_lt _ _)) (.ix (n:=((dn (((a.length:Nat):Int) - 1) i) - ((dl b - 1:Nat):Int)) + ((k:Nat):Int)) (i:=(a.length - 1 - i - (dl b - 1) + k)) (m:=(mdi b (mdo a b (topI b) i) (mulF ((mdo a b (topI b) i).getD (a.length - 1 - i) 0) (topI b)) (a.length - 1 - i - (dl b - 1)) k).length) (e:=(by rw [dn_eq]; have:=dl_le b; omega)) (by rw [mdi_len,mdo_len]; have:=dl_le b; omega) (.sw (e:=eB) (l:=mdi b (mdo a b (topI b) i) (mulF ((mdo a b (topI b) i).getD (a.length - 1 - i) 0) (topI b)) (a.length - 1 - i - (dl b - 1)) k) (i:=(a.length - 1 - i - (dl b - 1) + k)) (a:=xr ((mdi b (mdo a b (topI b) i) (mulF ((mdo a b (topI b) i).getD (a.length - 1 - i) 0) (topI b)) (a.length - 1 - i - (dl b - 1)) k).getD (a.length - 1 - i - (dl b - 1) + k) 0) (mulF (mulF ((mdo a b (topI b) i).getD (a.length - 1 - i) 0) (divF 1 (b.getD (dl b - 1) 0))) (b.getD k 0))) (by rw [mdi_len,mdo_len]; have:=dl_le b; omega) (.e 70 (aAdd (a:=((k:Nat):Int)) (b:=1) (c:=((k + 1:Nat):Int)) (by have:=dl_le b; omega)) .nil))))))))))))) (.t (show (decide ((((dl b - 1 + 1):Nat):Int) < (((dl b - 1) + 1:Nat):Int)))=false from decide_eq_false (by omega)) (.e 40 (aSub (a:=dn (((a.length:Nat):Int) - 1) i) (b:=1) (c:=(dn (((a.length:Nat):Int) - 1) i) - 1) (by rw [dn_eq]; omega)) .nil))))))))) (.t (show (decide (((dl b - 1:Nat):Int)<=dn (((a.length:Nat):Int) - 1) (a.length + 1 - dl b)))=false from decide_eq_false (by rw [dn_eq]; omega)) (.c [.id 4] (trim_sp (mdo a b (topI b) (a.length + 1 - dl b)) (by rw [mdo_len]; omega)) .nil)))))))))))
def evlP (l:List Nat) (x:Nat):Nat->Nat
 | 0=>0
 | i + 1=>xr (mulF (evlP l x i) x) (l.getD (l.length - 1 - i) 0)
theorem evlP_lt {l:List Nat} (h:B8 l) (x:Nat):∀ i,evlP l x i < 256
 | 0=>(by decide:(0:Nat) < 256)
 | i + 1=>xr_lt (mulF_lt _ _) (h _)
theorem backward_sp (l:List Nat) :Sp P 356 [.sl 0] [.ro (.row eB l)] (.fn (.func 357) [] [.pt 1 0]) [.ro (.row eB l),.blk [.sl 0] 77] :=
 so Tryz.f356 3 [.id 0,.id 2] .nil
theorem peval_sp (l:List Nat) (x:Nat) (hl:l.length<=65536) (bl:B8 l) (hx:x < 256):Sp P 350 [.pt 0 0,.sl 1,vb x] [.ro (gF),.ro (.row eB l)] (vb (evlP l x l.length)) [.ro (gF),.ro (.row eB l)] :=
 so Tryz.f350 8 [.id 0,.id 1] (.c [.id 1] (backward_sp l) (.e 6 (aSub (a:=((l.length:Nat):Int)) (b:=1) (c:=((l.length:Nat):Int) - 1) (by omega)) (.lp l.length 9 [] [] (fun i=>[(3,vi (dn (((l.length:Nat):Int) - 1) i))]) (fun i=>[(5,.blk [vb (evlP l x i)] 5),(7,.lo .ready none)]) (fun i hi=>(.t (show (decide (0<=dn (((l.length:Nat):Int) - 1) i))=true from decide_eq_true (by rw [dn_eq]; omega)) (.ix (n:=dn (((l.length:Nat):Int) - 1) i) (i:=(l.length - 1 - i)) (m:=l.length) (e:=(by rw [dn_eq]; omega)) (by omega) (.el (e:=eB) (gD (l:=l) (i:=(l.length - 1 - i)) (by omega)) (.c [.id 0] (mul_sp (evlP l x i) x (evlP_lt bl x i) hx) (.e 19 (bXor (mulF (evlP l x i) x) (l.getD (l.length - 1 - i) 0) (mulF_lt _ _) (bl _)) (.n (.e 10 (aSub (a:=dn (((l.length:Nat):Int) - 1) i) (b:=1) (c:=(dn (((l.length:Nat):Int) - 1) i) - 1) (by rw [dn_eq]; omega)) .nil)))))))) (.t (show (decide (0<=dn (((l.length:Nat):Int) - 1) l.length))=false from decide_eq_false (by rw [dn_eq]; omega)) .nil))))
def rtP (r:List Nat):Nat->List Nat
 | 0=>[1]
 | i + 1=>mulP (rtP r i) [r.getD i 0,1]
theorem rtP_len (r:List Nat):∀ i,(rtP r i).length<=2 * i + 1
 | 0=>Nat.le_refl 1
 | i + 1=>by
   have h:=mulP_len (rtP r i) [r.getD i 0,1]
   have:=rtP_len r i
   simp only [List.length_cons,List.length_nil] at h
   rw [rtP]; omega
theorem rt_le (i:Nat) (h:i<=4):(rtP [1,2,4,8] i).length<=1000:=by have:=rtP_len [1,2,4,8] i; omega
theorem roots_sp  :Sp P 243 [.pt 0 0,.sl 1] [.ro (gF),.ro (.row eB [1,2,4,8])] (.sl 2) [.ro (gF),.ro (.row eB [1,2,4,8]),.row eB (rtP [1,2,4,8] 4)] :=
 so Tryz.f243 11 [.id 0,.id 1,.id 11] (.bs 8 (e:=eB) [1] (.lu 4 (.y (.ix (i:=0) (m:=4) (by decide) (.el (e:=eB) (gD (l:=[1,2,4,8]) (i:=0) (by decide)) (.bs 18 (e:=eB) [[1,2,4,8].getD 0 0,1] (.c [.id 0,.id 3,.id 4] (pmul_sp [1] [[1,2,4,8].getD 0 0,1] (by decide) (by decide) (B8.mem (by decide)) (B8.mem (by decide))) (.y (.ix (i:=1) (m:=4) (by decide) (.el (e:=eB) (gD (l:=[1,2,4,8]) (i:=1) (by decide)) (.bs 18 (e:=eB) [[1,2,4,8].getD 1 0,1] (.c [.id 0,.id 5,.id 6] (pmul_sp (mulP [1] [[1,2,4,8].getD 0 0,1]) [[1,2,4,8].getD 1 0,1] (rt_le 1 (by decide)) (by decide) mulP_B8 (B8.mem (by decide))) (.y (.ix (i:=2) (m:=4) (by decide) (.el (e:=eB) (gD (l:=[1,2,4,8]) (i:=2) (by decide)) (.bs 18 (e:=eB) [[1,2,4,8].getD 2 0,1] (.c [.id 0,.id 7,.id 8] (pmul_sp (mulP (mulP [1] [[1,2,4,8].getD 0 0,1]) [[1,2,4,8].getD 1 0,1]) [[1,2,4,8].getD 2 0,1] (rt_le 2 (by decide)) (by decide) mulP_B8 (B8.mem (by decide))) (.y (.ix (i:=3) (m:=4) (by decide) (.el (e:=eB) (gD (l:=[1,2,4,8]) (i:=3) (by decide)) (.bs 18 (e:=eB) [[1,2,4,8].getD 3 0,1] (.c [.id 0,.id 9,.id 10] (pmul_sp (mulP (mulP (mulP [1] [[1,2,4,8].getD 0 0,1]) [[1,2,4,8].getD 1 0,1]) [[1,2,4,8].getD 2 0,1]) [[1,2,4,8].getD 3 0,1] (rt_le 3 (by decide)) (by decide) mulP_B8 (B8.mem (by decide))) (.n .nil)))))))))))))))))))))))
def gen:List Nat:=[64,120,54,15,1]
theorem gen_eq:rtP [1,2,4,8] 4=gen:=by decide +kernel
theorem dl_gen:dl gen=5:=by decide
theorem gen_B8:B8 gen:=.mem (by decide)
theorem powers_sp (a:Nat) (n:Nat) :Sp P 241 [.pt 0 0,vb a,vn n] [.ro (gF)] (.fn (.func 278) [] [.pt 3 0,.pt 1 0,.pt 2 0]) [.ro (gF),.blk [.pt 0 0] 311,.blk [vb a] 5,.blk [vn n] 3] :=
 so Tryz.f241 5 (.id 0 :: ir 2 3) .nil
theorem rsnew_raw  :Sp P 187 [.pt 0 0] [.ro (gF)] (.pt 1 0) [.ro (gF),.blk [.pt 0 0,.sl 2] 368,.row eB (rtP [1,2,4,8] 4)] :=
 so Tryz.f187 18 [.id 0,.id 17,.id 16] (.c [.id 0] (exp_sp 1) (.c [.id 0] (powers_sp (ex (cu 1)) 4) (.lu 4 (.y (.bs 14 (e:=eB) [1] (.ap (e:=eB) (l:=[]) (l':=[1]) (.flat [] [] rfl) .row (by decide) (.n (.c [.id 0] (mul_sp 1 (ex (cu 1)) (by decide) (ex_lt _)) (.y (.bs 14 (e:=eB) [2] (.ap (e:=eB) (l:=[1]) (l':=[2]) .row .row (by decide) (.n (.c [.id 0] (mul_sp (mulF 1 (ex (cu 1))) (ex (cu 1)) (mulF_lt _ _) (ex_lt _)) (.y (.bs 14 (e:=eB) [4] (.ap (e:=eB) (l:=[1,2]) (l':=[4]) .row .row (by decide) (.n (.c [.id 0] (mul_sp (mulF (mulF 1 (ex (cu 1))) (ex (cu 1))) (ex (cu 1)) (mulF_lt _ _) (ex_lt _)) (.y (.bs 14 (e:=eB) [8] (.ap (e:=eB) (l:=[1,2,4]) (l':=[8]) .row .row (by decide) (.n (.c [.id 0] (mul_sp (mulF (mulF (mulF 1 (ex (cu 1))) (ex (cu 1))) (ex (cu 1))) (ex (cu 1)) (mulF_lt _ _) (ex_lt _)) (.n (.c [.id 0,.id 15] (roots_sp) .nil)))))))))))))))))))))))))
theorem rsnew_sp:Sp P 187 [.pt 0 0] [.ro (gF)] (.pt 1 0) [.ro (gF),.blk [.pt 0 0,.sl 2] 368,.row eB gen]:=by
 have h:=rsnew_raw
 rw [gen_eq] at h
 exact h
def wordD (f v:Nat->Nat):List Nat:=(List.replicate 4 0 ++ arL f 32 0) ++ arL v 3 0
theorem wordD_len (f v:Nat->Nat):(wordD f v).length=39:=by simp only [wordD,List.length_append,List.length_replicate,arL_len]
theorem wordD_B8 {f v:Nat->Nat} (hf:∀ j,f j < 256) (hv:∀ j,v j < 256):B8 (wordD f v):=((B8.rep 4).app (arL_B8 hf _ _)).app (arL_B8 hv _ _)
theorem gDset (l:List Nat) (i j a:Nat):(l.set i a).getD j 0=if i=j∧i < l.length then a else l.getD j 0:=by
 rw [List.getD_eq_getElem?_getD,List.getD_eq_getElem?_getD,List.getElem?_set]
 by_cases h:i=j
 ·subst h
  by_cases h2:i < l.length
  ·simp [h2]
  ·simp only [if_true,if_neg h2,true_and]
   rw [List.getElem?_eq_none (by omega)]
 ·rw [if_neg h,if_neg (fun h2=>h h2.1)]
theorem mul1 (x:Nat) (h:x < 256):mulF (mulF x 1) 1=x:=of256 (q:=fun x=>mulF (mulF x 1) 1=x) (by decide +kernel) h
theorem topI_gen:topI gen=1:=by decide +kernel
theorem xr_self (x:Nat):xr x x=0:=Nat.xor_self x
theorem mdi_far {b o:List Nat} {A e j:Nat}:∀ k,e + k<=j->(mdi b o A e k).getD j 0=o.getD j 0
 | 0,_=>rfl
 | k + 1,h=>by rw [mdi,gDset,if_neg (by omega),mdi_far k (by omega)]
theorem mdo_zero {a:List Nat} (ba:B8 a):∀ i j,i + 4<=a.length->a.length - i<=j->j < a.length->(mdo a gen 1 i).getD j 0=0
 | 0,j,_,h1,h2=>by omega
 | i + 1,j,h0,h1,h2=>by
   rw [mdo,dl_gen]
   have hl:=mdo_len a gen 1 i
   rcases Nat.lt_or_ge j (a.length - i) with h3 | h3
   ·have e:j=a.length - 1 - i - (5 - 1) + 4:=by omega
    show (mdi gen (mdo a gen 1 i) _ (a.length - 1 - i - (5 - 1)) (4 + 1)).getD j 0=0
    rw [mdi,gDset,if_pos ⟨by omega,by rw [mdi_len,hl]; omega⟩,mdi_far 4 (by omega),show gen.getD 4 0=1 from rfl,show a.length - 1 - i - (5 - 1) + 4=a.length - 1 - i by omega,mul1 _ (mdo_B8 ba i _),xr_self]
   ·rw [mdi_far _ (by omega)]
    exact mdo_zero ba i j (by omega) h3 h2
theorem mod_gen {a:List Nat} (ba:B8 a) (h:4<=a.length):(modP a gen).length<=4:=by
 unfold modP
 rw [tr_len,topI_gen,dl_gen]
 rcases Nat.lt_or_ge 4 (dl (mdo a gen 1 (a.length + 1 - 5))) with h1 | h1
 ·have h2:=dl_last (l:=mdo a gen 1 (a.length + 1 - 5)) (by omega)
  have h3:=dl_le (mdo a gen 1 (a.length + 1 - 5))
  rw [mdo_len] at h3
  exact absurd (mdo_zero ba _ _ (by omega) (by omega) (by omega)) h2
 ·exact h1
def ckF (f v:Nat->Nat) (j:Nat):Nat:=(modP (wordD f v) gen).getD j 0
theorem ckF_lt {f v:Nat->Nat} (hf:∀ j,f j < 256) (hv:∀ j,v j < 256) (j:Nat):ckF f v j < 256:=modP_B8 (wordD_B8 hf hv) j
theorem cp_flat {l:List Nat} (h:l.length<=4):V.flat ρN [.ar .u8 4 (nf fun j=>l.getD j 0)]=(V.flat ρN [.ar .u8 4 (fun _=>0)]).take 0 ++ eB.cs l ++ (V.flat ρN [.ar .u8 4 (fun _=>0)]).drop (0 + l.length * eB.sz):=by
 match l,h with
 | [],_=>rfl
 | [a],_=>rfl
 | [a,b],_=>rfl
 | [a,b,c],_=>rfl
 | [a,b,c,d],_=>rfl
 | a :: b :: c :: d :: e :: l,h=>exact absurd h (by simp only [List.length_cons]; omega)
theorem checks_sp (f:Nat->Nat) (v:Nat->Nat) (hf:∀ j,f j < 256) (hv:∀ j,v j < 256):Sp P 253 [.pt 0 0,.ar .u8 32 (nf f),.ar .u8 3 (nf v)] [.ro (.blk [.pt 1 0,.sl 2] 368),.ro (gF),.ro (.row eB gen)] (.ar .u8 4 (nf (ckF f v))) [.ro (.blk [.pt 1 0,.sl 2] 368),.ro (gF),.ro (.row eB gen)] :=
 so Tryz.f253 10 (ir 0 3) (.mk (e:=eB) (a:=0) (n:=4) (by decide) (.ap (e:=eB) (l:=List.replicate 4 0) (l':=arL f 32 0) .row (.flat _ _ (ar_flat f 32)) (by simp only [List.length_append,List.length_replicate,arL_len,List.length_nil]; omega) (.ap (e:=eB) (l:=List.replicate 4 0 ++ arL f 32 0) (l':=arL v 3 0) .row (.flat _ _ (ar_flat v 3)) (by simp only [List.length_append,List.length_replicate,arL_len,List.length_nil]; omega) (.c [.id 1,.id 10,.id 2] (pmod_sp (wordD f v) gen (by rw [wordD_len]; decide) (by decide) (wordD_B8 hf hv) gen_B8 (by rw [dl_gen]; decide)) (.y (.cp (xs:=modP (wordD f v) gen) .row (mod_gen (wordD_B8 hf hv) (by rw [wordD_len]; decide)) (cp_flat (mod_gen (wordD_B8 hf hv) (by rw [wordD_len]; decide))) .nil))))))
def wordS (w v:Nat->Nat):List Nat:=([] ++ arL w 36 0) ++ arL v 3 0
theorem wordS_len (w v:Nat->Nat):(wordS w v).length=39:=by simp only [wordS,List.length_append,List.length_nil,arL_len]
theorem wordS_B8 {w v:Nat->Nat} (hw:∀ j,w j < 256) (hv:∀ j,v j < 256):B8 (wordS w v):=((B8.mem (fun x hx=>by cases hx)).app (arL_B8 hw _ _)).app (arL_B8 hv _ _)
def syF (w v:Nat->Nat) (j:Nat):Nat:=evlP (wordS w v) (ex (cu ((j:Nat):Int))) (wordS w v).length
theorem syF_lt {w v:Nat->Nat} (hw:∀ j,w j < 256) (hv:∀ j,v j < 256) (j:Nat):syF w v j < 256:=evlP_lt (wordS_B8 hw hv) _ _
def syA (w v:Nat->Nat):Nat->Nat->Int
 | 0=>fun _=>0
 | i + 1=>upI (syA w v i) i ((syF w v i:Nat):Int)
theorem syA_eq (w v:Nat->Nat):∀ j,j < 4->syA w v 4 j=nf (syF w v) j
 | 0,_=>rfl
 | 1,_=>rfl
 | 2,_=>rfl
 | 3,_=>rfl
 | j + 4,h=>absurd h (by omega)
theorem syndromes_raw (w:Nat->Nat) (v:Nat->Nat) (hw:∀ j,w j < 256) (hv:∀ j,v j < 256):Sp P 334 [.pt 0 0,.ar .u8 36 (nf w),.ar .u8 3 (nf v)] [.ro (.blk [.pt 1 0,.sl 2] 368),.ro (gF),.ro (.row eB gen)] (.ar .u8 4 (syA w v 4)) [.ro (.blk [.pt 1 0,.sl 2] 368),.ro (gF),.ro (.row eB gen)] :=
 so Tryz.f334 12 (ir 0 3) (.bs 10 (e:=eB) [] (.ap (e:=eB) (l:=[]) (l':=arL w 36 0) .row (.flat _ _ (ar_flat w 36)) (by simp only [List.length_append,List.length_replicate,arL_len,List.length_nil]; omega) (.ap (e:=eB) (l:=[] ++ arL w 36 0) (l':=arL v 3 0) .row (.flat _ _ (ar_flat v 3)) (by simp only [List.length_append,List.length_replicate,arL_len,List.length_nil]; omega) (.lp 4 11 [] [] (fun i=>[(15,vn i)]) (fun i=>[(7,.blk [.ar .u8 4 (syA w v i)] 384)]) (fun i hi=>(.t (show (decide (((i:Nat):Int) < 4))=true from decide_eq_true (by omega)) (.c [.id 1] (exp_sp ((i:Nat):Int)) (.c [.id 1,.id 10] (peval_sp (wordS w v) (ex (cu ((i:Nat):Int))) (by rw [wordS_len]; decide) (wordS_B8 hw hv) (ex_lt _)) (.ix (i:=i) (m:=4) hi (.lt (i:=i) (n:=4) hi (.e 32 (aAdd (a:=((i:Nat):Int)) (b:=1) (c:=((i + 1:Nat):Int)) (by omega)) .nil))))))) (.n .nil)))))
theorem syndromes_sp (w v:Nat->Nat) (hw:∀ j,w j < 256) (hv:∀ j,v j < 256):Sp P 334 [.pt 0 0,.ar .u8 36 (nf w),.ar .u8 3 (nf v)] [.ro (.blk [.pt 1 0,.sl 2] 368),.ro (gF),.ro (.row eB gen)] (.ar .u8 4 (nf (syF w v))) [.ro (.blk [.pt 1 0,.sl 2] 368),.ro (gF),.ro (.row eB gen)] :=
 (syndromes_raw w v hw hv).resE (ar_den (syA_eq w v)) rfl rfl rfl
theorem lost_sp  :Sp P 348 [] [] (.ag [vn 3,vi (-1),vb 0]) [] :=
 so Tryz.f348 3 [] .nil
def loneR (s:Nat->Nat) (r:Nat):Bool:=decide (s 0 ≠ 0) && decide (r ≠ 0) && decide (s 1=mulF (s 0) r) && decide (s 2=mulF (s 1) r) && decide (s 3=mulF (s 2) r) && decide (logF r < 39)
def lkind (s:Nat->Nat):Nat:=if eqA (nf s) (fun _=>0) 4 0=true then 0 else if loneR s (divF (s 1) (s 0))=true then (if logF (divF (s 1) (s 0)) < 36 then 1 else 2) else 3
def lplace (s:Nat->Nat):Int:=if eqA (nf s) (fun _=>0) 4 0=true then -1 else if loneR s (divF (s 1) (s 0))=true then ((logF (divF (s 1) (s 0)):Nat):Int) else -1
def lval (s:Nat->Nat):Nat:=if eqA (nf s) (fun _=>0) 4 0=true then 0 else if loneR s (divF (s 1) (s 0))=true then s 0 else 0
theorem lplace_ok {s:Nat->Nat} (h:lkind s=1):0<=lplace s∧lplace s < 36:=by
 unfold lkind at h
 split at h
 ·cases h
 ·rename_i h1
  split at h
  ·rename_i h2
   split at h
   ·rename_i h3
    unfold lplace
    rw [if_neg h1,if_pos h2]
    omega
   ·cases h
  ·cases h
theorem lval_lt {s:Nat->Nat} (h:∀ j,s j < 256):lval s < 256:=by
 unfold lval; split; decide; split; exact h 0; decide
theorem lk_a (a:Nat):((a:Int) < 39)=(a < 39):=by simp; omega
theorem lk_b (a:Nat):((39:Int)<=a)=(39<=a):=by simp; omega
theorem lk_c (a:Nat):((36:Int)<=a)=(36<=a):=by simp; omega
theorem lk_d (a:Nat):((a:Int) < 36)=(a < 36):=by simp; omega
theorem locate_sp_0 (s:Nat->Nat) (bs:∀ j,s j < 256) (q1:(eqA (nf s) (fun _=>0) 4 0)=true):Sp P 333 [.pt 0 0,.ar .u8 4 (nf s)] [.ro (.blk [.pt 1 0,.sl 2] 368),.ro (gF),.ro (.row eB gen)] (.ag [vn 0,vi (-1),vb 0]) [.ro (.blk [.pt 1 0,.sl 2] 368),.ro (gF),.ro (.row eB gen)] :=
 so Tryz.f333 4 (ir 0 3) (.t q1 .nil)
theorem locate_sp_1 (s:Nat->Nat) (bs:∀ j,s j < 256) (q1:(eqA (nf s) (fun _=>0) 4 0)=false) (q2:(decide (noI (s 0)=0))=true) (q3:(decide (((divF (s 1) (s 0):Nat):Int)=0))=true):Sp P 333 [.pt 0 0,.ar .u8 4 (nf s)] [.ro (.blk [.pt 1 0,.sl 2] 368),.ro (gF),.ro (.row eB gen)] (.ag [vn 3,vi (-1),vb 0]) [.ro (.blk [.pt 1 0,.sl 2] 368),.ro (gF),.ro (.row eB gen)] :=
 so Tryz.f333 5 (ir 0 3) (.t q1 (.c [.id 1] (div_sp (s 1) (s 0) (bs _) (bs _)) (.g2 q2 (.g q2 (.t q3 (.c [] (lost_sp) .nil))))))
theorem locate_sp_2 (s:Nat->Nat) (bs:∀ j,s j < 256) (q1:(eqA (nf s) (fun _=>0) 4 0)=false) (q2:(decide (noI (s 0)=0))=true) (q3:(decide (((divF (s 1) (s 0):Nat):Int)=0))=false) (q4:(decide (((s 1:Nat):Int)=((mulF (s 0) (divF (s 1) (s 0)):Nat):Int)))=true) (q5:(decide (((s 2:Nat):Int)=((mulF (s 1) (divF (s 1) (s 0)):Nat):Int)))=true) (q6:(decide (((s 3:Nat):Int)=((mulF (s 2) (divF (s 1) (s 0)):Nat):Int)))=true) (q7:(decide (noI (divF (s 1) (s 0))=0))=true) (q8:(decide (39<=((logF (divF (s 1) (s 0)):Nat):Int)))=true):Sp P 333 [.pt 0 0,.ar .u8 4 (nf s)] [.ro (.blk [.pt 1 0,.sl 2] 368),.ro (gF),.ro (.row eB gen)] (.ag [vn 3,vi (-1),vb 0]) [.ro (.blk [.pt 1 0,.sl 2] 368),.ro (gF),.ro (.row eB gen)] :=
 so Tryz.f333 8 (ir 0 3) (.t q1 (.c [.id 1] (div_sp (s 1) (s 0) (bs _) (bs _)) (.g2 q2 (.g q2 (.t q3 (.lu 3 (.y (.ix (i:=1) (m:=4) (by decide) (.lt (i:=1) (n:=4) (by decide) (.ix (i:=0) (m:=4) (by decide) (.lt (i:=0) (n:=4) (by decide) (.c [.id 1] (mul_sp (s 0) (divF (s 1) (s 0)) (bs _) (divF_lt _ _)) (.g q4 (.y (.ix (i:=2) (m:=4) (by decide) (.lt (i:=2) (n:=4) (by decide) (.ix (i:=1) (m:=4) (by decide) (.lt (i:=1) (n:=4) (by decide) (.c [.id 1] (mul_sp (s 1) (divF (s 1) (s 0)) (bs _) (divF_lt _ _)) (.g q5 (.y (.ix (i:=3) (m:=4) (by decide) (.lt (i:=3) (n:=4) (by decide) (.ix (i:=2) (m:=4) (by decide) (.lt (i:=2) (n:=4) (by decide) (.c [.id 1] (mul_sp (s 2) (divF (s 1) (s 0)) (bs _) (divF_lt _ _)) (.g q6 (.n (.c [.id 1] (log_sp (divF (s 1) (s 0)) (divF_lt _ _)) (.g2 q7 (.g q7 (.t q8 (.c [] (lost_sp) .nil)))))))))))))))))))))))))))))))))
theorem locate_sp_3 (s:Nat->Nat) (bs:∀ j,s j < 256) (q1:(eqA (nf s) (fun _=>0) 4 0)=false) (q2:(decide (noI (s 0)=0))=true) (q3:(decide (((divF (s 1) (s 0):Nat):Int)=0))=false) (q4:(decide (((s 1:Nat):Int)=((mulF (s 0) (divF (s 1) (s 0)):Nat):Int)))=true) (q5:(decide (((s 2:Nat):Int)=((mulF (s 1) (divF (s 1) (s 0)):Nat):Int)))=true) (q6:(decide (((s 3:Nat):Int)=((mulF (s 2) (divF (s 1) (s 0)):Nat):Int)))=true) (q7:(decide (noI (divF (s 1) (s 0))=0))=true) (q8:(decide (39<=((logF (divF (s 1) (s 0)):Nat):Int)))=false) (q9:(decide (36<=((logF (divF (s 1) (s 0)):Nat):Int)))=true):Sp P 333 [.pt 0 0,.ar .u8 4 (nf s)] [.ro (.blk [.pt 1 0,.sl 2] 368),.ro (gF),.ro (.row eB gen)] (.ag [vn 2,vn (logF (divF (s 1) (s 0))),vb (s 0)]) [.ro (.blk [.pt 1 0,.sl 2] 368),.ro (gF),.ro (.row eB gen)] :=
 so Tryz.f333 8 (ir 0 3) (.t q1 (.c [.id 1] (div_sp (s 1) (s 0) (bs _) (bs _)) (.g2 q2 (.g q2 (.t q3 (.lu 3 (.y (.ix (i:=1) (m:=4) (by decide) (.lt (i:=1) (n:=4) (by decide) (.ix (i:=0) (m:=4) (by decide) (.lt (i:=0) (n:=4) (by decide) (.c [.id 1] (mul_sp (s 0) (divF (s 1) (s 0)) (bs _) (divF_lt _ _)) (.g q4 (.y (.ix (i:=2) (m:=4) (by decide) (.lt (i:=2) (n:=4) (by decide) (.ix (i:=1) (m:=4) (by decide) (.lt (i:=1) (n:=4) (by decide) (.c [.id 1] (mul_sp (s 1) (divF (s 1) (s 0)) (bs _) (divF_lt _ _)) (.g q5 (.y (.ix (i:=3) (m:=4) (by decide) (.lt (i:=3) (n:=4) (by decide) (.ix (i:=2) (m:=4) (by decide) (.lt (i:=2) (n:=4) (by decide) (.c [.id 1] (mul_sp (s 2) (divF (s 1) (s 0)) (bs _) (divF_lt _ _)) (.g q6 (.n (.c [.id 1] (log_sp (divF (s 1) (s 0)) (divF_lt _ _)) (.g2 q7 (.g q7 (.t q8 (.t q9 .nil)))))))))))))))))))))))))))))))))
theorem locate_sp_4 (s:Nat->Nat) (bs:∀ j,s j < 256) (q1:(eqA (nf s) (fun _=>0) 4 0)=false) (q2:(decide (noI (s 0)=0))=true) (q3:(decide (((divF (s 1) (s 0):Nat):Int)=0))=false) (q4:(decide (((s 1:Nat):Int)=((mulF (s 0) (divF (s 1) (s 0)):Nat):Int)))=true) (q5:(decide (((s 2:Nat):Int)=((mulF (s 1) (divF (s 1) (s 0)):Nat):Int)))=true) (q6:(decide (((s 3:Nat):Int)=((mulF (s 2) (divF (s 1) (s 0)):Nat):Int)))=true) (q7:(decide (noI (divF (s 1) (s 0))=0))=true) (q8:(decide (39<=((logF (divF (s 1) (s 0)):Nat):Int)))=false) (q9:(decide (36<=((logF (divF (s 1) (s 0)):Nat):Int)))=false):Sp P 333 [.pt 0 0,.ar .u8 4 (nf s)] [.ro (.blk [.pt 1 0,.sl 2] 368),.ro (gF),.ro (.row eB gen)] (.ag [vn 1,vn (logF (divF (s 1) (s 0))),vb (s 0)]) [.ro (.blk [.pt 1 0,.sl 2] 368),.ro (gF),.ro (.row eB gen)] :=
 so Tryz.f333 8 (ir 0 3) (.t q1 (.c [.id 1] (div_sp (s 1) (s 0) (bs _) (bs _)) (.g2 q2 (.g q2 (.t q3 (.lu 3 (.y (.ix (i:=1) (m:=4) (by decide) (.lt (i:=1) (n:=4) (by decide) (.ix (i:=0) (m:=4) (by decide) (.lt (i:=0) (n:=4) (by decide) (.c [.id 1] (mul_sp (s 0) (divF (s 1) (s 0)) (bs _) (divF_lt _ _)) (.g q4 (.y (.ix (i:=2) (m:=4) (by decide) (.lt (i:=2) (n:=4) (by decide) (.ix (i:=1) (m:=4) (by decide) (.lt (i:=1) (n:=4) (by decide) (.c [.id 1] (mul_sp (s 1) (divF (s 1) (s 0)) (bs _) (divF_lt _ _)) (.g q5 (.y (.ix (i:=3) (m:=4) (by decide) (.lt (i:=3) (n:=4) (by decide) (.ix (i:=2) (m:=4) (by decide) (.lt (i:=2) (n:=4) (by decide) (.c [.id 1] (mul_sp (s 2) (divF (s 1) (s 0)) (bs _) (divF_lt _ _)) (.g q6 (.n (.c [.id 1] (log_sp (divF (s 1) (s 0)) (divF_lt _ _)) (.g2 q7 (.g q7 (.t q8 (.t q9 .nil)))))))))))))))))))))))))))))))))
theorem locate_sp_5 (s:Nat->Nat) (bs:∀ j,s j < 256) (q1:(eqA (nf s) (fun _=>0) 4 0)=false) (q2:(decide (noI (s 0)=0))=true) (q3:(decide (((divF (s 1) (s 0):Nat):Int)=0))=false) (q4:(decide (((s 1:Nat):Int)=((mulF (s 0) (divF (s 1) (s 0)):Nat):Int)))=true) (q5:(decide (((s 2:Nat):Int)=((mulF (s 1) (divF (s 1) (s 0)):Nat):Int)))=true) (q6:(decide (((s 3:Nat):Int)=((mulF (s 2) (divF (s 1) (s 0)):Nat):Int)))=true) (q7:(decide (noI (divF (s 1) (s 0))=0))=false):Sp P 333 [.pt 0 0,.ar .u8 4 (nf s)] [.ro (.blk [.pt 1 0,.sl 2] 368),.ro (gF),.ro (.row eB gen)] (.ag [vn 3,vi (-1),vb 0]) [.ro (.blk [.pt 1 0,.sl 2] 368),.ro (gF),.ro (.row eB gen)] :=
 so Tryz.f333 8 (ir 0 3) (.t q1 (.c [.id 1] (div_sp (s 1) (s 0) (bs _) (bs _)) (.g2 q2 (.g q2 (.t q3 (.lu 3 (.y (.ix (i:=1) (m:=4) (by decide) (.lt (i:=1) (n:=4) (by decide) (.ix (i:=0) (m:=4) (by decide) (.lt (i:=0) (n:=4) (by decide) (.c [.id 1] (mul_sp (s 0) (divF (s 1) (s 0)) (bs _) (divF_lt _ _)) (.g q4 (.y (.ix (i:=2) (m:=4) (by decide) (.lt (i:=2) (n:=4) (by decide) (.ix (i:=1) (m:=4) (by decide) (.lt (i:=1) (n:=4) (by decide) (.c [.id 1] (mul_sp (s 1) (divF (s 1) (s 0)) (bs _) (divF_lt _ _)) (.g q5 (.y (.ix (i:=3) (m:=4) (by decide) (.lt (i:=3) (n:=4) (by decide) (.ix (i:=2) (m:=4) (by decide) (.lt (i:=2) (n:=4) (by decide) (.c [.id 1] (mul_sp (s 2) (divF (s 1) (s 0)) (bs _) (divF_lt _ _)) (.g q6 (.n (.c [.id 1] (log_sp (divF (s 1) (s 0)) (divF_lt _ _)) (.g2 q7 (.g q7 (.y (.c [] (lost_sp) .nil)))))))))))))))))))))))))))))))))
theorem locate_sp_6 (s:Nat->Nat) (bs:∀ j,s j < 256) (q1:(eqA (nf s) (fun _=>0) 4 0)=false) (q2:(decide (noI (s 0)=0))=true) (q3:(decide (((divF (s 1) (s 0):Nat):Int)=0))=false) (q4:(decide (((s 1:Nat):Int)=((mulF (s 0) (divF (s 1) (s 0)):Nat):Int)))=true) (q5:(decide (((s 2:Nat):Int)=((mulF (s 1) (divF (s 1) (s 0)):Nat):Int)))=true) (q6:(decide (((s 3:Nat):Int)=((mulF (s 2) (divF (s 1) (s 0)):Nat):Int)))=false):Sp P 333 [.pt 0 0,.ar .u8 4 (nf s)] [.ro (.blk [.pt 1 0,.sl 2] 368),.ro (gF),.ro (.row eB gen)] (.ag [vn 3,vi (-1),vb 0]) [.ro (.blk [.pt 1 0,.sl 2] 368),.ro (gF),.ro (.row eB gen)] :=
 so Tryz.f333 8 (ir 0 3) (.t q1 (.c [.id 1] (div_sp (s 1) (s 0) (bs _) (bs _)) (.g2 q2 (.g q2 (.t q3 (.lu 2 (.y (.ix (i:=1) (m:=4) (by decide) (.lt (i:=1) (n:=4) (by decide) (.ix (i:=0) (m:=4) (by decide) (.lt (i:=0) (n:=4) (by decide) (.c [.id 1] (mul_sp (s 0) (divF (s 1) (s 0)) (bs _) (divF_lt _ _)) (.g q4 (.y (.ix (i:=2) (m:=4) (by decide) (.lt (i:=2) (n:=4) (by decide) (.ix (i:=1) (m:=4) (by decide) (.lt (i:=1) (n:=4) (by decide) (.c [.id 1] (mul_sp (s 1) (divF (s 1) (s 0)) (bs _) (divF_lt _ _)) (.g q5 (.y (.ix (i:=3) (m:=4) (by decide) (.lt (i:=3) (n:=4) (by decide) (.ix (i:=2) (m:=4) (by decide) (.lt (i:=2) (n:=4) (by decide) (.c [.id 1] (mul_sp (s 2) (divF (s 1) (s 0)) (bs _) (divF_lt _ _)) (.g q6 (.c [] (lost_sp) .nil))))))))))))))))))))))))))))
theorem locate_sp_7 (s:Nat->Nat) (bs:∀ j,s j < 256) (q1:(eqA (nf s) (fun _=>0) 4 0)=false) (q2:(decide (noI (s 0)=0))=true) (q3:(decide (((divF (s 1) (s 0):Nat):Int)=0))=false) (q4:(decide (((s 1:Nat):Int)=((mulF (s 0) (divF (s 1) (s 0)):Nat):Int)))=true) (q5:(decide (((s 2:Nat):Int)=((mulF (s 1) (divF (s 1) (s 0)):Nat):Int)))=false):Sp P 333 [.pt 0 0,.ar .u8 4 (nf s)] [.ro (.blk [.pt 1 0,.sl 2] 368),.ro (gF),.ro (.row eB gen)] (.ag [vn 3,vi (-1),vb 0]) [.ro (.blk [.pt 1 0,.sl 2] 368),.ro (gF),.ro (.row eB gen)] :=
 so Tryz.f333 7 (ir 0 3) (.t q1 (.c [.id 1] (div_sp (s 1) (s 0) (bs _) (bs _)) (.g2 q2 (.g q2 (.t q3 (.lu 1 (.y (.ix (i:=1) (m:=4) (by decide) (.lt (i:=1) (n:=4) (by decide) (.ix (i:=0) (m:=4) (by decide) (.lt (i:=0) (n:=4) (by decide) (.c [.id 1] (mul_sp (s 0) (divF (s 1) (s 0)) (bs _) (divF_lt _ _)) (.g q4 (.y (.ix (i:=2) (m:=4) (by decide) (.lt (i:=2) (n:=4) (by decide) (.ix (i:=1) (m:=4) (by decide) (.lt (i:=1) (n:=4) (by decide) (.c [.id 1] (mul_sp (s 1) (divF (s 1) (s 0)) (bs _) (divF_lt _ _)) (.g q5 (.c [] (lost_sp) .nil)))))))))))))))))))))
theorem locate_sp_8 (s:Nat->Nat) (bs:∀ j,s j < 256) (q1:(eqA (nf s) (fun _=>0) 4 0)=false) (q2:(decide (noI (s 0)=0))=true) (q3:(decide (((divF (s 1) (s 0):Nat):Int)=0))=false) (q4:(decide (((s 1:Nat):Int)=((mulF (s 0) (divF (s 1) (s 0)):Nat):Int)))=false):Sp P 333 [.pt 0 0,.ar .u8 4 (nf s)] [.ro (.blk [.pt 1 0,.sl 2] 368),.ro (gF),.ro (.row eB gen)] (.ag [vn 3,vi (-1),vb 0]) [.ro (.blk [.pt 1 0,.sl 2] 368),.ro (gF),.ro (.row eB gen)] :=
 so Tryz.f333 6 (ir 0 3) (.t q1 (.c [.id 1] (div_sp (s 1) (s 0) (bs _) (bs _)) (.g2 q2 (.g q2 (.t q3 (.lu 0 (.y (.ix (i:=1) (m:=4) (by decide) (.lt (i:=1) (n:=4) (by decide) (.ix (i:=0) (m:=4) (by decide) (.lt (i:=0) (n:=4) (by decide) (.c [.id 1] (mul_sp (s 0) (divF (s 1) (s 0)) (bs _) (divF_lt _ _)) (.g q4 (.c [] (lost_sp) .nil))))))))))))))
theorem locate_sp_9 (s:Nat->Nat) (bs:∀ j,s j < 256) (q1:(eqA (nf s) (fun _=>0) 4 0)=false) (q2:(decide (noI (s 0)=0))=false):Sp P 333 [.pt 0 0,.ar .u8 4 (nf s)] [.ro (.blk [.pt 1 0,.sl 2] 368),.ro (gF),.ro (.row eB gen)] (.ag [vn 3,vi (-1),vb 0]) [.ro (.blk [.pt 1 0,.sl 2] 368),.ro (gF),.ro (.row eB gen)] :=
 so Tryz.f333 5 (ir 0 3) (.t q1 (.c [.id 1] (div_sp (s 1) (s 0) (bs _) (bs _)) (.g2 q2 (.g q2 (.y (.c [] (lost_sp) .nil))))))
theorem locate_sp (s:Nat->Nat) (bs:∀ j,s j < 256):Sp P 333 [.pt 0 0,.ar .u8 4 (nf s)] [.ro (.blk [.pt 1 0,.sl 2] 368),.ro (gF),.ro (.row eB gen)] (.ag [vn (lkind s),vi (lplace s),vb (lval s)]) [.ro (.blk [.pt 1 0,.sl 2] 368),.ro (gF),.ro (.row eB gen)]:=by
 cases q1:(eqA (nf s) (fun _=>0) 4 0) with
 | true =>
   have e:(lkind s)=0:=by (first | unfold lkind | unfold lplace | unfold lval); generalize divF (s 1) (s 0)=r at *; simp_all [loneR,noI,nf,Int.ofNat_inj,lk_a,lk_b,lk_c,lk_d]; try omega
   rw [e]
   have e:(lplace s)=(-1):=by (first | unfold lkind | unfold lplace | unfold lval); generalize divF (s 1) (s 0)=r at *; simp_all [loneR,noI,nf,Int.ofNat_inj,lk_a,lk_b,lk_c,lk_d]; try omega
   rw [e]
   have e:(lval s)=0:=by (first | unfold lkind | unfold lplace | unfold lval); generalize divF (s 1) (s 0)=r at *; simp_all [loneR,noI,nf,Int.ofNat_inj,lk_a,lk_b,lk_c,lk_d]; try omega
   rw [e]
   exact locate_sp_0 s bs q1
 | false =>
   cases q2:decide (noI (s 0)=0) with
   | true =>
     cases q3:decide (((divF (s 1) (s 0):Nat):Int)=0) with
     | true =>
       have e:(lkind s)=3:=by (first | unfold lkind | unfold lplace | unfold lval); generalize divF (s 1) (s 0)=r at *; simp_all [loneR,noI,nf,Int.ofNat_inj,lk_a,lk_b,lk_c,lk_d]; try omega
       rw [e]
       have e:(lplace s)=(-1):=by (first | unfold lkind | unfold lplace | unfold lval); generalize divF (s 1) (s 0)=r at *; simp_all [loneR,noI,nf,Int.ofNat_inj,lk_a,lk_b,lk_c,lk_d]; try omega
       rw [e]
       have e:(lval s)=0:=by (first | unfold lkind | unfold lplace | unfold lval); generalize divF (s 1) (s 0)=r at *; simp_all [loneR,noI,nf,Int.ofNat_inj,lk_a,lk_b,lk_c,lk_d]; try omega
       rw [e]
       exact locate_sp_1 s bs q1 q2 q3
     | false =>
       cases q4:decide (((s 1:Nat):Int)=((mulF (s 0) (divF (s 1) (s 0)):Nat):Int)) with
       | true =>
         cases q5:decide (((s 2:Nat):Int)=((mulF (s 1) (divF (s 1) (s 0)):Nat):Int)) with
         | true =>
           cases q6:decide (((s 3:Nat):Int)=((mulF (s 2) (divF (s 1) (s 0)):Nat):Int)) with
           | true =>
             cases q7:decide (noI (divF (s 1) (s 0))=0) with
             | true =>
               cases q8:decide (39<=((logF (divF (s 1) (s 0)):Nat):Int)) with
               | true =>
                 have e:(lkind s)=3:=by (first | unfold lkind | unfold lplace | unfold lval); generalize divF (s 1) (s 0)=r at *; simp_all [loneR,noI,nf,Int.ofNat_inj,lk_a,lk_b,lk_c,lk_d]; try omega
                 rw [e]
                 have e:(lplace s)=(-1):=by (first | unfold lkind | unfold lplace | unfold lval); generalize divF (s 1) (s 0)=r at *; simp_all [loneR,noI,nf,Int.ofNat_inj,lk_a,lk_b,lk_c,lk_d]; try omega
                 rw [e]
                 have e:(lval s)=0:=by (first | unfold lkind | unfold lplace | unfold lval); generalize divF (s 1) (s 0)=r at *; simp_all [loneR,noI,nf,Int.ofNat_inj,lk_a,lk_b,lk_c,lk_d]; try omega
                 rw [e]
                 exact locate_sp_2 s bs q1 q2 q3 q4 q5 q6 q7 q8
               | false =>
                 cases q9:decide (36<=((logF (divF (s 1) (s 0)):Nat):Int)) with
                 | true =>
                   have e:(lkind s)=2:=by (first | unfold lkind | unfold lplace | unfold lval); generalize divF (s 1) (s 0)=r at *; simp_all [loneR,noI,nf,Int.ofNat_inj,lk_a,lk_b,lk_c,lk_d]; try omega
                   rw [e]
                   have e:(lplace s)=((logF (divF (s 1) (s 0)):Nat):Int):=by (first | unfold lkind | unfold lplace | unfold lval); generalize divF (s 1) (s 0)=r at *; simp_all [loneR,noI,nf,Int.ofNat_inj,lk_a,lk_b,lk_c,lk_d]; try omega
                   rw [e]
                   have e:(lval s)=(s 0):=by (first | unfold lkind | unfold lplace | unfold lval); generalize divF (s 1) (s 0)=r at *; simp_all [loneR,noI,nf,Int.ofNat_inj,lk_a,lk_b,lk_c,lk_d]; try omega
                   rw [e]
                   exact locate_sp_3 s bs q1 q2 q3 q4 q5 q6 q7 q8 q9
                 | false =>
                   have e:(lkind s)=1:=by (first | unfold lkind | unfold lplace | unfold lval); generalize divF (s 1) (s 0)=r at *; simp_all [loneR,noI,nf,Int.ofNat_inj,lk_a,lk_b,lk_c,lk_d]; try omega
                   rw [e]
                   have e:(lplace s)=((logF (divF (s 1) (s 0)):Nat):Int):=by (first | unfold lkind | unfold lplace | unfold lval); generalize divF (s 1) (s 0)=r at *; simp_all [loneR,noI,nf,Int.ofNat_inj,lk_a,lk_b,lk_c,lk_d]; try omega
                   rw [e]
                   have e:(lval s)=(s 0):=by (first | unfold lkind | unfold lplace | unfold lval); generalize divF (s 1) (s 0)=r at *; simp_all [loneR,noI,nf,Int.ofNat_inj,lk_a,lk_b,lk_c,lk_d]; try omega
                   rw [e]
                   exact locate_sp_4 s bs q1 q2 q3 q4 q5 q6 q7 q8 q9
             | false =>
               have e:(lkind s)=3:=by (first | unfold lkind | unfold lplace | unfold lval); generalize divF (s 1) (s 0)=r at *; simp_all [loneR,noI,nf,Int.ofNat_inj,lk_a,lk_b,lk_c,lk_d]; try omega
               rw [e]
               have e:(lplace s)=(-1):=by (first | unfold lkind | unfold lplace | unfold lval); generalize divF (s 1) (s 0)=r at *; simp_all [loneR,noI,nf,Int.ofNat_inj,lk_a,lk_b,lk_c,lk_d]; try omega
               rw [e]
               have e:(lval s)=0:=by (first | unfold lkind | unfold lplace | unfold lval); generalize divF (s 1) (s 0)=r at *; simp_all [loneR,noI,nf,Int.ofNat_inj,lk_a,lk_b,lk_c,lk_d]; try omega
               rw [e]
               exact locate_sp_5 s bs q1 q2 q3 q4 q5 q6 q7
           | false =>
             have e:(lkind s)=3:=by (first | unfold lkind | unfold lplace | unfold lval); generalize divF (s 1) (s 0)=r at *; simp_all [loneR,noI,nf,Int.ofNat_inj,lk_a,lk_b,lk_c,lk_d]; try omega
             rw [e]
             have e:(lplace s)=(-1):=by (first | unfold lkind | unfold lplace | unfold lval); generalize divF (s 1) (s 0)=r at *; simp_all [loneR,noI,nf,Int.ofNat_inj,lk_a,lk_b,lk_c,lk_d]; try omega
             rw [e]
             have e:(lval s)=0:=by (first | unfold lkind | unfold lplace | unfold lval); generalize divF (s 1) (s 0)=r at *; simp_all [loneR,noI,nf,Int.ofNat_inj,lk_a,lk_b,lk_c,lk_d]; try omega
             rw [e]
             exact locate_sp_6 s bs q1 q2 q3 q4 q5 q6
         | false =>
           have e:(lkind s)=3:=by (first | unfold lkind | unfold lplace | unfold lval); generalize divF (s 1) (s 0)=r at *; simp_all [loneR,noI,nf,Int.ofNat_inj,lk_a,lk_b,lk_c,lk_d]; try omega
           rw [e]
           have e:(lplace s)=(-1):=by (first | unfold lkind | unfold lplace | unfold lval); generalize divF (s 1) (s 0)=r at *; simp_all [loneR,noI,nf,Int.ofNat_inj,lk_a,lk_b,lk_c,lk_d]; try omega
           rw [e]
           have e:(lval s)=0:=by (first | unfold lkind | unfold lplace | unfold lval); generalize divF (s 1) (s 0)=r at *; simp_all [loneR,noI,nf,Int.ofNat_inj,lk_a,lk_b,lk_c,lk_d]; try omega
           rw [e]
           exact locate_sp_7 s bs q1 q2 q3 q4 q5
       | false =>
         have e:(lkind s)=3:=by (first | unfold lkind | unfold lplace | unfold lval); generalize divF (s 1) (s 0)=r at *; simp_all [loneR,noI,nf,Int.ofNat_inj,lk_a,lk_b,lk_c,lk_d]; try omega
         rw [e]
         have e:(lplace s)=(-1):=by (first | unfold lkind | unfold lplace | unfold lval); generalize divF (s 1) (s 0)=r at *; simp_all [loneR,noI,nf,Int.ofNat_inj,lk_a,lk_b,lk_c,lk_d]; try omega
         rw [e]
         have e:(lval s)=0:=by (first | unfold lkind | unfold lplace | unfold lval); generalize divF (s 1) (s 0)=r at *; simp_all [loneR,noI,nf,Int.ofNat_inj,lk_a,lk_b,lk_c,lk_d]; try omega
         rw [e]
         exact locate_sp_8 s bs q1 q2 q3 q4
   | false =>
     have e:(lkind s)=3:=by (first | unfold lkind | unfold lplace | unfold lval); generalize divF (s 1) (s 0)=r at *; simp_all [loneR,noI,nf,Int.ofNat_inj,lk_a,lk_b,lk_c,lk_d]; try omega
     rw [e]
     have e:(lplace s)=(-1):=by (first | unfold lkind | unfold lplace | unfold lval); generalize divF (s 1) (s 0)=r at *; simp_all [loneR,noI,nf,Int.ofNat_inj,lk_a,lk_b,lk_c,lk_d]; try omega
     rw [e]
     have e:(lval s)=0:=by (first | unfold lkind | unfold lplace | unfold lval); generalize divF (s 1) (s 0)=r at *; simp_all [loneR,noI,nf,Int.ofNat_inj,lk_a,lk_b,lk_c,lk_d]; try omega
     rw [e]
     exact locate_sp_9 s bs q1 q2
def rsfix (w v:Nat->Nat) (j:Nat):Nat:=if lkind (syF w v)=1∧4 + j=(lplace (syF w v)).toNat then xr (w (4 + j)) (lval (syF w v)) else w (4 + j)
theorem rsfix_lt {w v:Nat->Nat} (hw:∀ j,w j < 256) (hv:∀ j,v j < 256) (j:Nat):rsfix w v j < 256:=by
 unfold rsfix; split
 ·exact xr_lt (hw _) (lval_lt (syF_lt hw hv))
 ·exact hw _
theorem tu_den {a a' c:V} (h:V.den ρN a=V.den ρN a'):V.den ρN (.tu [a,c])=V.den ρN (.tu [a',c]):=by simp only [V.den,V.dens,h]
theorem rsdecode_0 (w:Nat->Nat) (v:Nat->Nat) (hw:∀ j,w j < 256) (hv:∀ j,v j < 256) (q:decide (((lkind (syF w v):Nat):Int)=1)=false):Sp P 314 [.pt 0 0,.ar .u8 36 (nf w),.ar .u8 3 (nf v)] [.ro (.blk [.pt 1 0,.sl 2] 368),.ro (gF),.ro (.row eB gen)] (.tu [.ar .u8 32 (nf (fun j=>w (4 + j))),.ag [vn (lkind (syF w v)),vi (lplace (syF w v)),vb (lval (syF w v))]]) [.ro (.blk [.pt 1 0,.sl 2] 368),.ro (gF),.ro (.row eB gen)] :=
 so Tryz.f314 9 (ir 0 3) (.c (ir 0 3) (syndromes_sp w v (by first | assumption | omega) (by first | assumption | omega)) (.c (ir 0 3) (locate_sp (syF w v) (syF_lt hw hv)) (.t q (.sl (i:=4) (n:=32) (m:=36) (by decide) .nil))))
theorem rsdecode_1 (w:Nat->Nat) (v:Nat->Nat) (hw:∀ j,w j < 256) (hv:∀ j,v j < 256) (q:decide (((lkind (syF w v):Nat):Int)=1)=true):Sp P 314 [.pt 0 0,.ar .u8 36 (nf w),.ar .u8 3 (nf v)] [.ro (.blk [.pt 1 0,.sl 2] 368),.ro (gF),.ro (.row eB gen)] (.tu [.ar .u8 32 (fun i=>upI (nf w) (lplace (syF w v)).toNat ((xr (w (lplace (syF w v)).toNat) (lval (syF w v)):Nat):Int) (4 + i)),.ag [vn (lkind (syF w v)),vi (lplace (syF w v)),vb (lval (syF w v))]]) [.ro (.blk [.pt 1 0,.sl 2] 368),.ro (gF),.ro (.row eB gen)] :=
 so Tryz.f314 10 (ir 0 3) (.c (ir 0 3) (syndromes_sp w v (by first | assumption | omega) (by first | assumption | omega)) (.c (ir 0 3) (locate_sp (syF w v) (syF_lt hw hv)) (.t q (.ix (n:=lplace (syF w v)) (i:=(lplace (syF w v)).toNat) (m:=36) (e:=(by have:=lplace_ok (s:=(syF w v)) (by have:=of_decide_eq_true q; omega); omega)) (by have:=lplace_ok (s:=(syF w v)) (by have:=of_decide_eq_true q; omega); omega) (.lt (i:=(lplace (syF w v)).toNat) (n:=36) (by have:=lplace_ok (s:=(syF w v)) (by have:=of_decide_eq_true q; omega); omega) (.e 24 (bXor (w (lplace (syF w v)).toNat) (lval (syF w v)) (hw _) (lval_lt (syF_lt hw hv))) (.ix (n:=lplace (syF w v)) (i:=(lplace (syF w v)).toNat) (m:=36) (e:=(by have:=lplace_ok (s:=(syF w v)) (by have:=of_decide_eq_true q; omega); omega)) (by have:=lplace_ok (s:=(syF w v)) (by have:=of_decide_eq_true q; omega); omega) (.lt (i:=(lplace (syF w v)).toNat) (n:=36) (by have:=lplace_ok (s:=(syF w v)) (by have:=of_decide_eq_true q; omega); omega) (.sl (i:=4) (n:=32) (m:=36) (by decide) .nil)))))))))
theorem rsdecode_sp (w v:Nat->Nat) (hw:∀ j,w j < 256) (hv:∀ j,v j < 256):Sp P 314 [.pt 0 0,.ar .u8 36 (nf w),.ar .u8 3 (nf v)] [.ro (.blk [.pt 1 0,.sl 2] 368),.ro (gF),.ro (.row eB gen)] (.tu [.ar .u8 32 (nf (rsfix w v)),.ag [vn (lkind (syF w v)),vi (lplace (syF w v)),vb (lval (syF w v))]]) [.ro (.blk [.pt 1 0,.sl 2] 368),.ro (gF),.ro (.row eB gen)]:=by
 cases q:decide (((lkind (syF w v):Nat):Int)=1) with
 | true =>
   refine (rsdecode_1 w v hw hv q).resE (tu_den (ar_den fun j hj=>?_)) rfl rfl rfl
   have hk:lkind (syF w v)=1:=by have:=of_decide_eq_true q; omega
   unfold upI nf rsfix
   by_cases h:4 + j=(lplace (syF w v)).toNat
   ·rw [if_pos h,if_pos ⟨hk,h⟩,← h]
   ·rw [if_neg h,if_neg (fun h2=>h h2.2)]
 | false =>
   refine (rsdecode_0 w v hw hv q).resE (tu_den (ar_den fun j hj=>?_)) rfl rfl rfl
   have hk:¬ lkind (syF w v)=1:=by have:=of_decide_eq_false q; omega
   unfold nf rsfix
   rw [if_neg (fun h2=>hk h2.1)]
end Go.Proofs.YtfhiggfmkjmeiaaGreat
