import Derived.Test.YtfhiggfmkjmeiaaGreatFJue
import Derived.Test.YtfhiggfmkjmeiaaGreatFFlu
set_option linter.all false
namespace Go.Proofs.YtfhiggfmkjmeiaaGreat
open Go Go.RowKit
set_option maxRecDepth 100000
def Jx (m:Int) (b:Int):Int:=bif decide (m=1) then (Ot b) else (Sb b)
def A1o (m:Int) (b:Int):Int:=bif decide (m=1) then (M8 b) else (Je b)
def Jy (m:Int) (b:Int):Nat:=bif decide (m=1) then (Ih b) else (He b)
theorem Nj (m:Int) (b:Int) (hm:m=1 ∨ m=2) :Sp P 219 [vi m,vi b] [] (.tu [vi (Jx m b),vi (A1o m b),vn (Jy m b)]) []:=by
 rcases hm with rfl | rfl
 ·simp only [Jx,A1o,Jy,show decide ((1:Int)=1)=true from rfl,cond_true]; exact Eq.mp (by kernel_rfl) (A1m b )
 ·simp only [Jx,A1o,Jy,show decide ((2:Int)=1)=false from rfl,cond_false]; exact Eq.mp (by kernel_rfl) (A1n b )
def Gg (m:Int) (f:Flt):Int:=bif decide (m=1) then (Ox f) else (Mg f)
theorem Q6 (m:Int) (f:Flt) (hm:m=1 ∨ m=2) :Sp P 218 [.ag [vi f.kind,vi f.rank,vi f.bank,vi f.row,vi f.col,vi f.chip,vi f.bit,vi f.value],vi m] [] (vi (Gg m f)) []:=by
 rcases hm with rfl | rfl
 ·simp only [Gg,show decide ((1:Int)=1)=true from rfl,cond_true]; exact Eq.mp (by kernel_rfl) (Are f )
 ·simp only [Gg,show decide ((2:Int)=1)=false from rfl,cond_false]; exact Eq.mp (by kernel_rfl) (Arf f )
def I8 (m:Int) (a:Flt) (b:Flt):Bool:=bif decide (m=2) then (bif decide (0<=(Gg m a)) then (bif decide (0<=(Gg m b)) then (bif decide (a.rank=b.rank) then (!(decide ((Gg m a)=(Gg m b)))) else false) else false) else false) else (bif (Bo a) then (bif (Bo b) then (bif decide ((((Jy m a.bit):Nat):Int)=0) then (bif decide ((((Jy m b.bit):Nat):Int)=0) then (bif ((decide (a.rank=b.rank)) && ((decide (a.bank=b.bank)) && ((decide (a.row=b.row)) && ((decide (a.col=b.col)) && true)))) then (bif decide ((Jx m a.bit)=(Jx m b.bit)) then (!(decide (a.bit=b.bit))) else false) else false) else false) else false) else false) else false)
theorem P8 (m : Int) (a : Flt) (b : Flt) (hm : m = 1 ∨ m = 2) : Sp P 166 [vi m, .ag [vi a.kind, vi a.rank, vi a.bank, vi a.row, vi a.col, vi a.chip, vi a.bit, vi a.value], .ag [vi b.kind, vi b.rank, vi b.bank, vi b.row, vi b.col, vi b.chip, vi b.bit, vi b.value]] [] (vt (I8 m a b)) [] := by
 generalize d0:I8 m a b=yd0
 unfold I8 at d0
 rcases bft (decide (m=2)) with q1 | q1
 ·rw [A2 q1] at d0
  rcases bft (decide (0<=(Gg m a))) with q2 | q2
  ·rw [A2 q2] at d0
   rcases bft (decide (0<=(Gg m b))) with q3 | q3
   ·rw [A2 q3] at d0
    rcases bft (decide (a.rank=b.rank)) with q4 | q4
    ·rw [A2 q4] at d0
     subst d0
     exact so Tryz.f166 6 [] (.t q1 (.c [] (Q6 m a hm) (.c [] (Q6 m b hm) (.t2 q2 (.t q2 (.t4 q3 (.t4 q3 (.t4 q4 .nil))))))))
    ·rw [A1 q4] at d0
     subst d0
     exact so Tryz.f166 6 [] (.t q1 (.c [] (Q6 m a hm) (.c [] (Q6 m b hm) (.t2 q2 (.t q2 (.t4 q3 (.t4 q3 (.t4 q4 .nil))))))))
   ·rw [A1 q3] at d0
    subst d0
    exact so Tryz.f166 6 [] (.t q1 (.c [] (Q6 m a hm) (.c [] (Q6 m b hm) (.t2 q2 (.t q2 (.t4 q3 (.t4 q3 (.n4 .nil))))))))
  ·rw [A1 q2] at d0
   subst d0
   exact so Tryz.f166 6 [] (.t q1 (.c [] (Q6 m a hm) (.c [] (Q6 m b hm) (.t2 q2 (.t q2 (.n8 (.n4 .nil)))))))
 ·rw [A1 q1] at d0
  rcases bft (Bo a) with q2 | q2
  ·rw [A2 q2] at d0
   rcases bft (Bo b) with q3 | q3
   ·rw [A2 q3] at d0
    rcases bft (decide ((((Jy m a.bit):Nat):Int)=0)) with q4 | q4
    ·rw [A2 q4] at d0
     rcases bft (decide ((((Jy m b.bit):Nat):Int)=0)) with q5 | q5
     ·rw [A2 q5] at d0
      rcases bft ((decide (a.rank=b.rank)) && ((decide (a.bank=b.bank)) && ((decide (a.row=b.row)) && ((decide (a.col=b.col)) && true)))) with q6 | q6
      ·rw [A2 q6] at d0
       rcases bft (decide ((Jx m a.bit)=(Jx m b.bit))) with q7 | q7
       ·rw [A2 q7] at d0
        subst d0
        exact so Tryz.f166 4 [] (.t q1 (.c [] (Nj m a.bit hm) (.c [] (Nj m b.bit hm) (.c [] (Im a) (.t2 q2 (.c [] (Im b) (.t q2 (.t2 q3 (.t q3 (.t2 q4 (.t q4 (.t4 q5 (.t2 q5 (.t4 q6 (.t4 q7 (.t2 q7 .nil))))))))))))))))
       ·rw [A1 q7] at d0
        subst d0
        exact so Tryz.f166 4 [] (.t q1 (.c [] (Nj m a.bit hm) (.c [] (Nj m b.bit hm) (.c [] (Im a) (.t2 q2 (.c [] (Im b) (.t q2 (.t2 q3 (.t q3 (.t2 q4 (.t q4 (.t4 q5 (.t2 q5 (.t4 q6 (.t4 q7 (.t2 q7 .nil))))))))))))))))
      ·rw [A1 q6] at d0
       subst d0
       exact so Tryz.f166 4 [] (.t q1 (.c [] (Nj m a.bit hm) (.c [] (Nj m b.bit hm) (.c [] (Im a) (.t2 q2 (.c [] (Im b) (.t q2 (.t2 q3 (.t q3 (.t2 q4 (.t q4 (.t4 q5 (.t2 q5 (.t4 q6 (.n4 (.n2 .nil))))))))))))))))
     ·rw [A1 q5] at d0
      subst d0
      exact so Tryz.f166 4 [] (.t q1 (.c [] (Nj m a.bit hm) (.c [] (Nj m b.bit hm) (.c [] (Im a) (.t2 q2 (.c [] (Im b) (.t q2 (.t2 q3 (.t q3 (.t2 q4 (.t q4 (.t4 q5 (.t2 q5 (.n8 (.n2 .nil)))))))))))))))
    ·rw [A1 q4] at d0
     subst d0
     exact so Tryz.f166 4 [] (.t q1 (.c [] (Nj m a.bit hm) (.c [] (Nj m b.bit hm) (.c [] (Im a) (.t2 q2 (.c [] (Im b) (.t q2 (.t2 q3 (.t q3 (.t2 q4 (.t q4 (.n8 (.n8 .nil)))))))))))))
   ·rw [A1 q3] at d0
    subst d0
    exact so Tryz.f166 4 [] (.t q1 (.c [] (Nj m a.bit hm) (.c [] (Nj m b.bit hm) (.c [] (Im a) (.t2 q2 (.c [] (Im b) (.t q2 (.t2 q3 (.t q3 (.n8 (.n8 (.n2 (.n .nil)))))))))))))
  ·rw [A1 q2] at d0
   subst d0
   exact so Tryz.f166 4 [] (.t q1 (.c [] (Nj m a.bit hm) (.c [] (Nj m b.bit hm) (.c [] (Im a) (.t2 q2 (.t q2 (.n8 (.n8 (.n4 (.n2 .nil))))))))))
def inT (l:List Inj):Nat->List Inj
 | 0=>[]
 | n + 1=>inT l n ++ [l.getD n Aa]
theorem Amn (l:List Inj):∀ n,n<=l.length->inT l n=l.take n
 | 0,_=>rfl
 | n + 1,h=>by rw [inT,Amn l n (by omega),List.take_add_one,List.getElem?_eq_getElem (by omega),List.getD_eq_getElem?_getD,List.getElem?_eq_getElem (by omega)]; rfl
theorem Ask (l:List Inj):inT l l.length=l:=by rw [Amn l _ (Nat.le_refl _),List.take_length]
theorem Afh (l:List Inj):∀ n,(inT l n).length=n
 | 0=>rfl
 | n + 1=>by rw [inT,List.length_append,Afh l n]; rfl
theorem Avz (l:List Inj) (hl:l.length<=100000000):Sp P 217 [A64,.fn (.func 210) [] [.pt 1 0]] [.ro (.row Dw l),.ro (.blk [.sl 0] 168)] (.sl 2) [.ro (.row Dw l),.ro (.blk [.sl 0] 168),.row Dw (inT l l.length)] :=
 so Tryz.f217 10 [.id 0,.id 1,.id 6] (.lp l.length 7 [(6,.nil)] [(6,.id 10)] (fun i=>[(7,vn i)]) (fun i=>[(3,.blk [.sl 6] 168),(4,.lo .ready none),(6,.row Dw (inT l i))]) (fun i hi=>(.t (sQT ((i:Int) < (l.length:Int)) (by omega)) (.ix (i:=i) (m:=l.length) (by omega) (.el (e:=Dw) (gDx (l:=l) (i:=i) Aa (by omega)) (.ap (e:=Dw) (l:=inT l i) (l':=[(l.getD i Aa)]) .row (.flat [vi (l.getD i Aa).f.kind,vi (l.getD i Aa).f.rank,vi (l.getD i Aa).f.bank,vi (l.getD i Aa).f.row,vi (l.getD i Aa).f.col,vi (l.getD i Aa).f.chip,vi (l.getD i Aa).f.bit,vi (l.getD i Aa).f.value,vi (l.getD i Aa).scrubs,vi (l.getD i Aa).access] [(l.getD i Aa)] rfl) (by rw [Afh]; simp only [List.length_cons,List.length_nil]; omega) (.n (.e 15 (Ck (a:=(i:Int)) (b:=1) (c:=((i + 1:Nat):Int)) (by omega)) .nil))))))) (.t (sQF ((l.length:Int) < (l.length:Int)) (by omega)) .nil))
theorem Aqs (l:List Inj) (hl:l.length<=100000000):Sp P 217 [A64,.fn (.func 210) [] [.pt 1 0]] [.ro (.row Dw l),.ro (.blk [.sl 0] 168)] (.sl 2) [.ro (.row Dw l),.ro (.blk [.sl 0] 168),.row Dw l]:=by
 have h:=Avz l hl
 rw [Ask] at h
 exact h
theorem A4m (l:List Inj) (hl:l.length<=100000000):Sp P 164 [.fn (.func 210) [] [.pt 1 0]] [.ro (.row Dw l),.ro (.blk [.sl 0] 168)] (.sl 2) [.ro (.row Dw l),.ro (.blk [.sl 0] 168),.row Dw l] :=
 so Tryz.f164 3 [.id 0,.id 1,.id 3] (.c [.id 0,.id 1] (Aqs l hl) .nil)
def sbj (m n:Int) (x y:Inj):Bool:=bif I8 m y.f x.f then (bif decide (y.f.kind=1) then decide (IntKind.i64.wrap (x.scrubs - y.scrubs) < n) else true) else false
def sbk (m:Int) (x:Inj):Bool:=bif decide (x.f.kind=6) then true else (bif decide (x.f.kind=7) then true else (bif decide (m=1) then !(Bo x.f) else false))
def sj (m n:Int) (l:List Inj) (i:Nat):Nat:=ff (fun j=>sbj m n (l.getD i Aa) (l.getD j Aa)) i
def Aj3 (m n:Int) (l:List Inj) (i:Nat):Bool:=bif sbk m (l.getD i Aa) then true else decide (sj m n l i < i)
def si (m n:Int) (l:List Inj):Nat:=ff (Aj3 m n l) l.length
def plG (g:Gm):Int:=IntKind.i64.wrap (IntKind.i64.wrap (g.ranks + g.spares) * Cd g)
theorem Ap6 {m n:Int} {l:List Inj} {i:Nat} (h:i < si m n l):sbk m (l.getD i Aa)=false/\sj m n l i=i:=by
 have h:Aj3 m n l i=false:=Qe h
 have hl:sj m n l i<=i:=Qd _ _
 unfold Aj3 at h; revert h
 cases sbk m (l.getD i Aa) with
 | true=>intro h; cases h
 | false=>intro h; exact ⟨rfl,by have:=ofq (show decide (sj m n l i < i)=false from h); omega⟩
theorem Ap7 {m n:Int} {l:List Inj} {i j:Nat} (h:j < sj m n l i):sbj m n (l.getD i Aa) (l.getD j Aa)=false:=Qe (p:=fun j=>sbj m n (l.getD i Aa) (l.getD j Aa)) h
theorem B13 {m n:Int} {l:List Inj} {i j:Nat} (hi:i < si m n l) (hj:j < i):j < sj m n l i:=by rw [(Ap6 hi).2]; exact hj
theorem So {m n:Int} {l:List Inj} (h:decide (((si m n l:Nat):Int) < (l.length:Int))=true) (k:sbk m (l.getD (si m n l) Aa)=false):sj m n l (si m n l) < si m n l:=by
 have h:Aj3 m n l (si m n l)=true:=U0 (p:=Aj3 m n l) (n:=l.length) (show si m n l < l.length by have:=otq h; omega)
 unfold Aj3 at h; rw [k] at h; exact otq h
theorem B12 {m n:Int} {l:List Inj} {i:Nat} (h:sj m n l i < i):sbj m n (l.getD i Aa) (l.getD (sj m n l i) Aa)=true:=U0 (p:=fun j=>sbj m n (l.getD i Aa) (l.getD j Aa)) h
def I0 (s:MchS):Bool:=bif decide ((((si s.c.d.d.mode (plG s.c.d.d.g) s.inj):Nat):Int) < (s.inj.length:Int)) then false else true
theorem A6u (s:MchS) (hv:s.inj.length<=100000000) (hm:s.c.d.d.mode=1 ∨ s.c.d.d.mode=2):Sp P 89 [.pt 0 0] ([.ro (.blk [.pt 16 0,.pt 1 0,.mp 30,.sl 31,.sl 32,vi s.scrubs,vi s.steps] 171)] ++ ros (Ct s.c 1) ++ ros (Bg 25) ++ [.ro (.mp (.ar .u8 64 (nf (fun _=>0))) (mpC s.ideal)),.ro (.row Dw s.inj),.ro (.row G5 s.srv)]) (vt (I0 s)) ([.ro (.blk [.pt 16 0,.pt 1 0,.mp 30,.sl 31,.sl 32,vi s.scrubs,vi s.steps] 171)] ++ ros (Ct s.c 1) ++ ros (Bg 25) ++ [.ro (.mp (.ar .u8 64 (nf (fun _=>0))) (mpC s.ideal)),.ro (.row Dw s.inj),.ro (.row G5 s.srv)]):=by
 have hw:si s.c.d.d.mode (plG s.c.d.d.g) s.inj<=s.inj.length:=Qd _ _
 have gd1:∀ (i:Nat) (hi:i < (si s.c.d.d.mode (plG s.c.d.d.g) s.inj)),Good P _ _:=fun i hi=>(.t (sQT ((i:Int) < (s.inj.length:Int)) (by omega)) (.ix (i:=i) (m:=s.inj.length) (by omega) (.el (e:=Dw) (gDx (l:=s.inj) (i:=i) Aa (by omega)) (.cs 1000007 (decide ((s.inj.getD i Aa).f.kind=6)) 39 [] [] (fun z=>[(56,vt (bif z then true else (bif (decide ((s.inj.getD i Aa).f.kind=7)) then true else (bif (decide (s.c.d.d.mode=1)) then (!(Bo (s.inj.getD i Aa).f)) else false))))]) (fun z=>[]) (fun hq1=>(.t2 hq1 (.t2 hq1 (.t hq1 (.y4 (.y .nil)))))) (fun hq1=>(.cs 1000007 (decide ((s.inj.getD i Aa).f.kind=7)) 39 [] [] (fun z=>[(56,vt (bif z then true else (bif (decide (s.c.d.d.mode=1)) then (!(Bo (s.inj.getD i Aa).f)) else false)))]) (fun z=>[]) (fun hq2=>(.t2 hq1 (.t2 hq1 (.t hq1 (.t2 hq2 (.t2 hq2 (.t hq2 .nil))))))) (fun hq2=>(.cs 1000007 (decide (s.c.d.d.mode=1)) 39 [] [] (fun z=>[(56,vt (bif z then (!(Bo (s.inj.getD i Aa).f)) else false))]) (fun z=>[]) (fun hq3=>(.t2 hq1 (.t2 hq1 (.t hq1 (.t2 hq2 (.t hq2 (.t2 hq3 (.t hq3 (.c [] (Im (s.inj.getD i Aa).f) (.t hq3 (.t hq2 (.t hq3 (.t hq2 .nil))))))))))))) (fun hq3=>(.t2 hq1 (.t2 hq1 (.t hq1 (.t2 hq2 (.t hq2 (.t2 hq3 (.t2 hq3 (.t hq2 (.t hq3 (.t hq2 .nil))))))))))) .nil)) .nil)) (.t (Ap6 hi).1 (.sl (i:=0) (n:=i) (m:=s.inj.length) (hi:=(i:Int)) (h2:=by omega) (by omega) (.sl (i:=0) (n:=i) (m:=s.inj.length) (by omega) (.lp i 39 [] [] (fun j=>[(61,vn j)]) (fun j=>[]) (fun j hj=>(.t (sQT ((j:Int) < (i:Int)) (by omega)) (.ix (i:=j) (m:=i) (by omega) (.ix (i:=j) (m:=s.inj.length) (by omega) (.el (e:=Dw) (gDx (l:=s.inj) (i:=j) Aa (by omega)) (.cs 1000012 (I8 s.c.d.d.mode (s.inj.getD j Aa).f (s.inj.getD i Aa).f) 40 [] [] (fun z=>[(85,vt (bif z then (bif (decide ((s.inj.getD j Aa).f.kind=1)) then (decide (IntKind.i64.wrap ((s.inj.getD i Aa).scrubs - (s.inj.getD j Aa).scrubs) < IntKind.i64.wrap ((IntKind.i64.wrap (s.c.d.d.g.ranks + s.c.d.d.g.spares)) * (Cd s.c.d.d.g)))) else true) else false))]) (fun z=>[]) (fun hq1=>(.cs 1000012 (decide ((s.inj.getD j Aa).f.kind=1)) 40 [] [] (fun z=>[(85,vt (bif z then (decide (IntKind.i64.wrap ((s.inj.getD i Aa).scrubs - (s.inj.getD j Aa).scrubs) < IntKind.i64.wrap ((IntKind.i64.wrap (s.c.d.d.g.ranks + s.c.d.d.g.spares)) * (Cd s.c.d.d.g)))) else true))]) (fun z=>[]) (fun hq2=>(.c [] (P8 s.c.d.d.mode (s.inj.getD j Aa).f (s.inj.getD i Aa).f hm) (.t2 hq1 (.t2 hq1 (.t hq1 (.g hq2 (.g hq2 (.g hq2 (.g hq2 (.g hq2 (.g hq2 (.g hq2 (.t hq1 (.g hq2 (.t hq1 .nil))))))))))))))) (fun hq2=>(.c [] (P8 s.c.d.d.mode (s.inj.getD j Aa).f (s.inj.getD i Aa).f hm) (.t2 hq1 (.t2 hq1 (.t hq1 (.g hq2 (.g hq2 (.g hq2 (.g hq2 (.g hq2 (.g hq2 (.g hq2 (.t hq1 (.g hq2 (.t hq1 .nil))))))))))))))) .nil)) (fun hq1=>(.c [] (P8 s.c.d.d.mode (s.inj.getD j Aa).f (s.inj.getD i Aa).f hm) (.t2 hq1 (.t2 hq1 (.t2 hq1 (.t hq1 .nil)))))) (.t (Ap7 (n:=(plG s.c.d.d.g)) (B13 hi hj)) (.e 86 (Ck (a:=(j:Int)) (b:=1) (c:=((j + 1:Nat):Int)) (by omega)) .nil)))))))) (.t (sQF ((i:Int) < (i:Int)) (by omega)) (.e 87 (Ck (a:=(i:Int)) (b:=1) (c:=((i + 1:Nat):Int)) (by omega)) .nil))))))))))
 generalize d0:I0 s=yd0
 unfold I0 at d0
 rcases bft (decide ((((si s.c.d.d.mode (plG s.c.d.d.g) s.inj):Nat):Int) < (s.inj.length:Int))) with q1 | q1
 ·rw [A2 q1] at d0
  have q1':=otq q1
  rcases bft (bif (decide ((s.inj.getD (si s.c.d.d.mode (plG s.c.d.d.g) s.inj) Aa).f.kind=6)) then true else (bif (decide ((s.inj.getD (si s.c.d.d.mode (plG s.c.d.d.g) s.inj) Aa).f.kind=7)) then true else (bif (decide (s.c.d.d.mode=1)) then (!(Bo (s.inj.getD (si s.c.d.d.mode (plG s.c.d.d.g) s.inj) Aa).f)) else false))) with q2 | q2
  ·subst d0
   exact so Tryz.f89 8 (ir 0 33) (.c (ir 0 33) (Wt s) (.c [.id 31,.id 34] (A4m s.inj hv) (.c (ir 0 33) (Xr s) (.c (ir 16 8) (Sq s.c.d) (.c (ir 20 4) (Wu s.c.d.d) (.c (ir 0 33) (Xr s) (.c (ir 16 8) (Sq s.c.d) (.c (ir 20 4) (Aec s.c.d.d) (.c [] (Yc s.c.d.d.g) (.lp (si s.c.d.d.mode (plG s.c.d.d.g) s.inj) 38 [] [] (fun i=>[(32,vn i)]) (fun i=>[]) gd1 (.t q1 (.ix (i:=(si s.c.d.d.mode (plG s.c.d.d.g) s.inj)) (m:=s.inj.length) (by omega) (.el (e:=Dw) (gDx (l:=s.inj) (i:=(si s.c.d.d.mode (plG s.c.d.d.g) s.inj)) Aa (by omega)) (.cs 1000007 (decide ((s.inj.getD (si s.c.d.d.mode (plG s.c.d.d.g) s.inj) Aa).f.kind=6)) 39 [] [] (fun z=>[(56,vt (bif z then true else (bif (decide ((s.inj.getD (si s.c.d.d.mode (plG s.c.d.d.g) s.inj) Aa).f.kind=7)) then true else (bif (decide (s.c.d.d.mode=1)) then (!(Bo (s.inj.getD (si s.c.d.d.mode (plG s.c.d.d.g) s.inj) Aa).f)) else false))))]) (fun z=>[]) (fun hq1=>(.t2 hq1 (.t2 hq1 (.t hq1 (.y4 (.y .nil)))))) (fun hq1=>(.cs 1000007 (decide ((s.inj.getD (si s.c.d.d.mode (plG s.c.d.d.g) s.inj) Aa).f.kind=7)) 39 [] [] (fun z=>[(56,vt (bif z then true else (bif (decide (s.c.d.d.mode=1)) then (!(Bo (s.inj.getD (si s.c.d.d.mode (plG s.c.d.d.g) s.inj) Aa).f)) else false)))]) (fun z=>[]) (fun hq2=>(.t2 hq1 (.t2 hq1 (.t hq1 (.t2 hq2 (.t2 hq2 (.t hq2 .nil))))))) (fun hq2=>(.cs 1000007 (decide (s.c.d.d.mode=1)) 39 [] [] (fun z=>[(56,vt (bif z then (!(Bo (s.inj.getD (si s.c.d.d.mode (plG s.c.d.d.g) s.inj) Aa).f)) else false))]) (fun z=>[]) (fun hq3=>(.t2 hq1 (.t2 hq1 (.t hq1 (.t2 hq2 (.t hq2 (.t2 hq3 (.t hq3 (.c [] (Im (s.inj.getD (si s.c.d.d.mode (plG s.c.d.d.g) s.inj) Aa).f) (.t hq3 (.t hq2 (.t hq3 (.t hq2 .nil))))))))))))) (fun hq3=>(.t2 hq1 (.t2 hq1 (.t hq1 (.t2 hq2 (.t hq2 (.t2 hq3 (.t2 hq3 (.t hq2 (.t hq3 (.t hq2 .nil))))))))))) .nil)) .nil)) (.t q2 .nil)))))))))))))))
  ·subst d0
   exact so Tryz.f89 8 (ir 0 33) (.c (ir 0 33) (Wt s) (.c [.id 31,.id 34] (A4m s.inj hv) (.c (ir 0 33) (Xr s) (.c (ir 16 8) (Sq s.c.d) (.c (ir 20 4) (Wu s.c.d.d) (.c (ir 0 33) (Xr s) (.c (ir 16 8) (Sq s.c.d) (.c (ir 20 4) (Aec s.c.d.d) (.c [] (Yc s.c.d.d.g) (.lp (si s.c.d.d.mode (plG s.c.d.d.g) s.inj) 38 [] [] (fun i=>[(32,vn i)]) (fun i=>[]) gd1 (.t q1 (.ix (i:=(si s.c.d.d.mode (plG s.c.d.d.g) s.inj)) (m:=s.inj.length) (by omega) (.el (e:=Dw) (gDx (l:=s.inj) (i:=(si s.c.d.d.mode (plG s.c.d.d.g) s.inj)) Aa (by omega)) (.cs 1000007 (decide ((s.inj.getD (si s.c.d.d.mode (plG s.c.d.d.g) s.inj) Aa).f.kind=6)) 39 [] [] (fun z=>[(56,vt (bif z then true else (bif (decide ((s.inj.getD (si s.c.d.d.mode (plG s.c.d.d.g) s.inj) Aa).f.kind=7)) then true else (bif (decide (s.c.d.d.mode=1)) then (!(Bo (s.inj.getD (si s.c.d.d.mode (plG s.c.d.d.g) s.inj) Aa).f)) else false))))]) (fun z=>[]) (fun hq1=>(.t2 hq1 (.t2 hq1 (.t hq1 (.y4 (.y .nil)))))) (fun hq1=>(.cs 1000007 (decide ((s.inj.getD (si s.c.d.d.mode (plG s.c.d.d.g) s.inj) Aa).f.kind=7)) 39 [] [] (fun z=>[(56,vt (bif z then true else (bif (decide (s.c.d.d.mode=1)) then (!(Bo (s.inj.getD (si s.c.d.d.mode (plG s.c.d.d.g) s.inj) Aa).f)) else false)))]) (fun z=>[]) (fun hq2=>(.t2 hq1 (.t2 hq1 (.t hq1 (.t2 hq2 (.t2 hq2 (.t hq2 .nil))))))) (fun hq2=>(.cs 1000007 (decide (s.c.d.d.mode=1)) 39 [] [] (fun z=>[(56,vt (bif z then (!(Bo (s.inj.getD (si s.c.d.d.mode (plG s.c.d.d.g) s.inj) Aa).f)) else false))]) (fun z=>[]) (fun hq3=>(.t2 hq1 (.t2 hq1 (.t hq1 (.t2 hq2 (.t hq2 (.t2 hq3 (.t hq3 (.c [] (Im (s.inj.getD (si s.c.d.d.mode (plG s.c.d.d.g) s.inj) Aa).f) (.t hq3 (.t hq2 (.t hq3 (.t hq2 .nil))))))))))))) (fun hq3=>(.t2 hq1 (.t2 hq1 (.t hq1 (.t2 hq2 (.t hq2 (.t2 hq3 (.t2 hq3 (.t hq2 (.t hq3 (.t hq2 .nil))))))))))) .nil)) .nil)) (.t q2 (.sl (i:=0) (n:=(si s.c.d.d.mode (plG s.c.d.d.g) s.inj)) (m:=s.inj.length) (hi:=(((si s.c.d.d.mode (plG s.c.d.d.g) s.inj):Nat):Int)) (h2:=by omega) (by omega) (.sl (i:=0) (n:=(si s.c.d.d.mode (plG s.c.d.d.g) s.inj)) (m:=s.inj.length) (by omega) (.lp (sj s.c.d.d.mode (plG s.c.d.d.g) s.inj (si s.c.d.d.mode (plG s.c.d.d.g) s.inj)) 39 [] [] (fun j=>[(61,vn j)]) (fun j=>[]) (fun j hj=>(.t (sQT ((j:Int) < (((si s.c.d.d.mode (plG s.c.d.d.g) s.inj):Nat):Int)) (by have h3:=(So q1 q2); omega)) (.ix (i:=j) (m:=(si s.c.d.d.mode (plG s.c.d.d.g) s.inj)) (by have h3:=(So q1 q2); omega) (.ix (i:=j) (m:=s.inj.length) (by have h3:=(So q1 q2); omega) (.el (e:=Dw) (gDx (l:=s.inj) (i:=j) Aa (by have h3:=(So q1 q2); omega)) (.cs 1000012 (I8 s.c.d.d.mode (s.inj.getD j Aa).f (s.inj.getD (si s.c.d.d.mode (plG s.c.d.d.g) s.inj) Aa).f) 40 [] [] (fun z=>[(85,vt (bif z then (bif (decide ((s.inj.getD j Aa).f.kind=1)) then (decide (IntKind.i64.wrap ((s.inj.getD (si s.c.d.d.mode (plG s.c.d.d.g) s.inj) Aa).scrubs - (s.inj.getD j Aa).scrubs) < IntKind.i64.wrap ((IntKind.i64.wrap (s.c.d.d.g.ranks + s.c.d.d.g.spares)) * (Cd s.c.d.d.g)))) else true) else false))]) (fun z=>[]) (fun hq1=>(.cs 1000012 (decide ((s.inj.getD j Aa).f.kind=1)) 40 [] [] (fun z=>[(85,vt (bif z then (decide (IntKind.i64.wrap ((s.inj.getD (si s.c.d.d.mode (plG s.c.d.d.g) s.inj) Aa).scrubs - (s.inj.getD j Aa).scrubs) < IntKind.i64.wrap ((IntKind.i64.wrap (s.c.d.d.g.ranks + s.c.d.d.g.spares)) * (Cd s.c.d.d.g)))) else true))]) (fun z=>[]) (fun hq2=>(.c [] (P8 s.c.d.d.mode (s.inj.getD j Aa).f (s.inj.getD (si s.c.d.d.mode (plG s.c.d.d.g) s.inj) Aa).f hm) (.t2 hq1 (.t2 hq1 (.t hq1 (.g hq2 (.g hq2 (.g hq2 (.g hq2 (.g hq2 (.g hq2 (.g hq2 (.t hq1 (.g hq2 (.t hq1 .nil))))))))))))))) (fun hq2=>(.c [] (P8 s.c.d.d.mode (s.inj.getD j Aa).f (s.inj.getD (si s.c.d.d.mode (plG s.c.d.d.g) s.inj) Aa).f hm) (.t2 hq1 (.t2 hq1 (.t hq1 (.g hq2 (.g hq2 (.g hq2 (.g hq2 (.g hq2 (.g hq2 (.g hq2 (.t hq1 (.g hq2 (.t hq1 .nil))))))))))))))) .nil)) (fun hq1=>(.c [] (P8 s.c.d.d.mode (s.inj.getD j Aa).f (s.inj.getD (si s.c.d.d.mode (plG s.c.d.d.g) s.inj) Aa).f hm) (.t2 hq1 (.t2 hq1 (.t2 hq1 (.t hq1 .nil)))))) (.t (Ap7 (n:=(plG s.c.d.d.g)) hj) (.e 86 (Ck (a:=(j:Int)) (b:=1) (c:=((j + 1:Nat):Int)) (by have h3:=(So q1 q2); omega)) .nil)))))))) (.t (sQT ((((sj s.c.d.d.mode (plG s.c.d.d.g) s.inj (si s.c.d.d.mode (plG s.c.d.d.g) s.inj)):Nat):Int) < (((si s.c.d.d.mode (plG s.c.d.d.g) s.inj):Nat):Int)) (by have h3:=(So q1 q2); omega)) (.ix (i:=(sj s.c.d.d.mode (plG s.c.d.d.g) s.inj (si s.c.d.d.mode (plG s.c.d.d.g) s.inj))) (m:=(si s.c.d.d.mode (plG s.c.d.d.g) s.inj)) (by have h3:=(So q1 q2); omega) (.ix (i:=(sj s.c.d.d.mode (plG s.c.d.d.g) s.inj (si s.c.d.d.mode (plG s.c.d.d.g) s.inj))) (m:=s.inj.length) (by have h3:=(So q1 q2); omega) (.el (e:=Dw) (gDx (l:=s.inj) (i:=(sj s.c.d.d.mode (plG s.c.d.d.g) s.inj (si s.c.d.d.mode (plG s.c.d.d.g) s.inj))) Aa (by have h3:=(So q1 q2); omega)) (.cs 1000012 (I8 s.c.d.d.mode (s.inj.getD (sj s.c.d.d.mode (plG s.c.d.d.g) s.inj (si s.c.d.d.mode (plG s.c.d.d.g) s.inj)) Aa).f (s.inj.getD (si s.c.d.d.mode (plG s.c.d.d.g) s.inj) Aa).f) 40 [] [] (fun z=>[(85,vt (bif z then (bif (decide ((s.inj.getD (sj s.c.d.d.mode (plG s.c.d.d.g) s.inj (si s.c.d.d.mode (plG s.c.d.d.g) s.inj)) Aa).f.kind=1)) then (decide (IntKind.i64.wrap ((s.inj.getD (si s.c.d.d.mode (plG s.c.d.d.g) s.inj) Aa).scrubs - (s.inj.getD (sj s.c.d.d.mode (plG s.c.d.d.g) s.inj (si s.c.d.d.mode (plG s.c.d.d.g) s.inj)) Aa).scrubs) < IntKind.i64.wrap ((IntKind.i64.wrap (s.c.d.d.g.ranks + s.c.d.d.g.spares)) * (Cd s.c.d.d.g)))) else true) else false))]) (fun z=>[]) (fun hq1=>(.cs 1000012 (decide ((s.inj.getD (sj s.c.d.d.mode (plG s.c.d.d.g) s.inj (si s.c.d.d.mode (plG s.c.d.d.g) s.inj)) Aa).f.kind=1)) 40 [] [] (fun z=>[(85,vt (bif z then (decide (IntKind.i64.wrap ((s.inj.getD (si s.c.d.d.mode (plG s.c.d.d.g) s.inj) Aa).scrubs - (s.inj.getD (sj s.c.d.d.mode (plG s.c.d.d.g) s.inj (si s.c.d.d.mode (plG s.c.d.d.g) s.inj)) Aa).scrubs) < IntKind.i64.wrap ((IntKind.i64.wrap (s.c.d.d.g.ranks + s.c.d.d.g.spares)) * (Cd s.c.d.d.g)))) else true))]) (fun z=>[]) (fun hq2=>(.c [] (P8 s.c.d.d.mode (s.inj.getD (sj s.c.d.d.mode (plG s.c.d.d.g) s.inj (si s.c.d.d.mode (plG s.c.d.d.g) s.inj)) Aa).f (s.inj.getD (si s.c.d.d.mode (plG s.c.d.d.g) s.inj) Aa).f hm) (.t2 hq1 (.t2 hq1 (.t hq1 (.g hq2 (.g hq2 (.g hq2 (.g hq2 (.g hq2 (.g hq2 (.g hq2 (.t hq1 (.g hq2 (.t hq1 .nil))))))))))))))) (fun hq2=>(.c [] (P8 s.c.d.d.mode (s.inj.getD (sj s.c.d.d.mode (plG s.c.d.d.g) s.inj (si s.c.d.d.mode (plG s.c.d.d.g) s.inj)) Aa).f (s.inj.getD (si s.c.d.d.mode (plG s.c.d.d.g) s.inj) Aa).f hm) (.t2 hq1 (.t2 hq1 (.t hq1 (.g hq2 (.g hq2 (.g hq2 (.g hq2 (.g hq2 (.g hq2 (.g hq2 (.t hq1 (.g hq2 (.t hq1 .nil))))))))))))))) .nil)) (fun hq1=>(.c [] (P8 s.c.d.d.mode (s.inj.getD (sj s.c.d.d.mode (plG s.c.d.d.g) s.inj (si s.c.d.d.mode (plG s.c.d.d.g) s.inj)) Aa).f (s.inj.getD (si s.c.d.d.mode (plG s.c.d.d.g) s.inj) Aa).f hm) (.t2 hq1 (.t2 hq1 (.t2 hq1 (.t hq1 .nil)))))) (.t (B12 (n:=(plG s.c.d.d.g)) (So q1 q2)) .nil))))))))))))))))))))))))
 ·rw [A1 q1] at d0
  have q1':=ofq q1
  subst d0
  exact so Tryz.f89 8 (ir 0 33) (.c (ir 0 33) (Wt s) (.c [.id 31,.id 34] (A4m s.inj hv) (.c (ir 0 33) (Xr s) (.c (ir 16 8) (Sq s.c.d) (.c (ir 20 4) (Wu s.c.d.d) (.c (ir 0 33) (Xr s) (.c (ir 16 8) (Sq s.c.d) (.c (ir 20 4) (Aec s.c.d.d) (.c [] (Yc s.c.d.d.g) (.lp (si s.c.d.d.mode (plG s.c.d.d.g) s.inj) 38 [] [] (fun i=>[(32,vn i)]) (fun i=>[]) gd1 (.t q1 .nil)))))))))))
