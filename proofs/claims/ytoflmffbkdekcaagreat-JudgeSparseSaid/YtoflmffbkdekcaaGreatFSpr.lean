import Derived.Test.YtoflmffbkdekcaaGreatFJue
import Derived.Test.YtoflmffbkdekcaaGreatFFlu
namespace Go.Proofs.YtoflmffbkdekcaaGreat
open Go Go.RowKit
set_option linter.unusedVariables false
set_option linter.unusedSimpArgs false
set_option maxRecDepth 100000
def whose_v0 (m:Int) (b:Int):Int:=bif decide (m=1) then (whose1_v0 b) else (whose2_v0 b)
def whose_v1 (m:Int) (b:Int):Int:=bif decide (m=1) then (whose1_v1 b) else (whose2_v1 b)
def whose_v2 (m:Int) (b:Int):Nat:=bif decide (m=1) then (whose1_v2 b) else (whose2_v2 b)
theorem whose (m:Int) (b:Int) (hm:m=1 ∨ m=2) :Sp P 93 [vi m,vi b] [] (.tu [vi (whose_v0 m b),vi (whose_v1 m b),vn (whose_v2 m b)]) []:=by
 rcases hm with rfl | rfl
 ·simp only [whose_v0,whose_v1,whose_v2,show decide ((1:Int)=1)=true from rfl,cond_true]; exact Eq.mp (by kernel_rfl) (whose1 b )
 ·simp only [whose_v0,whose_v1,whose_v2,show decide ((2:Int)=1)=false from rfl,cond_false]; exact Eq.mp (by kernel_rfl) (whose2 b )
def covers_v0 (m:Int) (f:Flt):Int:=bif decide (m=1) then (covers1_v0 f) else (covers2_v0 f)
theorem covers (m:Int) (f:Flt) (hm:m=1 ∨ m=2) :Sp P 92 [.ag [vi f.kind,vi f.rank,vi f.bank,vi f.row,vi f.col,vi f.chip,vi f.bit,vi f.value],vi m] [] (vi (covers_v0 m f)) []:=by
 rcases hm with rfl | rfl
 ·simp only [covers_v0,show decide ((1:Int)=1)=true from rfl,cond_true]; exact Eq.mp (by kernel_rfl) (covers1 f )
 ·simp only [covers_v0,show decide ((2:Int)=1)=false from rfl,cond_false]; exact Eq.mp (by kernel_rfl) (covers2 f )
def jClash_v0 (m:Int) (a:Flt) (b:Flt):Bool:=bif decide (m=2) then (bif decide (0≤(covers_v0 m a)) then (bif decide (0≤(covers_v0 m b)) then (bif decide (a.rank=b.rank) then (!(decide ((covers_v0 m a)=(covers_v0 m b)))) else false) else false) else false) else (bif (narrow_v0 a) then (bif (narrow_v0 b) then (bif decide ((((whose_v2 m a.bit):Nat):Int)=0) then (bif decide ((((whose_v2 m b.bit):Nat):Int)=0) then (bif ((decide (a.rank=b.rank)) && ((decide (a.bank=b.bank)) && ((decide (a.row=b.row)) && ((decide (a.col=b.col)) && true)))) then (bif decide ((whose_v0 m a.bit)=(whose_v0 m b.bit)) then (!(decide (a.bit=b.bit))) else false) else false) else false) else false) else false) else false)
theorem jClash (m : Int) (a : Flt) (b : Flt) (hm : m = 1 ∨ m = 2) : Sp P 51 [vi m, .ag [vi a.kind, vi a.rank, vi a.bank, vi a.row, vi a.col, vi a.chip, vi a.bit, vi a.value], .ag [vi b.kind, vi b.rank, vi b.bank, vi b.row, vi b.col, vi b.chip, vi b.bit, vi b.value]] [] (vt (jClash_v0 m a b)) [] := by
 generalize d0:jClash_v0 m a b=yd0
 unfold jClash_v0 at d0
 rcases bft (decide (m=2)) with q1 | q1
 ·rw [cpos q1] at d0
  rcases bft (decide (0≤(covers_v0 m a))) with q2 | q2
  ·rw [cpos q2] at d0
   rcases bft (decide (0≤(covers_v0 m b))) with q3 | q3
   ·rw [cpos q3] at d0
    rcases bft (decide (a.rank=b.rank)) with q4 | q4
    ·rw [cpos q4] at d0
     subst d0
     exact so Tryz.f51 6 [] (.t q1 (.c [] (covers m a hm) (.c [] (covers m b hm) (.t q2 (.t q2 (.t q2 (.t q3 (.t q3 (.t q3 (.t q3 (.t q3 (.t q3 (.t q3 (.t q3 (.t q4 (.t q4 (.t q4 (.t q4 .nil))))))))))))))))))
    ·rw [cneg q4] at d0
     subst d0
     exact so Tryz.f51 6 [] (.t q1 (.c [] (covers m a hm) (.c [] (covers m b hm) (.t q2 (.t q2 (.t q2 (.t q3 (.t q3 (.t q3 (.t q3 (.t q3 (.t q3 (.t q3 (.t q3 (.t q4 (.t q4 (.t q4 (.t q4 .nil))))))))))))))))))
   ·rw [cneg q3] at d0
    subst d0
    exact so Tryz.f51 6 [] (.t q1 (.c [] (covers m a hm) (.c [] (covers m b hm) (.t q2 (.t q2 (.t q2 (.t q3 (.t q3 (.t q3 (.t q3 (.t q3 (.t q3 (.t q3 (.t q3 (.n (.n (.n (.n .nil))))))))))))))))))
  ·rw [cneg q2] at d0
   subst d0
   exact so Tryz.f51 6 [] (.t q1 (.c [] (covers m a hm) (.c [] (covers m b hm) (.t q2 (.t q2 (.t q2 (.n (.n (.n (.n (.n (.n (.n (.n (.n (.n (.n (.n .nil))))))))))))))))))
 ·rw [cneg q1] at d0
  rcases bft (narrow_v0 a) with q2 | q2
  ·rw [cpos q2] at d0
   rcases bft (narrow_v0 b) with q3 | q3
   ·rw [cpos q3] at d0
    rcases bft (decide ((((whose_v2 m a.bit):Nat):Int)=0)) with q4 | q4
    ·rw [cpos q4] at d0
     rcases bft (decide ((((whose_v2 m b.bit):Nat):Int)=0)) with q5 | q5
     ·rw [cpos q5] at d0
      rcases bft ((decide (a.rank=b.rank)) && ((decide (a.bank=b.bank)) && ((decide (a.row=b.row)) && ((decide (a.col=b.col)) && true)))) with q6 | q6
      ·rw [cpos q6] at d0
       rcases bft (decide ((whose_v0 m a.bit)=(whose_v0 m b.bit))) with q7 | q7
       ·rw [cpos q7] at d0
        subst d0
        exact so Tryz.f51 4 [] (.t q1 (.c [] (whose m a.bit hm) (.c [] (whose m b.bit hm) (.c [] (narrow a) (.t q2 (.t q2 (.c [] (narrow b) (.t q2 (.t q3 (.t q3 (.t q3 (.t q4 (.t q4 (.t q4 (.t q5 (.t q5 (.t q5 (.t q5 (.t q5 (.t q5 (.t q6 (.t q6 (.t q6 (.t q6 (.t q7 (.t q7 (.t q7 (.t q7 (.t q7 (.t q7 .nil))))))))))))))))))))))))))))))
       ·rw [cneg q7] at d0
        subst d0
        exact so Tryz.f51 4 [] (.t q1 (.c [] (whose m a.bit hm) (.c [] (whose m b.bit hm) (.c [] (narrow a) (.t q2 (.t q2 (.c [] (narrow b) (.t q2 (.t q3 (.t q3 (.t q3 (.t q4 (.t q4 (.t q4 (.t q5 (.t q5 (.t q5 (.t q5 (.t q5 (.t q5 (.t q6 (.t q6 (.t q6 (.t q6 (.t q7 (.t q7 (.t q7 (.t q7 (.t q7 (.t q7 .nil))))))))))))))))))))))))))))))
      ·rw [cneg q6] at d0
       subst d0
       exact so Tryz.f51 4 [] (.t q1 (.c [] (whose m a.bit hm) (.c [] (whose m b.bit hm) (.c [] (narrow a) (.t q2 (.t q2 (.c [] (narrow b) (.t q2 (.t q3 (.t q3 (.t q3 (.t q4 (.t q4 (.t q4 (.t q5 (.t q5 (.t q5 (.t q5 (.t q5 (.t q5 (.t q6 (.t q6 (.t q6 (.t q6 (.n (.n (.n (.n (.n (.n .nil))))))))))))))))))))))))))))))
     ·rw [cneg q5] at d0
      subst d0
      exact so Tryz.f51 4 [] (.t q1 (.c [] (whose m a.bit hm) (.c [] (whose m b.bit hm) (.c [] (narrow a) (.t q2 (.t q2 (.c [] (narrow b) (.t q2 (.t q3 (.t q3 (.t q3 (.t q4 (.t q4 (.t q4 (.t q5 (.t q5 (.t q5 (.t q5 (.t q5 (.t q5 (.n (.n (.n (.n (.n (.n (.n (.n (.n (.n .nil))))))))))))))))))))))))))))))
    ·rw [cneg q4] at d0
     subst d0
     exact so Tryz.f51 4 [] (.t q1 (.c [] (whose m a.bit hm) (.c [] (whose m b.bit hm) (.c [] (narrow a) (.t q2 (.t q2 (.c [] (narrow b) (.t q2 (.t q3 (.t q3 (.t q3 (.t q4 (.t q4 (.t q4 (.n (.n (.n (.n (.n (.n (.n (.n (.n (.n (.n (.n (.n (.n (.n (.n .nil))))))))))))))))))))))))))))))
   ·rw [cneg q3] at d0
    subst d0
    exact so Tryz.f51 4 [] (.t q1 (.c [] (whose m a.bit hm) (.c [] (whose m b.bit hm) (.c [] (narrow a) (.t q2 (.t q2 (.c [] (narrow b) (.t q2 (.t q3 (.t q3 (.t q3 (.n (.n (.n (.n (.n (.n (.n (.n (.n (.n (.n (.n (.n (.n (.n (.n (.n (.n (.n .nil))))))))))))))))))))))))))))))
  ·rw [cneg q2] at d0
   subst d0
   exact so Tryz.f51 4 [] (.t q1 (.c [] (whose m a.bit hm) (.c [] (whose m b.bit hm) (.c [] (narrow a) (.t q2 (.t q2 (.t q2 (.n (.n (.n (.n (.n (.n (.n (.n (.n (.n (.n (.n (.n (.n (.n (.n (.n (.n (.n (.n (.n (.n .nil)))))))))))))))))))))))))))))
end Go.Proofs.YtoflmffbkdekcaaGreat
namespace Go.Proofs.YtoflmffbkdekcaaGreat
open Go Go.RowKit
set_option linter.unusedVariables false
set_option linter.unusedSimpArgs false
set_option maxRecDepth 100000
def inT (l:List Inj):Nat→List Inj
 | 0=>[]
 | n + 1=>inT l n ++ [l.getD n eInj0]
theorem inT_eq (l:List Inj):∀ n,n≤l.length→inT l n=l.take n
 | 0,_=>rfl
 | n + 1,h=>by rw [inT,inT_eq l n (by omega),List.take_add_one,List.getElem?_eq_getElem (by omega),List.getD_eq_getElem?_getD,List.getElem?_eq_getElem (by omega)]; rfl
theorem inT_all (l:List Inj):inT l l.length=l:=by rw [inT_eq l _ (Nat.le_refl _),List.take_length]
theorem inT_len (l:List Inj):∀ n,(inT l n).length=n
 | 0=>rfl
 | n + 1=>by rw [inT,List.length_append,inT_len l n]; rfl
theorem appSeq (l:List Inj) (hl:l.length≤100000000):Sp P 139 [nilS,.fn (.func 134) [] [.pt 1 0]] [.ro (.row eInj l),.ro (.blk [.sl 0] 104)] (.sl 2) [.ro (.row eInj l),.ro (.blk [.sl 0] 104),.row eInj (inT l l.length)] :=
 so Tryz.f139 10 [.id 0,.id 1,.id 6] (.lp l.length 7 [(6,.nil)] [(6,.id 10)] (fun i=>[(7,vn i)]) (fun i=>[(3,.blk [.sl 6] 104),(4,.lo .ready none),(6,.row eInj (inT l i))]) (fun i hi=>(.t (show (decide (((i:Nat):Int) < ((l.length:Nat):Int)))=true from decide_eq_true (by omega)) (.ix (i:=i) (m:=l.length) (by omega) (.el (e:=eInj) (gDx (l:=l) (i:=i) eInj0 (by omega)) (.ap (e:=eInj) (l:=inT l i) (l':=[(l.getD i eInj0)]) .row (.flat [vi (l.getD i eInj0).f.kind,vi (l.getD i eInj0).f.rank,vi (l.getD i eInj0).f.bank,vi (l.getD i eInj0).f.row,vi (l.getD i eInj0).f.col,vi (l.getD i eInj0).f.chip,vi (l.getD i eInj0).f.bit,vi (l.getD i eInj0).f.value,vi (l.getD i eInj0).scrubs,vi (l.getD i eInj0).access] [(l.getD i eInj0)] rfl) (by rw [inT_len]; simp only [List.length_cons,List.length_nil]; omega) (.n (.e 15 (aAdd (a:=((i:Nat):Int)) (b:=1) (c:=((i + 1:Nat):Int)) (by omega)) .nil))))))) (.t (show (decide (((l.length:Nat):Int) < ((l.length:Nat):Int)))=false from decide_eq_false (by omega)) .nil))
theorem appSeqL (l:List Inj) (hl:l.length≤100000000):Sp P 139 [nilS,.fn (.func 134) [] [.pt 1 0]] [.ro (.row eInj l),.ro (.blk [.sl 0] 104)] (.sl 2) [.ro (.row eInj l),.ro (.blk [.sl 0] 104),.row eInj l]:=by
 have h:=appSeq l hl
 rw [inT_all] at h
 exact h
theorem collect (l:List Inj) (hl:l.length≤100000000):Sp P 95 [.fn (.func 134) [] [.pt 1 0]] [.ro (.row eInj l),.ro (.blk [.sl 0] 104)] (.sl 2) [.ro (.row eInj l),.ro (.blk [.sl 0] 104),.row eInj l] :=
 so Tryz.f95 3 [.id 0,.id 1,.id 3] (.c [.id 0,.id 1] (appSeqL l hl) .nil)
end Go.Proofs.YtoflmffbkdekcaaGreat
namespace Go.Proofs.YtoflmffbkdekcaaGreat
open Go Go.RowKit
set_option linter.unusedVariables false
set_option linter.unusedSimpArgs false
set_option maxRecDepth 100000
def sbj (m n:Int) (x y:Inj):Bool:=bif jClash_v0 m y.f x.f then (bif decide (y.f.kind=1) then decide (IntKind.i64.wrap (x.scrubs - y.scrubs) < n) else true) else false
def sbk (m:Int) (x:Inj):Bool:=bif decide (x.f.kind=6) then true else (bif decide (x.f.kind=7) then true else (bif decide (m=1) then !(narrow_v0 x.f) else false))
def sj (m n:Int) (l:List Inj) (i:Nat):Nat:=ff (fun j=>sbj m n (l.getD i eInj0) (l.getD j eInj0)) i
def sbad (m n:Int) (l:List Inj) (i:Nat):Bool:=bif sbk m (l.getD i eInj0) then true else decide (sj m n l i < i)
def si (m n:Int) (l:List Inj):Nat:=ff (sbad m n l) l.length
def plG (g:Gm):Int:=IntKind.i64.wrap (IntKind.i64.wrap (g.ranks + g.spares) * perRank_v0 g)
theorem si_lt {m n:Int} {l:List Inj} {i:Nat} (h:i < si m n l):sbk m (l.getD i eInj0)=false∧sj m n l i=i:=by
 have h:sbad m n l i=false:=ff_lt h
 have hl:sj m n l i≤i:=ff_le _ _
 unfold sbad at h; revert h
 cases sbk m (l.getD i eInj0) with
 | true=>intro h; cases h
 | false=>intro h; exact ⟨rfl,by have:=of_decide_eq_false (show decide (sj m n l i < i)=false from h); omega⟩
theorem sj_lt {m n:Int} {l:List Inj} {i j:Nat} (h:j < sj m n l i):sbj m n (l.getD i eInj0) (l.getD j eInj0)=false:=ff_lt (p:=fun j=>sbj m n (l.getD i eInj0) (l.getD j eInj0)) h
theorem sj_in {m n:Int} {l:List Inj} {i j:Nat} (hi:i < si m n l) (hj:j < i):j < sj m n l i:=by rw [(si_lt hi).2]; exact hj
theorem si_at {m n:Int} {l:List Inj} (h:decide (((si m n l:Nat):Int) < ((l.length:Nat):Int))=true) (k:sbk m (l.getD (si m n l) eInj0)=false):sj m n l (si m n l) < si m n l:=by
 have h:sbad m n l (si m n l)=true:=ff_at (p:=sbad m n l) (n:=l.length) (show si m n l < l.length by have:=of_decide_eq_true h; omega)
 unfold sbad at h; rw [k] at h; exact of_decide_eq_true h
theorem sj_at {m n:Int} {l:List Inj} {i:Nat} (h:sj m n l i < i):sbj m n (l.getD i eInj0) (l.getD (sj m n l i) eInj0)=true:=ff_at (p:=fun j=>sbj m n (l.getD i eInj0) (l.getD j eInj0)) h
def sparse2_v0 (s:MchS):Bool:=bif decide ((((si s.c.d.d.mode (plG s.c.d.d.g) s.inj):Nat):Int) < ((s.inj.length:Nat):Int)) then false else true
theorem sparse2 (s:MchS) (hv:s.inj.length≤100000000) (hm:s.c.d.d.mode=1 ∨ s.c.d.d.mode=2):Sp P 53 [.pt 0 0] ([.ro (.blk [.pt 16 0,.pt 1 0,.mp 30,.sl 31,.sl 32,vi s.scrubs,vi s.steps] 122)] ++ ros (bCtl s.c 1) ++ ros (bCode 25) ++ [.ro (.mp (.ar .u8 64 (nf (fun _=>0))) (mpC s.ideal)),.ro (.row eInj s.inj),.ro (.row eSrv s.srv)]) (vt (sparse2_v0 s)) ([.ro (.blk [.pt 16 0,.pt 1 0,.mp 30,.sl 31,.sl 32,vi s.scrubs,vi s.steps] 122)] ++ ros (bCtl s.c 1) ++ ros (bCode 25) ++ [.ro (.mp (.ar .u8 64 (nf (fun _=>0))) (mpC s.ideal)),.ro (.row eInj s.inj),.ro (.row eSrv s.srv)]):=by
 have hw:si s.c.d.d.mode (plG s.c.d.d.g) s.inj≤s.inj.length:=ff_le _ _
 have gd1:∀ (i:Nat) (hi:i < (si s.c.d.d.mode (plG s.c.d.d.g) s.inj)),Good P _ _:=fun i hi=>(.t (show (decide (((i:Nat):Int) < ((s.inj.length:Nat):Int)))=true from decide_eq_true (by omega)) (.ix (i:=i) (m:=s.inj.length) (by omega) (.el (e:=eInj) (gDx (l:=s.inj) (i:=i) eInj0 (by omega)) (.cs 1000007 (decide ((s.inj.getD i eInj0).f.kind=6)) 39 [] [] (fun z=>[(56,vt (bif z then true else (bif (decide ((s.inj.getD i eInj0).f.kind=7)) then true else (bif (decide (s.c.d.d.mode=1)) then (!(narrow_v0 (s.inj.getD i eInj0).f)) else false))))]) (fun z=>[]) (fun hq1=>(.t hq1 (.t hq1 (.t hq1 (.t hq1 (.t hq1 (.y (.y (.y (.y (.y .nil))))))))))) (fun hq1=>(.cs 1000007 (decide ((s.inj.getD i eInj0).f.kind=7)) 39 [] [] (fun z=>[(56,vt (bif z then true else (bif (decide (s.c.d.d.mode=1)) then (!(narrow_v0 (s.inj.getD i eInj0).f)) else false)))]) (fun z=>[]) (fun hq2=>(.t hq1 (.t hq1 (.t hq1 (.t hq1 (.t hq1 (.t hq2 (.t hq2 (.t hq2 (.t hq2 (.t hq2 .nil))))))))))) (fun hq2=>(.cs 1000007 (decide (s.c.d.d.mode=1)) 39 [] [] (fun z=>[(56,vt (bif z then (!(narrow_v0 (s.inj.getD i eInj0).f)) else false))]) (fun z=>[]) (fun hq3=>(.t hq1 (.t hq1 (.t hq1 (.t hq1 (.t hq1 (.t hq2 (.t hq2 (.t hq2 (.t hq3 (.t hq3 (.t hq3 (.c [] (narrow (s.inj.getD i eInj0).f) (.t hq3 (.t hq2 (.t hq3 (.t hq2 .nil))))))))))))))))) (fun hq3=>(.t hq1 (.t hq1 (.t hq1 (.t hq1 (.t hq1 (.t hq2 (.t hq2 (.t hq2 (.t hq3 (.t hq3 (.t hq3 (.t hq3 (.t hq2 (.t hq3 (.t hq2 .nil)))))))))))))))) .nil)) .nil)) (.t (si_lt hi).1 (.sl (i:=0) (n:=i) (m:=s.inj.length) (hi:=((i:Nat):Int)) (h2:=by omega) (by omega) (.sl (i:=0) (n:=i) (m:=s.inj.length) (by omega) (.lp i 39 [] [] (fun j=>[(61,vn j)]) (fun j=>[]) (fun j hj=>(.t (show (decide (((j:Nat):Int) < ((i:Nat):Int)))=true from decide_eq_true (by omega)) (.ix (i:=j) (m:=i) (by omega) (.ix (i:=j) (m:=s.inj.length) (by omega) (.el (e:=eInj) (gDx (l:=s.inj) (i:=j) eInj0 (by omega)) (.cs 1000012 (jClash_v0 s.c.d.d.mode (s.inj.getD j eInj0).f (s.inj.getD i eInj0).f) 40 [] [] (fun z=>[(85,vt (bif z then (bif (decide ((s.inj.getD j eInj0).f.kind=1)) then (decide (IntKind.i64.wrap ((s.inj.getD i eInj0).scrubs - (s.inj.getD j eInj0).scrubs) < IntKind.i64.wrap ((IntKind.i64.wrap (s.c.d.d.g.ranks + s.c.d.d.g.spares)) * (perRank_v0 s.c.d.d.g)))) else true) else false))]) (fun z=>[]) (fun hq1=>(.cs 1000012 (decide ((s.inj.getD j eInj0).f.kind=1)) 40 [] [] (fun z=>[(85,vt (bif z then (decide (IntKind.i64.wrap ((s.inj.getD i eInj0).scrubs - (s.inj.getD j eInj0).scrubs) < IntKind.i64.wrap ((IntKind.i64.wrap (s.c.d.d.g.ranks + s.c.d.d.g.spares)) * (perRank_v0 s.c.d.d.g)))) else true))]) (fun z=>[]) (fun hq2=>(.c [] (jClash s.c.d.d.mode (s.inj.getD j eInj0).f (s.inj.getD i eInj0).f hm) (.t hq1 (.t hq1 (.t hq1 (.t hq1 (.t hq1 (.g hq2 (.g hq2 (.g hq2 (.g hq2 (.g hq2 (.g hq2 (.g hq2 (.t hq1 (.g hq2 (.t hq1 .nil))))))))))))))))) (fun hq2=>(.c [] (jClash s.c.d.d.mode (s.inj.getD j eInj0).f (s.inj.getD i eInj0).f hm) (.t hq1 (.t hq1 (.t hq1 (.t hq1 (.t hq1 (.g hq2 (.g hq2 (.g hq2 (.g hq2 (.g hq2 (.g hq2 (.g hq2 (.t hq1 (.g hq2 (.t hq1 .nil))))))))))))))))) .nil)) (fun hq1=>(.c [] (jClash s.c.d.d.mode (s.inj.getD j eInj0).f (s.inj.getD i eInj0).f hm) (.t hq1 (.t hq1 (.t hq1 (.t hq1 (.t hq1 (.t hq1 (.t hq1 .nil))))))))) (.t (sj_lt (n:=(plG s.c.d.d.g)) (sj_in hi hj)) (.e 86 (aAdd (a:=((j:Nat):Int)) (b:=1) (c:=((j + 1:Nat):Int)) (by omega)) .nil)))))))) (.t (show (decide (((i:Nat):Int) < ((i:Nat):Int)))=false from decide_eq_false (by omega)) (.e 87 (aAdd (a:=((i:Nat):Int)) (b:=1) (c:=((i + 1:Nat):Int)) (by omega)) .nil))))))))))
 generalize d0:sparse2_v0 s=yd0
 unfold sparse2_v0 at d0
 rcases bft (decide ((((si s.c.d.d.mode (plG s.c.d.d.g) s.inj):Nat):Int) < ((s.inj.length:Nat):Int))) with q1 | q1
 ·rw [cpos q1] at d0
  have q1':=of_decide_eq_true q1
  rcases bft (bif (decide ((s.inj.getD (si s.c.d.d.mode (plG s.c.d.d.g) s.inj) eInj0).f.kind=6)) then true else (bif (decide ((s.inj.getD (si s.c.d.d.mode (plG s.c.d.d.g) s.inj) eInj0).f.kind=7)) then true else (bif (decide (s.c.d.d.mode=1)) then (!(narrow_v0 (s.inj.getD (si s.c.d.d.mode (plG s.c.d.d.g) s.inj) eInj0).f)) else false))) with q2 | q2
  ·subst d0
   exact so Tryz.f53 8 (ir 0 33) (.c (ir 0 33) (xInjected s) (.c [.id 31,.id 34] (collect s.inj hv) (.c (ir 0 33) (gDev s) (.c (ir 16 8) (vDram s.c.d) (.c (ir 20 4) (dMode s.c.d.d) (.c (ir 0 33) (gDev s) (.c (ir 16 8) (vDram s.c.d) (.c (ir 20 4) (dGeom s.c.d.d) (.c [] (perRank s.c.d.d.g) (.lp (si s.c.d.d.mode (plG s.c.d.d.g) s.inj) 38 [] [] (fun i=>[(32,vn i)]) (fun i=>[]) gd1 (.t q1 (.ix (i:=(si s.c.d.d.mode (plG s.c.d.d.g) s.inj)) (m:=s.inj.length) (by omega) (.el (e:=eInj) (gDx (l:=s.inj) (i:=(si s.c.d.d.mode (plG s.c.d.d.g) s.inj)) eInj0 (by omega)) (.cs 1000007 (decide ((s.inj.getD (si s.c.d.d.mode (plG s.c.d.d.g) s.inj) eInj0).f.kind=6)) 39 [] [] (fun z=>[(56,vt (bif z then true else (bif (decide ((s.inj.getD (si s.c.d.d.mode (plG s.c.d.d.g) s.inj) eInj0).f.kind=7)) then true else (bif (decide (s.c.d.d.mode=1)) then (!(narrow_v0 (s.inj.getD (si s.c.d.d.mode (plG s.c.d.d.g) s.inj) eInj0).f)) else false))))]) (fun z=>[]) (fun hq1=>(.t hq1 (.t hq1 (.t hq1 (.t hq1 (.t hq1 (.y (.y (.y (.y (.y .nil))))))))))) (fun hq1=>(.cs 1000007 (decide ((s.inj.getD (si s.c.d.d.mode (plG s.c.d.d.g) s.inj) eInj0).f.kind=7)) 39 [] [] (fun z=>[(56,vt (bif z then true else (bif (decide (s.c.d.d.mode=1)) then (!(narrow_v0 (s.inj.getD (si s.c.d.d.mode (plG s.c.d.d.g) s.inj) eInj0).f)) else false)))]) (fun z=>[]) (fun hq2=>(.t hq1 (.t hq1 (.t hq1 (.t hq1 (.t hq1 (.t hq2 (.t hq2 (.t hq2 (.t hq2 (.t hq2 .nil))))))))))) (fun hq2=>(.cs 1000007 (decide (s.c.d.d.mode=1)) 39 [] [] (fun z=>[(56,vt (bif z then (!(narrow_v0 (s.inj.getD (si s.c.d.d.mode (plG s.c.d.d.g) s.inj) eInj0).f)) else false))]) (fun z=>[]) (fun hq3=>(.t hq1 (.t hq1 (.t hq1 (.t hq1 (.t hq1 (.t hq2 (.t hq2 (.t hq2 (.t hq3 (.t hq3 (.t hq3 (.c [] (narrow (s.inj.getD (si s.c.d.d.mode (plG s.c.d.d.g) s.inj) eInj0).f) (.t hq3 (.t hq2 (.t hq3 (.t hq2 .nil))))))))))))))))) (fun hq3=>(.t hq1 (.t hq1 (.t hq1 (.t hq1 (.t hq1 (.t hq2 (.t hq2 (.t hq2 (.t hq3 (.t hq3 (.t hq3 (.t hq3 (.t hq2 (.t hq3 (.t hq2 .nil)))))))))))))))) .nil)) .nil)) (.t q2 .nil)))))))))))))))
  ·subst d0
   exact so Tryz.f53 8 (ir 0 33) (.c (ir 0 33) (xInjected s) (.c [.id 31,.id 34] (collect s.inj hv) (.c (ir 0 33) (gDev s) (.c (ir 16 8) (vDram s.c.d) (.c (ir 20 4) (dMode s.c.d.d) (.c (ir 0 33) (gDev s) (.c (ir 16 8) (vDram s.c.d) (.c (ir 20 4) (dGeom s.c.d.d) (.c [] (perRank s.c.d.d.g) (.lp (si s.c.d.d.mode (plG s.c.d.d.g) s.inj) 38 [] [] (fun i=>[(32,vn i)]) (fun i=>[]) gd1 (.t q1 (.ix (i:=(si s.c.d.d.mode (plG s.c.d.d.g) s.inj)) (m:=s.inj.length) (by omega) (.el (e:=eInj) (gDx (l:=s.inj) (i:=(si s.c.d.d.mode (plG s.c.d.d.g) s.inj)) eInj0 (by omega)) (.cs 1000007 (decide ((s.inj.getD (si s.c.d.d.mode (plG s.c.d.d.g) s.inj) eInj0).f.kind=6)) 39 [] [] (fun z=>[(56,vt (bif z then true else (bif (decide ((s.inj.getD (si s.c.d.d.mode (plG s.c.d.d.g) s.inj) eInj0).f.kind=7)) then true else (bif (decide (s.c.d.d.mode=1)) then (!(narrow_v0 (s.inj.getD (si s.c.d.d.mode (plG s.c.d.d.g) s.inj) eInj0).f)) else false))))]) (fun z=>[]) (fun hq1=>(.t hq1 (.t hq1 (.t hq1 (.t hq1 (.t hq1 (.y (.y (.y (.y (.y .nil))))))))))) (fun hq1=>(.cs 1000007 (decide ((s.inj.getD (si s.c.d.d.mode (plG s.c.d.d.g) s.inj) eInj0).f.kind=7)) 39 [] [] (fun z=>[(56,vt (bif z then true else (bif (decide (s.c.d.d.mode=1)) then (!(narrow_v0 (s.inj.getD (si s.c.d.d.mode (plG s.c.d.d.g) s.inj) eInj0).f)) else false)))]) (fun z=>[]) (fun hq2=>(.t hq1 (.t hq1 (.t hq1 (.t hq1 (.t hq1 (.t hq2 (.t hq2 (.t hq2 (.t hq2 (.t hq2 .nil))))))))))) (fun hq2=>(.cs 1000007 (decide (s.c.d.d.mode=1)) 39 [] [] (fun z=>[(56,vt (bif z then (!(narrow_v0 (s.inj.getD (si s.c.d.d.mode (plG s.c.d.d.g) s.inj) eInj0).f)) else false))]) (fun z=>[]) (fun hq3=>(.t hq1 (.t hq1 (.t hq1 (.t hq1 (.t hq1 (.t hq2 (.t hq2 (.t hq2 (.t hq3 (.t hq3 (.t hq3 (.c [] (narrow (s.inj.getD (si s.c.d.d.mode (plG s.c.d.d.g) s.inj) eInj0).f) (.t hq3 (.t hq2 (.t hq3 (.t hq2 .nil))))))))))))))))) (fun hq3=>(.t hq1 (.t hq1 (.t hq1 (.t hq1 (.t hq1 (.t hq2 (.t hq2 (.t hq2 (.t hq3 (.t hq3 (.t hq3 (.t hq3 (.t hq2 (.t hq3 (.t hq2 .nil)))))))))))))))) .nil)) .nil)) (.t q2 (.sl (i:=0) (n:=(si s.c.d.d.mode (plG s.c.d.d.g) s.inj)) (m:=s.inj.length) (hi:=(((si s.c.d.d.mode (plG s.c.d.d.g) s.inj):Nat):Int)) (h2:=by omega) (by omega) (.sl (i:=0) (n:=(si s.c.d.d.mode (plG s.c.d.d.g) s.inj)) (m:=s.inj.length) (by omega) (.lp (sj s.c.d.d.mode (plG s.c.d.d.g) s.inj (si s.c.d.d.mode (plG s.c.d.d.g) s.inj)) 39 [] [] (fun j=>[(61,vn j)]) (fun j=>[]) (fun j hj=>(.t (show (decide (((j:Nat):Int) < (((si s.c.d.d.mode (plG s.c.d.d.g) s.inj):Nat):Int)))=true from decide_eq_true (by have h3:=(si_at q1 q2); omega)) (.ix (i:=j) (m:=(si s.c.d.d.mode (plG s.c.d.d.g) s.inj)) (by have h3:=(si_at q1 q2); omega) (.ix (i:=j) (m:=s.inj.length) (by have h3:=(si_at q1 q2); omega) (.el (e:=eInj) (gDx (l:=s.inj) (i:=j) eInj0 (by have h3:=(si_at q1 q2); omega)) (.cs 1000012 (jClash_v0 s.c.d.d.mode (s.inj.getD j eInj0).f (s.inj.getD (si s.c.d.d.mode (plG s.c.d.d.g) s.inj) eInj0).f) 40 [] [] (fun z=>[(85,vt (bif z then (bif (decide ((s.inj.getD j eInj0).f.kind=1)) then (decide (IntKind.i64.wrap ((s.inj.getD (si s.c.d.d.mode (plG s.c.d.d.g) s.inj) eInj0).scrubs - (s.inj.getD j eInj0).scrubs) < IntKind.i64.wrap ((IntKind.i64.wrap (s.c.d.d.g.ranks + s.c.d.d.g.spares)) * (perRank_v0 s.c.d.d.g)))) else true) else false))]) (fun z=>[]) (fun hq1=>(.cs 1000012 (decide ((s.inj.getD j eInj0).f.kind=1)) 40 [] [] (fun z=>[(85,vt (bif z then (decide (IntKind.i64.wrap ((s.inj.getD (si s.c.d.d.mode (plG s.c.d.d.g) s.inj) eInj0).scrubs - (s.inj.getD j eInj0).scrubs) < IntKind.i64.wrap ((IntKind.i64.wrap (s.c.d.d.g.ranks + s.c.d.d.g.spares)) * (perRank_v0 s.c.d.d.g)))) else true))]) (fun z=>[]) (fun hq2=>(.c [] (jClash s.c.d.d.mode (s.inj.getD j eInj0).f (s.inj.getD (si s.c.d.d.mode (plG s.c.d.d.g) s.inj) eInj0).f hm) (.t hq1 (.t hq1 (.t hq1 (.t hq1 (.t hq1 (.g hq2 (.g hq2 (.g hq2 (.g hq2 (.g hq2 (.g hq2 (.g hq2 (.t hq1 (.g hq2 (.t hq1 .nil))))))))))))))))) (fun hq2=>(.c [] (jClash s.c.d.d.mode (s.inj.getD j eInj0).f (s.inj.getD (si s.c.d.d.mode (plG s.c.d.d.g) s.inj) eInj0).f hm) (.t hq1 (.t hq1 (.t hq1 (.t hq1 (.t hq1 (.g hq2 (.g hq2 (.g hq2 (.g hq2 (.g hq2 (.g hq2 (.g hq2 (.t hq1 (.g hq2 (.t hq1 .nil))))))))))))))))) .nil)) (fun hq1=>(.c [] (jClash s.c.d.d.mode (s.inj.getD j eInj0).f (s.inj.getD (si s.c.d.d.mode (plG s.c.d.d.g) s.inj) eInj0).f hm) (.t hq1 (.t hq1 (.t hq1 (.t hq1 (.t hq1 (.t hq1 (.t hq1 .nil))))))))) (.t (sj_lt (n:=(plG s.c.d.d.g)) hj) (.e 86 (aAdd (a:=((j:Nat):Int)) (b:=1) (c:=((j + 1:Nat):Int)) (by have h3:=(si_at q1 q2); omega)) .nil)))))))) (.t (show (decide ((((sj s.c.d.d.mode (plG s.c.d.d.g) s.inj (si s.c.d.d.mode (plG s.c.d.d.g) s.inj)):Nat):Int) < (((si s.c.d.d.mode (plG s.c.d.d.g) s.inj):Nat):Int)))=true from decide_eq_true (by have h3:=(si_at q1 q2); omega)) (.ix (i:=(sj s.c.d.d.mode (plG s.c.d.d.g) s.inj (si s.c.d.d.mode (plG s.c.d.d.g) s.inj))) (m:=(si s.c.d.d.mode (plG s.c.d.d.g) s.inj)) (by have h3:=(si_at q1 q2); omega) (.ix (i:=(sj s.c.d.d.mode (plG s.c.d.d.g) s.inj (si s.c.d.d.mode (plG s.c.d.d.g) s.inj))) (m:=s.inj.length) (by have h3:=(si_at q1 q2); omega) (.el (e:=eInj) (gDx (l:=s.inj) (i:=(sj s.c.d.d.mode (plG s.c.d.d.g) s.inj (si s.c.d.d.mode (plG s.c.d.d.g) s.inj))) eInj0 (by have h3:=(si_at q1 q2); omega)) (.cs 1000012 (jClash_v0 s.c.d.d.mode (s.inj.getD (sj s.c.d.d.mode (plG s.c.d.d.g) s.inj (si s.c.d.d.mode (plG s.c.d.d.g) s.inj)) eInj0).f (s.inj.getD (si s.c.d.d.mode (plG s.c.d.d.g) s.inj) eInj0).f) 40 [] [] (fun z=>[(85,vt (bif z then (bif (decide ((s.inj.getD (sj s.c.d.d.mode (plG s.c.d.d.g) s.inj (si s.c.d.d.mode (plG s.c.d.d.g) s.inj)) eInj0).f.kind=1)) then (decide (IntKind.i64.wrap ((s.inj.getD (si s.c.d.d.mode (plG s.c.d.d.g) s.inj) eInj0).scrubs - (s.inj.getD (sj s.c.d.d.mode (plG s.c.d.d.g) s.inj (si s.c.d.d.mode (plG s.c.d.d.g) s.inj)) eInj0).scrubs) < IntKind.i64.wrap ((IntKind.i64.wrap (s.c.d.d.g.ranks + s.c.d.d.g.spares)) * (perRank_v0 s.c.d.d.g)))) else true) else false))]) (fun z=>[]) (fun hq1=>(.cs 1000012 (decide ((s.inj.getD (sj s.c.d.d.mode (plG s.c.d.d.g) s.inj (si s.c.d.d.mode (plG s.c.d.d.g) s.inj)) eInj0).f.kind=1)) 40 [] [] (fun z=>[(85,vt (bif z then (decide (IntKind.i64.wrap ((s.inj.getD (si s.c.d.d.mode (plG s.c.d.d.g) s.inj) eInj0).scrubs - (s.inj.getD (sj s.c.d.d.mode (plG s.c.d.d.g) s.inj (si s.c.d.d.mode (plG s.c.d.d.g) s.inj)) eInj0).scrubs) < IntKind.i64.wrap ((IntKind.i64.wrap (s.c.d.d.g.ranks + s.c.d.d.g.spares)) * (perRank_v0 s.c.d.d.g)))) else true))]) (fun z=>[]) (fun hq2=>(.c [] (jClash s.c.d.d.mode (s.inj.getD (sj s.c.d.d.mode (plG s.c.d.d.g) s.inj (si s.c.d.d.mode (plG s.c.d.d.g) s.inj)) eInj0).f (s.inj.getD (si s.c.d.d.mode (plG s.c.d.d.g) s.inj) eInj0).f hm) (.t hq1 (.t hq1 (.t hq1 (.t hq1 (.t hq1 (.g hq2 (.g hq2 (.g hq2 (.g hq2 (.g hq2 (.g hq2 (.g hq2 (.t hq1 (.g hq2 (.t hq1 .nil))))))))))))))))) (fun hq2=>(.c [] (jClash s.c.d.d.mode (s.inj.getD (sj s.c.d.d.mode (plG s.c.d.d.g) s.inj (si s.c.d.d.mode (plG s.c.d.d.g) s.inj)) eInj0).f (s.inj.getD (si s.c.d.d.mode (plG s.c.d.d.g) s.inj) eInj0).f hm) (.t hq1 (.t hq1 (.t hq1 (.t hq1 (.t hq1 (.g hq2 (.g hq2 (.g hq2 (.g hq2 (.g hq2 (.g hq2 (.g hq2 (.t hq1 (.g hq2 (.t hq1 .nil))))))))))))))))) .nil)) (fun hq1=>(.c [] (jClash s.c.d.d.mode (s.inj.getD (sj s.c.d.d.mode (plG s.c.d.d.g) s.inj (si s.c.d.d.mode (plG s.c.d.d.g) s.inj)) eInj0).f (s.inj.getD (si s.c.d.d.mode (plG s.c.d.d.g) s.inj) eInj0).f hm) (.t hq1 (.t hq1 (.t hq1 (.t hq1 (.t hq1 (.t hq1 (.t hq1 .nil))))))))) (.t (sj_at (n:=(plG s.c.d.d.g)) (si_at q1 q2)) .nil))))))))))))))))))))))))
 ·rw [cneg q1] at d0
  have q1':=of_decide_eq_false q1
  subst d0
  exact so Tryz.f53 8 (ir 0 33) (.c (ir 0 33) (xInjected s) (.c [.id 31,.id 34] (collect s.inj hv) (.c (ir 0 33) (gDev s) (.c (ir 16 8) (vDram s.c.d) (.c (ir 20 4) (dMode s.c.d.d) (.c (ir 0 33) (gDev s) (.c (ir 16 8) (vDram s.c.d) (.c (ir 20 4) (dGeom s.c.d.d) (.c [] (perRank s.c.d.d.g) (.lp (si s.c.d.d.mode (plG s.c.d.d.g) s.inj) 38 [] [] (fun i=>[(32,vn i)]) (fun i=>[]) gd1 (.t q1 .nil)))))))))))
end Go.Proofs.YtoflmffbkdekcaaGreat
