import Derived.Test.YtoflmffbkdekcaaGreatFJN
import Derived.Test.YtoflmffbkdekcaaGreatFJR
namespace Go.Proofs.YtoflmffbkdekcaaGreat
open Go Go.RowKit
set_option linter.unusedVariables false
set_option linter.unusedSimpArgs false
set_option maxRecDepth 100000
def lclash_v0 (m:Int) (a:Flt) (b:Flt):Bool:=bif decide (m=2) then (bif decide (a.rank=b.rank) then (bif decide (0≤(covers_v0 2 a)) then (bif decide (0≤(covers_v0 2 b)) then (!(decide ((covers_v0 2 a)=(covers_v0 2 b)))) else false) else false) else false) else (bif decide (a.kind < 1) then false else (bif decide (2 < a.kind) then false else (bif decide (b.kind < 1) then false else (bif decide (2 < b.kind) then false else (bif decide (a.bit < 0) then false else (bif decide (b.bit < 0) then false else (bif decide (575 < a.bit) then false else (bif decide (575 < b.bit) then false else (bif ((decide (a.rank=b.rank)) && ((decide (a.bank=b.bank)) && ((decide (a.row=b.row)) && ((decide (a.col=b.col)) && true)))) then (bif decide (IntKind.i64.wrap (a.bit.tdiv 72)=IntKind.i64.wrap (b.bit.tdiv 72)) then (!(decide (a.bit=b.bit))) else false) else false)))))))))
theorem lclash (m : Int) (a : Flt) (b : Flt) (hm : m = 1 ∨ m = 2) : Sp P 52 [vi m, .ag [vi a.kind, vi a.rank, vi a.bank, vi a.row, vi a.col, vi a.chip, vi a.bit, vi a.value], .ag [vi b.kind, vi b.rank, vi b.bank, vi b.row, vi b.col, vi b.chip, vi b.bit, vi b.value]] [] (vt (lclash_v0 m a b)) [] := by
 generalize d0:lclash_v0 m a b=yd0
 unfold lclash_v0 at d0
 rcases bft (decide (m=2)) with q1 | q1
 ·rw [cpos q1] at d0
  rcases bft (decide (a.rank=b.rank)) with q2 | q2
  ·rw [cpos q2] at d0
   rcases bft (decide (0≤(covers_v0 2 a))) with q3 | q3
   ·rw [cpos q3] at d0
    rcases bft (decide (0≤(covers_v0 2 b))) with q4 | q4
    ·rw [cpos q4] at d0
     subst d0
     exact so Tryz.f52 8 [] (.t q1 (.t q2 (.t q2 (.c [] (covers 2 a (Or.inr rfl)) (.t q2 (.t q2 (.t q3 (.t q3 (.c [] (covers 2 b (Or.inr rfl)) (.t q3 (.t q3 (.t q4 (.t q4 (.c [] (covers 2 a (Or.inr rfl)) (.t q4 (.t q4 (.c [] (covers 2 b (Or.inr rfl)) (.t q4 (.t q4 .nil)))))))))))))))))))
    ·rw [cneg q4] at d0
     subst d0
     exact so Tryz.f52 6 [] (.t q1 (.t q2 (.t q2 (.c [] (covers 2 a (Or.inr rfl)) (.t q2 (.t q2 (.t q3 (.t q3 (.c [] (covers 2 b (Or.inr rfl)) (.t q3 (.t q3 (.t q4 (.t q4 (.t q4 (.t q4 (.t q4 (.t q4 .nil)))))))))))))))))
   ·rw [cneg q3] at d0
    subst d0
    exact so Tryz.f52 5 [] (.t q1 (.t q2 (.t q2 (.c [] (covers 2 a (Or.inr rfl)) (.t q2 (.t q2 (.t q3 (.t q3 (.t q3 (.t q3 (.n (.n (.n (.n (.n (.n .nil))))))))))))))))
  ·rw [cneg q2] at d0
   subst d0
   exact so Tryz.f52 4 [] (.t q1 (.t q2 (.t q2 (.t q2 (.t q2 (.n (.n (.n (.n (.n (.n (.n (.n (.n (.n .nil)))))))))))))))
 ·rw [cneg q1] at d0
  rcases bft (decide (a.kind < 1)) with q2 | q2
  ·rw [cpos q2] at d0
   subst d0
   exact so Tryz.f52 4 [] (.t q1 (.t q2 (.t q2 (.t q2 (.t q2 (.y (.y (.y (.y (.y (.y (.y (.y (.y (.y (.y (.y (.y (.y (.y (.y (.y (.y (.y (.y (.y (.y (.y (.y (.y .nil))))))))))))))))))))))))))))))
  ·rw [cneg q2] at d0
   rcases bft (decide (2 < a.kind)) with q3 | q3
   ·rw [cpos q3] at d0
    subst d0
    exact so Tryz.f52 4 [] (.t q1 (.t q2 (.t q2 (.t q2 (.t q2 (.t q3 (.t q3 (.t q3 (.t q3 (.y (.y (.y (.y (.y (.y (.y (.y (.y (.y (.y (.y (.y (.y (.y (.y (.y (.y (.y (.y (.y .nil))))))))))))))))))))))))))))))
   ·rw [cneg q3] at d0
    rcases bft (decide (b.kind < 1)) with q4 | q4
    ·rw [cpos q4] at d0
     subst d0
     exact so Tryz.f52 4 [] (.t q1 (.t q2 (.t q2 (.t q2 (.t q2 (.t q3 (.t q3 (.t q3 (.t q3 (.t q4 (.t q4 (.t q4 (.t q4 (.y (.y (.y (.y (.y (.y (.y (.y (.y (.y (.y (.y (.y (.y (.y (.y (.y .nil))))))))))))))))))))))))))))))
    ·rw [cneg q4] at d0
     rcases bft (decide (2 < b.kind)) with q5 | q5
     ·rw [cpos q5] at d0
      subst d0
      exact so Tryz.f52 4 [] (.t q1 (.t q2 (.t q2 (.t q2 (.t q2 (.t q3 (.t q3 (.t q3 (.t q3 (.t q4 (.t q4 (.t q4 (.t q4 (.t q5 (.t q5 (.t q5 (.t q5 (.y (.y (.y (.y (.y (.y (.y (.y (.y (.y (.y (.y (.y .nil))))))))))))))))))))))))))))))
     ·rw [cneg q5] at d0
      rcases bft (decide (a.bit < 0)) with q6 | q6
      ·rw [cpos q6] at d0
       subst d0
       exact so Tryz.f52 4 [] (.t q1 (.t q2 (.t q2 (.t q2 (.t q2 (.t q3 (.t q3 (.t q3 (.t q3 (.t q4 (.t q4 (.t q4 (.t q4 (.t q5 (.t q5 (.t q5 (.t q5 (.t q6 (.t q6 (.t q6 (.t q6 (.y (.y (.y (.y (.y (.y (.y (.y (.y .nil))))))))))))))))))))))))))))))
      ·rw [cneg q6] at d0
       rcases bft (decide (b.bit < 0)) with q7 | q7
       ·rw [cpos q7] at d0
        subst d0
        exact so Tryz.f52 4 [] (.t q1 (.t q2 (.t q2 (.t q2 (.t q2 (.t q3 (.t q3 (.t q3 (.t q3 (.t q4 (.t q4 (.t q4 (.t q4 (.t q5 (.t q5 (.t q5 (.t q5 (.t q6 (.t q6 (.t q6 (.t q6 (.t q7 (.t q7 (.t q7 (.t q7 (.y (.y (.y (.y (.y .nil))))))))))))))))))))))))))))))
       ·rw [cneg q7] at d0
        rcases bft (decide (575 < a.bit)) with q8 | q8
        ·rw [cpos q8] at d0
         subst d0
         exact so Tryz.f52 4 [] (.t q1 (.t q2 (.t q2 (.t q2 (.t q2 (.t q3 (.t q3 (.t q3 (.t q3 (.t q4 (.t q4 (.t q4 (.t q4 (.t q5 (.t q5 (.t q5 (.t q5 (.t q6 (.t q6 (.t q6 (.t q6 (.t q7 (.t q7 (.t q7 (.t q7 (.t q8 (.t q8 (.t q8 (.t q8 (.y .nil))))))))))))))))))))))))))))))
        ·rw [cneg q8] at d0
         rcases bft (decide (575 < b.bit)) with q9 | q9
         ·rw [cpos q9] at d0
          subst d0
          exact so Tryz.f52 4 [] (.t q1 (.t q2 (.t q2 (.t q2 (.t q2 (.t q3 (.t q3 (.t q3 (.t q3 (.t q4 (.t q4 (.t q4 (.t q4 (.t q5 (.t q5 (.t q5 (.t q5 (.t q6 (.t q6 (.t q6 (.t q6 (.t q7 (.t q7 (.t q7 (.t q7 (.t q8 (.t q8 (.t q8 (.t q8 (.t q9 .nil))))))))))))))))))))))))))))))
         ·rw [cneg q9] at d0
          rcases bft ((decide (a.rank=b.rank)) && ((decide (a.bank=b.bank)) && ((decide (a.row=b.row)) && ((decide (a.col=b.col)) && true)))) with q10 | q10
          ·rw [cpos q10] at d0
           rcases bft (decide (IntKind.i64.wrap (a.bit.tdiv 72)=IntKind.i64.wrap (b.bit.tdiv 72))) with q11 | q11
           ·rw [cpos q11] at d0
            subst d0
            exact so Tryz.f52 4 [] (.t q1 (.t q2 (.t q2 (.t q2 (.t q2 (.t q3 (.t q3 (.t q3 (.t q3 (.t q4 (.t q4 (.t q4 (.t q4 (.t q5 (.t q5 (.t q5 (.t q5 (.t q6 (.t q6 (.t q6 (.t q6 (.t q7 (.t q7 (.t q7 (.t q7 (.t q8 (.t q8 (.t q8 (.t q8 (.t q9 (.t q10 (.t q10 (.t q10 (.t q10 (.t q10 (.t q10 (.t q10 (.t q10 (.t q11 (.t q11 (.t q11 (.t q11 (.t q11 (.t q11 .nil))))))))))))))))))))))))))))))))))))))))))))
           ·rw [cneg q11] at d0
            subst d0
            exact so Tryz.f52 4 [] (.t q1 (.t q2 (.t q2 (.t q2 (.t q2 (.t q3 (.t q3 (.t q3 (.t q3 (.t q4 (.t q4 (.t q4 (.t q4 (.t q5 (.t q5 (.t q5 (.t q5 (.t q6 (.t q6 (.t q6 (.t q6 (.t q7 (.t q7 (.t q7 (.t q7 (.t q8 (.t q8 (.t q8 (.t q8 (.t q9 (.t q10 (.t q10 (.t q10 (.t q10 (.t q10 (.t q10 (.t q10 (.t q10 (.t q11 (.t q11 (.t q11 (.t q11 (.t q11 (.t q11 .nil))))))))))))))))))))))))))))))))))))))))))))
          ·rw [cneg q10] at d0
           subst d0
           exact so Tryz.f52 4 [] (.t q1 (.t q2 (.t q2 (.t q2 (.t q2 (.t q3 (.t q3 (.t q3 (.t q3 (.t q4 (.t q4 (.t q4 (.t q4 (.t q5 (.t q5 (.t q5 (.t q5 (.t q6 (.t q6 (.t q6 (.t q6 (.t q7 (.t q7 (.t q7 (.t q7 (.t q8 (.t q8 (.t q8 (.t q8 (.t q9 (.t q10 (.t q10 (.t q10 (.t q10 (.t q10 (.t q10 (.t q10 (.t q10 (.n (.n (.n (.n (.n (.n .nil))))))))))))))))))))))))))))))))))))))))))))
theorem w72 {b:Int} (h0:0≤b) (h1:b < 576):IntKind.i64.wrap ((b.fdiv (2 ^ 3)).tdiv 9)=b / 72∧IntKind.i64.wrap (b.tdiv 72)=b / 72:=by
 rw [Int.fdiv_eq_ediv_of_nonneg _ (by decide),Int.tdiv_eq_ediv_of_nonneg (by omega),Int.tdiv_eq_ediv_of_nonneg h0]
 have e:b / 2 ^ 3 / 9=b / 72:=by omega
 rw [e,wrap_ok (by omega) (by omega)]
 exact ⟨rfl,rfl⟩
theorem bifAnd (c x:Bool):cond c x false=(c && x):=by cases c <;> rfl
theorem bifOr (c x:Bool):cond c true x=(c || x):=by cases c <;> rfl
theorem bifNot (c x:Bool):cond c false x=(!c && x):=by cases c <;> rfl
theorem clash_eq {m:Int} (hm:m=1 ∨ m=2) (a b:Flt):jClash_v0 m a b=lclash_v0 m a b:=by
 rcases hm with rfl | rfl
 ·unfold jClash_v0 lclash_v0 narrow_v0 whose_v2 whose_v0
  simp only [show decide ((1:Int)=2)=false from rfl,show decide ((1:Int)=1)=true from rfl,cond_true,cond_false]
  by_cases ha:0≤a.bit∧a.bit < 576
  ·by_cases hb:0≤b.bit∧b.bit < 576
   ·obtain ⟨wa,wa'⟩:=w72 ha.1 ha.2
    obtain ⟨wb,wb'⟩:=w72 hb.1 hb.2
    unfold whose1_v2 whose1_v0
    rw [decide_eq_false (show ¬ a.bit < 0 by omega),decide_eq_false (show ¬ b.bit < 0 by omega),decide_eq_false (show ¬ 576≤a.bit by omega),decide_eq_false (show ¬ 576≤b.bit by omega)]
    simp only [cond_false,wa,wb,wa',wb']
    rw [Bool.eq_iff_iff]
    simp [bifAnd,bifOr,bifNot]
    omega
   ·have h1:whose1_v2 b.bit=12:=by
     unfold whose1_v2
     by_cases h:b.bit < 0
     ·rw [decide_eq_true h]; rfl
     ·rw [decide_eq_false h,decide_eq_true (show 576≤b.bit by omega)]; rfl
    rw [h1,Bool.eq_iff_iff]
    simp [bifAnd,bifOr,bifNot]
    omega
  ·have h1:whose1_v2 a.bit=12:=by
    unfold whose1_v2
    by_cases h:a.bit < 0
    ·rw [decide_eq_true h]; rfl
    ·rw [decide_eq_false h,decide_eq_true (show 576≤a.bit by omega)]; rfl
   rw [h1,Bool.eq_iff_iff]
   simp [bifAnd,bifOr,bifNot]
   omega
 ·unfold jClash_v0 lclash_v0
  simp only [show decide ((2:Int)=2)=true from rfl,cond_true]
  generalize covers_v0 2 a=x
  generalize covers_v0 2 b=y
  rw [Bool.eq_iff_iff]
  simp [bifAnd,bifOr,bifNot]
  omega
theorem clash_beq {m:Int} (hm:m=1 ∨ m=2) (a b:Flt):(jClash_v0 m a b == lclash_v0 m a b)=true:=by rw [clash_eq hm]; exact beq_self_eq_true _
theorem clash_sym (m:Int) (a b:Flt):(jClash_v0 m a b == jClash_v0 m b a)=true:=by
 have e:jClash_v0 m a b=jClash_v0 m b a:=by
  unfold jClash_v0
  generalize covers_v0 m a=x
  generalize covers_v0 m b=y
  generalize narrow_v0 a=na
  generalize narrow_v0 b=nb
  generalize whose_v2 m a.bit=p
  generalize whose_v2 m b.bit=q
  generalize whose_v0 m a.bit=u
  generalize whose_v0 m b.bit=v
  cases decide (m=2) <;> cases na <;> cases nb <;> (rw [Bool.eq_iff_iff]; simp [bifAnd,bifOr,bifNot]; try omega)
 rw [e]; exact beq_self_eq_true _
def swI (m n:Int) (l:List Inj) (x:Inj) (w:Bool):Nat→Bool
 | 0=>w
 | j + 1=>bif swI m n l x w j then (bif lclash_v0 m (l.getD j eInj0).f x.f then (bif decide ((l.getD j eInj0).f.kind=1) then (decide (n≤IntKind.i64.wrap (x.scrubs - (l.getD j eInj0).scrubs))) else false) else true) else false
def swK (b w:Bool) (x:Inj):Bool:=bif w then (bif decide (x.f.kind < 6) then (bif b then true else (decide (x.f.kind < 3))) else false) else false
def swO (b:Bool) (m n:Int) (l:List Inj):Nat→Bool
 | 0=>true
 | i + 1=>swI m n l (l.getD i eInj0) (swK b (swO b m n l i) (l.getD i eInj0)) i
def plN (g:Gm):Int:=IntKind.i64.wrap ((IntKind.i64.wrap ((IntKind.i64.wrap ((IntKind.i64.wrap (g.ranks + g.spares)) * g.banks)) * g.rows)) * g.cols)
def gIn (c:Cfg) (l:List Stp):List Inj:=gaT eInj0 (mPl c l).inj (mPl c l).inj.length
theorem gIn_eq (c:Cfg) (l:List Stp):gIn c l=(mPl c l).inj:=gaT_all _ _
def sparse_v0 (c:Cfg) (l:List Stp) (a:Flt) (b:Flt) (k:Int):Bool:=bif decide (c.mode=2) then (bif (pl25 c l.length 60) then ((sparse2_v0 (mPl c l)) == (swO true c.mode (plN c.ly.g) (gIn c l) (gIn c l).length)) else true) else (bif (pl25 c l.length 60) then ((sparse2_v0 (mPl c l)) == (swO false c.mode (plN c.ly.g) (gIn c l) (gIn c l).length)) else true)
theorem sparse (c:Cfg) (l:List Stp) (a:Flt) (b:Flt) (k:Int) (hs:∀ x ∈ l,StpOk x):Sp P 8 [.ag [vi c.ly.g.ranks,vi c.ly.g.spares,vi c.ly.g.banks,vi c.ly.g.rows,vi c.ly.g.cols,vi c.ly.way,vi c.ly.res,vi c.mode,vi c.rules.rank.limit,vi c.rules.rank.every,vi c.rules.page.limit,vi c.rules.page.every,vi c.rules.room,vi c.rules.heavy,vi c.log,vt c.back],.sl 0,.ag [vi a.kind,vi a.rank,vi a.bank,vi a.row,vi a.col,vi a.chip,vi a.bit,vi a.value],.ag [vi b.kind,vi b.rank,vi b.bank,vi b.row,vi b.col,vi b.chip,vi b.bit,vi b.value],vi k] [.ro (.row eStp l)] (vt (sparse_v0 c l a b k)) [.ro (.row eStp l)]:=by
 have gs1:∀ {I:List It} {O:List Ob} (a1:(decide (k=1))=true) (gg:Good P I O),Good P _ _:=fun a1 gg=>(.t a1 (.t a1 (.t a1 (.y (.y (.y (.y (.c [] (jClash k a b (Or.inl (of_decide_eq_true a1))) (.y (.y (.y (.y (.c [] (lclash k a b (Or.inl (of_decide_eq_true a1))) (.y (.y (.t (congrArg (!·) (show ((jClash_v0 k a b) == (lclash_v0 k a b))=true from (clash_beq (Or.inl (of_decide_eq_true a1)) a b))) (.t (congrArg (!·) (show ((jClash_v0 k a b) == (lclash_v0 k a b))=true from (clash_beq (Or.inl (of_decide_eq_true a1)) a b))) (.t (congrArg (!·) (show ((jClash_v0 k a b) == (lclash_v0 k a b))=true from (clash_beq (Or.inl (of_decide_eq_true a1)) a b))) (.t (congrArg (!·) (show ((jClash_v0 k a b) == (lclash_v0 k a b))=true from (clash_beq (Or.inl (of_decide_eq_true a1)) a b))) (.c [] (jClash k a b (Or.inl (of_decide_eq_true a1))) (.t (congrArg (!·) (show ((jClash_v0 k a b) == (lclash_v0 k a b))=true from (clash_beq (Or.inl (of_decide_eq_true a1)) a b))) (.t (congrArg (!·) (show ((jClash_v0 k a b) == (lclash_v0 k a b))=true from (clash_beq (Or.inl (of_decide_eq_true a1)) a b))) (.t (congrArg (!·) (show ((jClash_v0 k a b) == (lclash_v0 k a b))=true from (clash_beq (Or.inl (of_decide_eq_true a1)) a b))) (.t (congrArg (!·) (show ((jClash_v0 k a b) == (lclash_v0 k a b))=true from (clash_beq (Or.inl (of_decide_eq_true a1)) a b))) (.c [] (jClash k b a (Or.inl (of_decide_eq_true a1))) (.t (congrArg (!·) (show ((jClash_v0 k a b) == (lclash_v0 k a b))=true from (clash_beq (Or.inl (of_decide_eq_true a1)) a b))) (.y (.t (congrArg (!·) (show ((jClash_v0 k a b) == (lclash_v0 k a b))=true from (clash_beq (Or.inl (of_decide_eq_true a1)) a b))) (.y (.t (congrArg (!·) (show ((jClash_v0 k a b) == (jClash_v0 k b a))=true from (clash_sym k a b))) gg))))))))))))))))))))))))))))))
 have gs2:∀ {I:List It} {O:List Ob} (a1:(pl25 c l.length 60)=true) (gg:Good P I O),Good P _ _:=fun a1 gg=>(.c [.id 0] (played_raw c l 60 a1 (by decide) hs) (.fz [40] (.n (.c (ir 9 33) (xInjected (mPl c l)) (.lp (mPl c l).inj.length 48 [(47,.nil)] [(47,.id 51)] (fun i=>[(7,vn i)]) (fun i=>[(43,.blk [.sl 47] 104),(45,.lo .ready none),(47,.row eInj (gaT eInj0 (mPl c l).inj i))]) (fun i hi=>(.t (show (decide (((i:Nat):Int) < (((mPl c l).inj.length:Nat):Int)))=true from decide_eq_true (by omega)) (.ix (i:=i) (m:=(mPl c l).inj.length) (by have h9:=(mPl_h a1 hs (by decide)).il; have h8:=congrArg List.length (gIn_eq c l); omega) (.el (e:=eInj) (gDx (l:=(mPl c l).inj) (i:=i) eInj0 (by have h9:=(mPl_h a1 hs (by decide)).il; have h8:=congrArg List.length (gIn_eq c l); omega)) (.bs 82 (e:=eInj) [((mPl c l).inj.getD i eInj0)] (.ap (e:=eInj) (l:=gaT eInj0 (mPl c l).inj i) (l':=[((mPl c l).inj.getD i eInj0)]) .row .row (by have:=(mPl_h a1 hs (by decide)).il; rw [gaT_len]; simp only [List.length_cons,List.length_nil]; omega) (.n (.e 15 (aAdd (a:=((i:Nat):Int)) (b:=1) (c:=((i + 1:Nat):Int)) (by have h9:=(mPl_h a1 hs (by decide)).il; have h8:=congrArg List.length (gIn_eq c l); omega)) .nil)))))))) (.t (show (decide ((((mPl c l).inj.length:Nat):Int) < (((mPl c l).inj.length:Nat):Int)))=false from decide_eq_false (by omega)) gg))))))
 have gs3:∀ {I:List It} {O:List Ob} (a1:(pl25 c l.length 60)=true) (a2:(decide (c.mode=2))=true) (gg:Good P I O),Good P _ _:=fun a1 a2 gg=>by have a2':=of_decide_eq_true a2; exact (.lp (gIn c l).length 48 [] [] (fun i=>[(86,vn i),(17,vt (swO true c.mode (plN c.ly.g) (gIn c l) i))]) (fun i=>[]) (fun i hi=>(.t (show (decide (((i:Nat):Int) < (((gIn c l).length:Nat):Int)))=true from decide_eq_true (by omega)) (.ix (i:=i) (m:=(gIn c l).length) (by have h9:=(mPl_h a1 hs (by decide)).il; have h8:=congrArg List.length (gIn_eq c l); omega) (.el (e:=eInj) (gDx (l:=gIn c l) (i:=i) eInj0 (by have h9:=(mPl_h a1 hs (by decide)).il; have h8:=congrArg List.length (gIn_eq c l); omega)) (.cs 1000018 (swO true c.mode (plN c.ly.g) (gIn c l) i) 49 [] [] (fun z=>[(17,vt (bif z then (bif (decide (((gIn c l).getD i eInj0).f.kind < 6)) then true else false) else false))]) (fun z=>[]) (fun hq1=>(.cs 1000018 (decide (((gIn c l).getD i eInj0).f.kind < 6)) 49 [] [] (fun z=>[(17,vt (bif z then true else false))]) (fun z=>[]) (fun hq2=>(.t hq1 (.t hq1 (.t hq1 (.t hq1 (.t hq1 (.t hq2 (.t hq2 (.t hq2 (.t hq2 (.t a2 (.t a2 (.t a2 (.t a2 (.t hq2 (.t a2 (.t hq2 .nil))))))))))))))))) (fun hq2=>(.t hq1 (.t hq1 (.t hq1 (.t hq1 (.t hq1 (.t hq2 (.t hq2 (.t hq2 (.t hq2 (.t hq2 (.t hq2 .nil)))))))))))) .nil)) (fun hq1=>(.t hq1 (.t hq1 (.t hq1 (.t hq1 (.t hq1 (.n (.n (.n (.n (.n (.n .nil)))))))))))) (.sl (i:=0) (n:=i) (m:=(gIn c l).length) (hi:=((i:Nat):Int)) (h2:=by omega) (by omega) (.sl (i:=0) (n:=i) (m:=(gIn c l).length) (by have h9:=(mPl_h a1 hs (by decide)).il; have h8:=congrArg List.length (gIn_eq c l); omega) (.lp i 49 [] [] (fun j=>[(113,vn j),(17,vt (swI c.mode (plN c.ly.g) (gIn c l) ((gIn c l).getD i eInj0) (bif (swO true c.mode (plN c.ly.g) (gIn c l) i) then (bif (decide (((gIn c l).getD i eInj0).f.kind < 6)) then true else false) else false) j))]) (fun j=>[]) (fun j hj=>(.t (show (decide (((j:Nat):Int) < ((i:Nat):Int)))=true from decide_eq_true (by omega)) (.ix (i:=j) (m:=i) (by have h9:=(mPl_h a1 hs (by decide)).il; have h8:=congrArg List.length (gIn_eq c l); omega) (.ix (i:=j) (m:=(gIn c l).length) (by have h9:=(mPl_h a1 hs (by decide)).il; have h8:=congrArg List.length (gIn_eq c l); omega) (.el (e:=eInj) (gDx (l:=gIn c l) (i:=j) eInj0 (by have h9:=(mPl_h a1 hs (by decide)).il; have h8:=congrArg List.length (gIn_eq c l); omega)) (.cs 1000022 (swI c.mode (plN c.ly.g) (gIn c l) ((gIn c l).getD i eInj0) (bif (swO true c.mode (plN c.ly.g) (gIn c l) i) then (bif (decide (((gIn c l).getD i eInj0).f.kind < 6)) then true else false) else false) j) 50 [] [] (fun z=>[(17,vt (bif z then (bif (lclash_v0 c.mode ((gIn c l).getD j eInj0).f ((gIn c l).getD i eInj0).f) then (bif (decide (((gIn c l).getD j eInj0).f.kind=1)) then (decide (IntKind.i64.wrap ((IntKind.i64.wrap ((IntKind.i64.wrap ((IntKind.i64.wrap (c.ly.g.ranks + c.ly.g.spares)) * c.ly.g.banks)) * c.ly.g.rows)) * c.ly.g.cols)≤IntKind.i64.wrap (((gIn c l).getD i eInj0).scrubs - ((gIn c l).getD j eInj0).scrubs))) else false) else true) else false))]) (fun z=>[]) (fun hq1=>(.cs 1000022 (lclash_v0 c.mode ((gIn c l).getD j eInj0).f ((gIn c l).getD i eInj0).f) 50 [] [] (fun z=>[(17,vt (bif z then (bif (decide (((gIn c l).getD j eInj0).f.kind=1)) then (decide (IntKind.i64.wrap ((IntKind.i64.wrap ((IntKind.i64.wrap ((IntKind.i64.wrap (c.ly.g.ranks + c.ly.g.spares)) * c.ly.g.banks)) * c.ly.g.rows)) * c.ly.g.cols)≤IntKind.i64.wrap (((gIn c l).getD i eInj0).scrubs - ((gIn c l).getD j eInj0).scrubs))) else false) else true))]) (fun z=>[]) (fun hq2=>(.cs 1000022 (decide (((gIn c l).getD j eInj0).f.kind=1)) 50 [] [] (fun z=>[(17,vt (bif z then (decide (IntKind.i64.wrap ((IntKind.i64.wrap ((IntKind.i64.wrap ((IntKind.i64.wrap (c.ly.g.ranks + c.ly.g.spares)) * c.ly.g.banks)) * c.ly.g.rows)) * c.ly.g.cols)≤IntKind.i64.wrap (((gIn c l).getD i eInj0).scrubs - ((gIn c l).getD j eInj0).scrubs))) else false))]) (fun z=>[]) (fun hq3=>(.t hq1 (.t hq1 (.t hq1 (.t hq1 (.t hq1 (.t hq1 (.t hq1 (.c [] (lclash c.mode ((gIn c l).getD j eInj0).f ((gIn c l).getD i eInj0).f ((by rw [mPl_md c l]; exact (mPl_h a1 hs (by decide)).c.d.d.md))) (.t hq1 (.t hq1 (.g hq2 (.g hq2 (.g hq2 (.g hq2 (.g hq2 (.t hq3 (.t hq3 (.t hq3 (.t hq3 (.t hq3 (.t hq3 (.t hq3 (.g hq2 (.t hq3 (.t hq1 (.g hq2 (.t hq1 .nil)))))))))))))))))))))))))))) (fun hq3=>(.t hq1 (.t hq1 (.t hq1 (.t hq1 (.t hq1 (.t hq1 (.t hq1 (.c [] (lclash c.mode ((gIn c l).getD j eInj0).f ((gIn c l).getD i eInj0).f ((by rw [mPl_md c l]; exact (mPl_h a1 hs (by decide)).c.d.d.md))) (.t hq1 (.t hq1 (.g hq2 (.g hq2 (.g hq2 (.g hq2 (.g hq2 (.t hq3 (.t hq3 (.t hq3 (.t hq3 (.t hq3 (.t hq3 (.t hq3 (.g hq2 (.t hq3 (.t hq1 (.g hq2 (.t hq1 .nil)))))))))))))))))))))))))))) .nil)) (fun hq2=>(.t hq1 (.t hq1 (.t hq1 (.t hq1 (.t hq1 (.t hq1 (.t hq1 (.c [] (lclash c.mode ((gIn c l).getD j eInj0).f ((gIn c l).getD i eInj0).f ((by rw [mPl_md c l]; exact (mPl_h a1 hs (by decide)).c.d.d.md))) (.t hq1 (.t hq1 (.g hq2 (.g hq2 (.g hq2 (.g hq2 (.g hq2 (.g hq2 (.t hq1 (.g hq2 (.t hq1 .nil)))))))))))))))))))) .nil)) (fun hq1=>(.t hq1 (.t hq1 (.t hq1 (.t hq1 (.t hq1 (.t hq1 (.t hq1 (.t hq1 (.t hq1 (.t hq1 (.t hq1 .nil)))))))))))) (.e 143 (aAdd (a:=((j:Nat):Int)) (b:=1) (c:=((j + 1:Nat):Int)) (by have h9:=(mPl_h a1 hs (by decide)).il; have h8:=congrArg List.length (gIn_eq c l); omega)) .nil))))))) (.t (show (decide (((i:Nat):Int) < ((i:Nat):Int)))=false from decide_eq_false (by omega)) (.e 144 (aAdd (a:=((i:Nat):Int)) (b:=1) (c:=((i + 1:Nat):Int)) (by have h9:=(mPl_h a1 hs (by decide)).il; have h8:=congrArg List.length (gIn_eq c l); omega)) .nil)))))))))) (.t (show (decide ((((gIn c l).length:Nat):Int) < (((gIn c l).length:Nat):Int)))=false from decide_eq_false (by omega)) (.c (ir 9 33) (sparse2 (mPl c l) (Nat.le_trans (mPl_h a1 hs (by decide)).il (by decide)) ((mPl_h a1 hs (by decide)).c.d.d.md)) gg)))
 have gs4:∀ {I:List It} {O:List Ob} (a1:(pl25 c l.length 60)=true) (a2:(decide (c.mode=2))=false) (gg:Good P I O),Good P _ _:=fun a1 a2 gg=>by have a2':=of_decide_eq_false a2; exact (.lp (gIn c l).length 48 [] [] (fun i=>[(86,vn i),(17,vt (swO false c.mode (plN c.ly.g) (gIn c l) i))]) (fun i=>[]) (fun i hi=>(.t (show (decide (((i:Nat):Int) < (((gIn c l).length:Nat):Int)))=true from decide_eq_true (by omega)) (.ix (i:=i) (m:=(gIn c l).length) (by have h9:=(mPl_h a1 hs (by decide)).il; have h8:=congrArg List.length (gIn_eq c l); omega) (.el (e:=eInj) (gDx (l:=gIn c l) (i:=i) eInj0 (by have h9:=(mPl_h a1 hs (by decide)).il; have h8:=congrArg List.length (gIn_eq c l); omega)) (.cs 1000018 (swO false c.mode (plN c.ly.g) (gIn c l) i) 49 [] [] (fun z=>[(17,vt (bif z then (bif (decide (((gIn c l).getD i eInj0).f.kind < 6)) then (decide (((gIn c l).getD i eInj0).f.kind < 3)) else false) else false))]) (fun z=>[]) (fun hq1=>(.cs 1000018 (decide (((gIn c l).getD i eInj0).f.kind < 6)) 49 [] [] (fun z=>[(17,vt (bif z then (decide (((gIn c l).getD i eInj0).f.kind < 3)) else false))]) (fun z=>[]) (fun hq2=>(.t hq1 (.t hq1 (.t hq1 (.t hq1 (.t hq1 (.t hq2 (.t hq2 (.t hq2 (.t hq2 (.t a2 (.t a2 (.t a2 (.t a2 (.t hq2 (.t a2 (.t hq2 .nil))))))))))))))))) (fun hq2=>(.t hq1 (.t hq1 (.t hq1 (.t hq1 (.t hq1 (.t hq2 (.t hq2 (.t hq2 (.t hq2 (.t hq2 (.t hq2 .nil)))))))))))) .nil)) (fun hq1=>(.t hq1 (.t hq1 (.t hq1 (.t hq1 (.t hq1 (.n (.n (.n (.n (.n (.n .nil)))))))))))) (.sl (i:=0) (n:=i) (m:=(gIn c l).length) (hi:=((i:Nat):Int)) (h2:=by omega) (by omega) (.sl (i:=0) (n:=i) (m:=(gIn c l).length) (by have h9:=(mPl_h a1 hs (by decide)).il; have h8:=congrArg List.length (gIn_eq c l); omega) (.lp i 49 [] [] (fun j=>[(113,vn j),(17,vt (swI c.mode (plN c.ly.g) (gIn c l) ((gIn c l).getD i eInj0) (bif (swO false c.mode (plN c.ly.g) (gIn c l) i) then (bif (decide (((gIn c l).getD i eInj0).f.kind < 6)) then (decide (((gIn c l).getD i eInj0).f.kind < 3)) else false) else false) j))]) (fun j=>[]) (fun j hj=>(.t (show (decide (((j:Nat):Int) < ((i:Nat):Int)))=true from decide_eq_true (by omega)) (.ix (i:=j) (m:=i) (by have h9:=(mPl_h a1 hs (by decide)).il; have h8:=congrArg List.length (gIn_eq c l); omega) (.ix (i:=j) (m:=(gIn c l).length) (by have h9:=(mPl_h a1 hs (by decide)).il; have h8:=congrArg List.length (gIn_eq c l); omega) (.el (e:=eInj) (gDx (l:=gIn c l) (i:=j) eInj0 (by have h9:=(mPl_h a1 hs (by decide)).il; have h8:=congrArg List.length (gIn_eq c l); omega)) (.cs 1000022 (swI c.mode (plN c.ly.g) (gIn c l) ((gIn c l).getD i eInj0) (bif (swO false c.mode (plN c.ly.g) (gIn c l) i) then (bif (decide (((gIn c l).getD i eInj0).f.kind < 6)) then (decide (((gIn c l).getD i eInj0).f.kind < 3)) else false) else false) j) 50 [] [] (fun z=>[(17,vt (bif z then (bif (lclash_v0 c.mode ((gIn c l).getD j eInj0).f ((gIn c l).getD i eInj0).f) then (bif (decide (((gIn c l).getD j eInj0).f.kind=1)) then (decide (IntKind.i64.wrap ((IntKind.i64.wrap ((IntKind.i64.wrap ((IntKind.i64.wrap (c.ly.g.ranks + c.ly.g.spares)) * c.ly.g.banks)) * c.ly.g.rows)) * c.ly.g.cols)≤IntKind.i64.wrap (((gIn c l).getD i eInj0).scrubs - ((gIn c l).getD j eInj0).scrubs))) else false) else true) else false))]) (fun z=>[]) (fun hq1=>(.cs 1000022 (lclash_v0 c.mode ((gIn c l).getD j eInj0).f ((gIn c l).getD i eInj0).f) 50 [] [] (fun z=>[(17,vt (bif z then (bif (decide (((gIn c l).getD j eInj0).f.kind=1)) then (decide (IntKind.i64.wrap ((IntKind.i64.wrap ((IntKind.i64.wrap ((IntKind.i64.wrap (c.ly.g.ranks + c.ly.g.spares)) * c.ly.g.banks)) * c.ly.g.rows)) * c.ly.g.cols)≤IntKind.i64.wrap (((gIn c l).getD i eInj0).scrubs - ((gIn c l).getD j eInj0).scrubs))) else false) else true))]) (fun z=>[]) (fun hq2=>(.cs 1000022 (decide (((gIn c l).getD j eInj0).f.kind=1)) 50 [] [] (fun z=>[(17,vt (bif z then (decide (IntKind.i64.wrap ((IntKind.i64.wrap ((IntKind.i64.wrap ((IntKind.i64.wrap (c.ly.g.ranks + c.ly.g.spares)) * c.ly.g.banks)) * c.ly.g.rows)) * c.ly.g.cols)≤IntKind.i64.wrap (((gIn c l).getD i eInj0).scrubs - ((gIn c l).getD j eInj0).scrubs))) else false))]) (fun z=>[]) (fun hq3=>(.t hq1 (.t hq1 (.t hq1 (.t hq1 (.t hq1 (.t hq1 (.t hq1 (.c [] (lclash c.mode ((gIn c l).getD j eInj0).f ((gIn c l).getD i eInj0).f ((by rw [mPl_md c l]; exact (mPl_h a1 hs (by decide)).c.d.d.md))) (.t hq1 (.t hq1 (.g hq2 (.g hq2 (.g hq2 (.g hq2 (.g hq2 (.t hq3 (.t hq3 (.t hq3 (.t hq3 (.t hq3 (.t hq3 (.t hq3 (.g hq2 (.t hq3 (.t hq1 (.g hq2 (.t hq1 .nil)))))))))))))))))))))))))))) (fun hq3=>(.t hq1 (.t hq1 (.t hq1 (.t hq1 (.t hq1 (.t hq1 (.t hq1 (.c [] (lclash c.mode ((gIn c l).getD j eInj0).f ((gIn c l).getD i eInj0).f ((by rw [mPl_md c l]; exact (mPl_h a1 hs (by decide)).c.d.d.md))) (.t hq1 (.t hq1 (.g hq2 (.g hq2 (.g hq2 (.g hq2 (.g hq2 (.t hq3 (.t hq3 (.t hq3 (.t hq3 (.t hq3 (.t hq3 (.t hq3 (.g hq2 (.t hq3 (.t hq1 (.g hq2 (.t hq1 .nil)))))))))))))))))))))))))))) .nil)) (fun hq2=>(.t hq1 (.t hq1 (.t hq1 (.t hq1 (.t hq1 (.t hq1 (.t hq1 (.c [] (lclash c.mode ((gIn c l).getD j eInj0).f ((gIn c l).getD i eInj0).f ((by rw [mPl_md c l]; exact (mPl_h a1 hs (by decide)).c.d.d.md))) (.t hq1 (.t hq1 (.g hq2 (.g hq2 (.g hq2 (.g hq2 (.g hq2 (.g hq2 (.t hq1 (.g hq2 (.t hq1 .nil)))))))))))))))))))) .nil)) (fun hq1=>(.t hq1 (.t hq1 (.t hq1 (.t hq1 (.t hq1 (.t hq1 (.t hq1 (.t hq1 (.t hq1 (.t hq1 (.t hq1 .nil)))))))))))) (.e 143 (aAdd (a:=((j:Nat):Int)) (b:=1) (c:=((j + 1:Nat):Int)) (by have h9:=(mPl_h a1 hs (by decide)).il; have h8:=congrArg List.length (gIn_eq c l); omega)) .nil))))))) (.t (show (decide (((i:Nat):Int) < ((i:Nat):Int)))=false from decide_eq_false (by omega)) (.e 144 (aAdd (a:=((i:Nat):Int)) (b:=1) (c:=((i + 1:Nat):Int)) (by have h9:=(mPl_h a1 hs (by decide)).il; have h8:=congrArg List.length (gIn_eq c l); omega)) .nil)))))))))) (.t (show (decide ((((gIn c l).length:Nat):Int) < (((gIn c l).length:Nat):Int)))=false from decide_eq_false (by omega)) (.c (ir 9 33) (sparse2 (mPl c l) (Nat.le_trans (mPl_h a1 hs (by decide)).il (by decide)) ((mPl_h a1 hs (by decide)).c.d.d.md)) gg)))
 have gs5:∀ {I:List It} {O:List Ob} (a1:(decide (k=2))=true) (gg:Good P I O),Good P _ _:=fun a1 gg=>(.t a1 (.t a1 (.t a1 (.t a1 (.c [] (jClash k a b (Or.inr (of_decide_eq_true a1))) (.t a1 (.t a1 (.t a1 (.t a1 (.c [] (lclash k a b (Or.inr (of_decide_eq_true a1))) (.t a1 (.t a1 (.t (congrArg (!·) (show ((jClash_v0 k a b) == (lclash_v0 k a b))=true from (clash_beq (Or.inr (of_decide_eq_true a1)) a b))) (.t (congrArg (!·) (show ((jClash_v0 k a b) == (lclash_v0 k a b))=true from (clash_beq (Or.inr (of_decide_eq_true a1)) a b))) (.t (congrArg (!·) (show ((jClash_v0 k a b) == (lclash_v0 k a b))=true from (clash_beq (Or.inr (of_decide_eq_true a1)) a b))) (.t (congrArg (!·) (show ((jClash_v0 k a b) == (lclash_v0 k a b))=true from (clash_beq (Or.inr (of_decide_eq_true a1)) a b))) (.c [] (jClash k a b (Or.inr (of_decide_eq_true a1))) (.t (congrArg (!·) (show ((jClash_v0 k a b) == (lclash_v0 k a b))=true from (clash_beq (Or.inr (of_decide_eq_true a1)) a b))) (.t (congrArg (!·) (show ((jClash_v0 k a b) == (lclash_v0 k a b))=true from (clash_beq (Or.inr (of_decide_eq_true a1)) a b))) (.t (congrArg (!·) (show ((jClash_v0 k a b) == (lclash_v0 k a b))=true from (clash_beq (Or.inr (of_decide_eq_true a1)) a b))) (.t (congrArg (!·) (show ((jClash_v0 k a b) == (lclash_v0 k a b))=true from (clash_beq (Or.inr (of_decide_eq_true a1)) a b))) (.c [] (jClash k b a (Or.inr (of_decide_eq_true a1))) (.t (congrArg (!·) (show ((jClash_v0 k a b) == (lclash_v0 k a b))=true from (clash_beq (Or.inr (of_decide_eq_true a1)) a b))) (.t a1 (.t (congrArg (!·) (show ((jClash_v0 k a b) == (lclash_v0 k a b))=true from (clash_beq (Or.inr (of_decide_eq_true a1)) a b))) (.t a1 (.t (congrArg (!·) (show ((jClash_v0 k a b) == (jClash_v0 k b a))=true from (clash_sym k a b))) gg)))))))))))))))))))))))))))
 have gs6:∀ {I:List It} {O:List Ob} (a1:(decide (k=2))=false) (gg:Good P I O),Good P _ _:=fun a1 gg=>(.t a1 (.t a1 (.t a1 (.t a1 (.t a1 (.t a1 (.t a1 (.t a1 (.t a1 (.t a1 (.t a1 (.t a1 (.n gg)))))))))))))
 have gs7:∀ {I:List It} {O:List Ob} (a1:(pl25 c l.length 60)=true) (gg:Good P I O),Good P _ _:=fun a1 gg=>(.c [.id 0] (played_raw c l 60 a1 (by decide) hs) (.fz [36] (.n (.c (ir 5 33) (xInjected (mPl c l)) (.lp (mPl c l).inj.length 44 [(43,.nil)] [(43,.id 47)] (fun i=>[(7,vn i)]) (fun i=>[(39,.blk [.sl 43] 104),(41,.lo .ready none),(43,.row eInj (gaT eInj0 (mPl c l).inj i))]) (fun i hi=>(.t (show (decide (((i:Nat):Int) < (((mPl c l).inj.length:Nat):Int)))=true from decide_eq_true (by omega)) (.ix (i:=i) (m:=(mPl c l).inj.length) (by have h9:=(mPl_h a1 hs (by decide)).il; have h8:=congrArg List.length (gIn_eq c l); omega) (.el (e:=eInj) (gDx (l:=(mPl c l).inj) (i:=i) eInj0 (by have h9:=(mPl_h a1 hs (by decide)).il; have h8:=congrArg List.length (gIn_eq c l); omega)) (.bs 82 (e:=eInj) [((mPl c l).inj.getD i eInj0)] (.ap (e:=eInj) (l:=gaT eInj0 (mPl c l).inj i) (l':=[((mPl c l).inj.getD i eInj0)]) .row .row (by have:=(mPl_h a1 hs (by decide)).il; rw [gaT_len]; simp only [List.length_cons,List.length_nil]; omega) (.n (.e 15 (aAdd (a:=((i:Nat):Int)) (b:=1) (c:=((i + 1:Nat):Int)) (by have h9:=(mPl_h a1 hs (by decide)).il; have h8:=congrArg List.length (gIn_eq c l); omega)) .nil)))))))) (.t (show (decide ((((mPl c l).inj.length:Nat):Int) < (((mPl c l).inj.length:Nat):Int)))=false from decide_eq_false (by omega)) gg))))))
 generalize d0:sparse_v0 c l a b k=yd0
 unfold sparse_v0 at d0
 rcases bft (decide (k=1)) with q1 | q1
 ·rcases bft (decide (c.mode=2)) with q2 | q2
  ·rw [cpos q2] at d0
   rcases bft (pl25 c l.length 60) with q3 | q3
   ·rw [cpos q3] at d0
    subst d0
    exact so Tryz.f8 52 [.id 0] (.c [] (anc25_t) (.n (gs1 q1 (gs2 q3 (gs3 q3 q2 .nil)))))
   ·rw [cneg q3] at d0
    subst d0
    exact so Tryz.f8 9 [.id 0] (.c [] (anc25_t) (.n (gs1 q1 (.c [.id 0] (played_no c l 60 q3) (.y .nil)))))
  ·rw [cneg q2] at d0
   rcases bft (pl25 c l.length 60) with q3 | q3
   ·rw [cpos q3] at d0
    subst d0
    exact so Tryz.f8 52 [.id 0] (.c [] (anc25_t) (.n (gs1 q1 (gs2 q3 (gs4 q3 q2 .nil)))))
   ·rw [cneg q3] at d0
    subst d0
    exact so Tryz.f8 9 [.id 0] (.c [] (anc25_t) (.n (gs1 q1 (.c [.id 0] (played_no c l 60 q3) (.y .nil)))))
 ·have q1':=of_decide_eq_false q1
  rcases bft (decide (k=2)) with q2 | q2
  ·rcases bft (decide (c.mode=2)) with q3 | q3
   ·rw [cpos q3] at d0
    rcases bft (pl25 c l.length 60) with q4 | q4
    ·rw [cpos q4] at d0
     subst d0
     exact so Tryz.f8 52 [.id 0] (.c [] (anc25_t) (.n (.t q1 (.t q1 (.t q1 (gs5 q2 (gs2 q4 (gs3 q4 q3 .nil))))))))
    ·rw [cneg q4] at d0
     subst d0
     exact so Tryz.f8 9 [.id 0] (.c [] (anc25_t) (.n (.t q1 (.t q1 (.t q1 (gs5 q2 (.c [.id 0] (played_no c l 60 q4) (.y .nil))))))))
   ·rw [cneg q3] at d0
    rcases bft (pl25 c l.length 60) with q4 | q4
    ·rw [cpos q4] at d0
     subst d0
     exact so Tryz.f8 52 [.id 0] (.c [] (anc25_t) (.n (.t q1 (.t q1 (.t q1 (gs5 q2 (gs2 q4 (gs4 q4 q3 .nil))))))))
    ·rw [cneg q4] at d0
     subst d0
     exact so Tryz.f8 9 [.id 0] (.c [] (anc25_t) (.n (.t q1 (.t q1 (.t q1 (gs5 q2 (.c [.id 0] (played_no c l 60 q4) (.y .nil))))))))
  ·have q2':=of_decide_eq_false q2
   rcases bft (decide (c.mode=2)) with q3 | q3
   ·rw [cpos q3] at d0
    have q3':=of_decide_eq_true q3
    rcases bft (pl25 c l.length 60) with q4 | q4
    ·rw [cpos q4] at d0
     subst d0
     exact so Tryz.f8 48 [.id 0] (.c [] (anc25_t) (.n (.t q1 (.t q1 (.t q1 (gs6 q2 (gs7 q4 (.lp (gIn c l).length 44 [] [] (fun i=>[(86,vn i),(17,vt (swO true c.mode (plN c.ly.g) (gIn c l) i))]) (fun i=>[]) (fun i hi=>(.t (show (decide (((i:Nat):Int) < (((gIn c l).length:Nat):Int)))=true from decide_eq_true (by omega)) (.ix (i:=i) (m:=(gIn c l).length) (by have h9:=(mPl_h q4 hs (by decide)).il; have h8:=congrArg List.length (gIn_eq c l); omega) (.el (e:=eInj) (gDx (l:=gIn c l) (i:=i) eInj0 (by have h9:=(mPl_h q4 hs (by decide)).il; have h8:=congrArg List.length (gIn_eq c l); omega)) (.cs 1000018 (swO true c.mode (plN c.ly.g) (gIn c l) i) 45 [] [] (fun z=>[(17,vt (bif z then (bif (decide (((gIn c l).getD i eInj0).f.kind < 6)) then true else false) else false))]) (fun z=>[]) (fun hq1=>(.cs 1000018 (decide (((gIn c l).getD i eInj0).f.kind < 6)) 45 [] [] (fun z=>[(17,vt (bif z then true else false))]) (fun z=>[]) (fun hq2=>(.t hq1 (.t hq1 (.t hq1 (.t hq1 (.t hq1 (.t hq2 (.t hq2 (.t hq2 (.t hq2 (.t q3 (.t q3 (.t q3 (.t q3 (.t hq2 (.t q3 (.t hq2 .nil))))))))))))))))) (fun hq2=>(.t hq1 (.t hq1 (.t hq1 (.t hq1 (.t hq1 (.t hq2 (.t hq2 (.t hq2 (.t hq2 (.t hq2 (.t hq2 .nil)))))))))))) .nil)) (fun hq1=>(.t hq1 (.t hq1 (.t hq1 (.t hq1 (.t hq1 (.n (.n (.n (.n (.n (.n .nil)))))))))))) (.sl (i:=0) (n:=i) (m:=(gIn c l).length) (hi:=((i:Nat):Int)) (h2:=by omega) (by omega) (.sl (i:=0) (n:=i) (m:=(gIn c l).length) (by have h9:=(mPl_h q4 hs (by decide)).il; have h8:=congrArg List.length (gIn_eq c l); omega) (.lp i 45 [] [] (fun j=>[(113,vn j),(17,vt (swI c.mode (plN c.ly.g) (gIn c l) ((gIn c l).getD i eInj0) (bif (swO true c.mode (plN c.ly.g) (gIn c l) i) then (bif (decide (((gIn c l).getD i eInj0).f.kind < 6)) then true else false) else false) j))]) (fun j=>[]) (fun j hj=>(.t (show (decide (((j:Nat):Int) < ((i:Nat):Int)))=true from decide_eq_true (by omega)) (.ix (i:=j) (m:=i) (by have h9:=(mPl_h q4 hs (by decide)).il; have h8:=congrArg List.length (gIn_eq c l); omega) (.ix (i:=j) (m:=(gIn c l).length) (by have h9:=(mPl_h q4 hs (by decide)).il; have h8:=congrArg List.length (gIn_eq c l); omega) (.el (e:=eInj) (gDx (l:=gIn c l) (i:=j) eInj0 (by have h9:=(mPl_h q4 hs (by decide)).il; have h8:=congrArg List.length (gIn_eq c l); omega)) (.cs 1000022 (swI c.mode (plN c.ly.g) (gIn c l) ((gIn c l).getD i eInj0) (bif (swO true c.mode (plN c.ly.g) (gIn c l) i) then (bif (decide (((gIn c l).getD i eInj0).f.kind < 6)) then true else false) else false) j) 46 [] [] (fun z=>[(17,vt (bif z then (bif (lclash_v0 c.mode ((gIn c l).getD j eInj0).f ((gIn c l).getD i eInj0).f) then (bif (decide (((gIn c l).getD j eInj0).f.kind=1)) then (decide (IntKind.i64.wrap ((IntKind.i64.wrap ((IntKind.i64.wrap ((IntKind.i64.wrap (c.ly.g.ranks + c.ly.g.spares)) * c.ly.g.banks)) * c.ly.g.rows)) * c.ly.g.cols)≤IntKind.i64.wrap (((gIn c l).getD i eInj0).scrubs - ((gIn c l).getD j eInj0).scrubs))) else false) else true) else false))]) (fun z=>[]) (fun hq1=>(.cs 1000022 (lclash_v0 c.mode ((gIn c l).getD j eInj0).f ((gIn c l).getD i eInj0).f) 46 [] [] (fun z=>[(17,vt (bif z then (bif (decide (((gIn c l).getD j eInj0).f.kind=1)) then (decide (IntKind.i64.wrap ((IntKind.i64.wrap ((IntKind.i64.wrap ((IntKind.i64.wrap (c.ly.g.ranks + c.ly.g.spares)) * c.ly.g.banks)) * c.ly.g.rows)) * c.ly.g.cols)≤IntKind.i64.wrap (((gIn c l).getD i eInj0).scrubs - ((gIn c l).getD j eInj0).scrubs))) else false) else true))]) (fun z=>[]) (fun hq2=>(.cs 1000022 (decide (((gIn c l).getD j eInj0).f.kind=1)) 46 [] [] (fun z=>[(17,vt (bif z then (decide (IntKind.i64.wrap ((IntKind.i64.wrap ((IntKind.i64.wrap ((IntKind.i64.wrap (c.ly.g.ranks + c.ly.g.spares)) * c.ly.g.banks)) * c.ly.g.rows)) * c.ly.g.cols)≤IntKind.i64.wrap (((gIn c l).getD i eInj0).scrubs - ((gIn c l).getD j eInj0).scrubs))) else false))]) (fun z=>[]) (fun hq3=>(.t hq1 (.t hq1 (.t hq1 (.t hq1 (.t hq1 (.t hq1 (.t hq1 (.c [] (lclash c.mode ((gIn c l).getD j eInj0).f ((gIn c l).getD i eInj0).f ((by rw [mPl_md c l]; exact (mPl_h q4 hs (by decide)).c.d.d.md))) (.t hq1 (.t hq1 (.g hq2 (.g hq2 (.g hq2 (.g hq2 (.g hq2 (.t hq3 (.t hq3 (.t hq3 (.t hq3 (.t hq3 (.t hq3 (.t hq3 (.g hq2 (.t hq3 (.t hq1 (.g hq2 (.t hq1 .nil)))))))))))))))))))))))))))) (fun hq3=>(.t hq1 (.t hq1 (.t hq1 (.t hq1 (.t hq1 (.t hq1 (.t hq1 (.c [] (lclash c.mode ((gIn c l).getD j eInj0).f ((gIn c l).getD i eInj0).f ((by rw [mPl_md c l]; exact (mPl_h q4 hs (by decide)).c.d.d.md))) (.t hq1 (.t hq1 (.g hq2 (.g hq2 (.g hq2 (.g hq2 (.g hq2 (.t hq3 (.t hq3 (.t hq3 (.t hq3 (.t hq3 (.t hq3 (.t hq3 (.g hq2 (.t hq3 (.t hq1 (.g hq2 (.t hq1 .nil)))))))))))))))))))))))))))) .nil)) (fun hq2=>(.t hq1 (.t hq1 (.t hq1 (.t hq1 (.t hq1 (.t hq1 (.t hq1 (.c [] (lclash c.mode ((gIn c l).getD j eInj0).f ((gIn c l).getD i eInj0).f ((by rw [mPl_md c l]; exact (mPl_h q4 hs (by decide)).c.d.d.md))) (.t hq1 (.t hq1 (.g hq2 (.g hq2 (.g hq2 (.g hq2 (.g hq2 (.g hq2 (.t hq1 (.g hq2 (.t hq1 .nil)))))))))))))))))))) .nil)) (fun hq1=>(.t hq1 (.t hq1 (.t hq1 (.t hq1 (.t hq1 (.t hq1 (.t hq1 (.t hq1 (.t hq1 (.t hq1 (.t hq1 .nil)))))))))))) (.e 143 (aAdd (a:=((j:Nat):Int)) (b:=1) (c:=((j + 1:Nat):Int)) (by have h9:=(mPl_h q4 hs (by decide)).il; have h8:=congrArg List.length (gIn_eq c l); omega)) .nil))))))) (.t (show (decide (((i:Nat):Int) < ((i:Nat):Int)))=false from decide_eq_false (by omega)) (.e 144 (aAdd (a:=((i:Nat):Int)) (b:=1) (c:=((i + 1:Nat):Int)) (by have h9:=(mPl_h q4 hs (by decide)).il; have h8:=congrArg List.length (gIn_eq c l); omega)) .nil)))))))))) (.t (show (decide ((((gIn c l).length:Nat):Int) < (((gIn c l).length:Nat):Int)))=false from decide_eq_false (by omega)) (.c (ir 5 33) (sparse2 (mPl c l) (Nat.le_trans (mPl_h q4 hs (by decide)).il (by decide)) ((mPl_h q4 hs (by decide)).c.d.d.md)) .nil))))))))))
    ·rw [cneg q4] at d0
     subst d0
     exact so Tryz.f8 5 [.id 0] (.c [] (anc25_t) (.n (.t q1 (.t q1 (.t q1 (gs6 q2 (.c [.id 0] (played_no c l 60 q4) (.y .nil))))))))
   ·rw [cneg q3] at d0
    have q3':=of_decide_eq_false q3
    rcases bft (pl25 c l.length 60) with q4 | q4
    ·rw [cpos q4] at d0
     subst d0
     exact so Tryz.f8 48 [.id 0] (.c [] (anc25_t) (.n (.t q1 (.t q1 (.t q1 (gs6 q2 (gs7 q4 (.lp (gIn c l).length 44 [] [] (fun i=>[(86,vn i),(17,vt (swO false c.mode (plN c.ly.g) (gIn c l) i))]) (fun i=>[]) (fun i hi=>(.t (show (decide (((i:Nat):Int) < (((gIn c l).length:Nat):Int)))=true from decide_eq_true (by omega)) (.ix (i:=i) (m:=(gIn c l).length) (by have h9:=(mPl_h q4 hs (by decide)).il; have h8:=congrArg List.length (gIn_eq c l); omega) (.el (e:=eInj) (gDx (l:=gIn c l) (i:=i) eInj0 (by have h9:=(mPl_h q4 hs (by decide)).il; have h8:=congrArg List.length (gIn_eq c l); omega)) (.cs 1000018 (swO false c.mode (plN c.ly.g) (gIn c l) i) 45 [] [] (fun z=>[(17,vt (bif z then (bif (decide (((gIn c l).getD i eInj0).f.kind < 6)) then (decide (((gIn c l).getD i eInj0).f.kind < 3)) else false) else false))]) (fun z=>[]) (fun hq1=>(.cs 1000018 (decide (((gIn c l).getD i eInj0).f.kind < 6)) 45 [] [] (fun z=>[(17,vt (bif z then (decide (((gIn c l).getD i eInj0).f.kind < 3)) else false))]) (fun z=>[]) (fun hq2=>(.t hq1 (.t hq1 (.t hq1 (.t hq1 (.t hq1 (.t hq2 (.t hq2 (.t hq2 (.t hq2 (.t q3 (.t q3 (.t q3 (.t q3 (.t hq2 (.t q3 (.t hq2 .nil))))))))))))))))) (fun hq2=>(.t hq1 (.t hq1 (.t hq1 (.t hq1 (.t hq1 (.t hq2 (.t hq2 (.t hq2 (.t hq2 (.t hq2 (.t hq2 .nil)))))))))))) .nil)) (fun hq1=>(.t hq1 (.t hq1 (.t hq1 (.t hq1 (.t hq1 (.n (.n (.n (.n (.n (.n .nil)))))))))))) (.sl (i:=0) (n:=i) (m:=(gIn c l).length) (hi:=((i:Nat):Int)) (h2:=by omega) (by omega) (.sl (i:=0) (n:=i) (m:=(gIn c l).length) (by have h9:=(mPl_h q4 hs (by decide)).il; have h8:=congrArg List.length (gIn_eq c l); omega) (.lp i 45 [] [] (fun j=>[(113,vn j),(17,vt (swI c.mode (plN c.ly.g) (gIn c l) ((gIn c l).getD i eInj0) (bif (swO false c.mode (plN c.ly.g) (gIn c l) i) then (bif (decide (((gIn c l).getD i eInj0).f.kind < 6)) then (decide (((gIn c l).getD i eInj0).f.kind < 3)) else false) else false) j))]) (fun j=>[]) (fun j hj=>(.t (show (decide (((j:Nat):Int) < ((i:Nat):Int)))=true from decide_eq_true (by omega)) (.ix (i:=j) (m:=i) (by have h9:=(mPl_h q4 hs (by decide)).il; have h8:=congrArg List.length (gIn_eq c l); omega) (.ix (i:=j) (m:=(gIn c l).length) (by have h9:=(mPl_h q4 hs (by decide)).il; have h8:=congrArg List.length (gIn_eq c l); omega) (.el (e:=eInj) (gDx (l:=gIn c l) (i:=j) eInj0 (by have h9:=(mPl_h q4 hs (by decide)).il; have h8:=congrArg List.length (gIn_eq c l); omega)) (.cs 1000022 (swI c.mode (plN c.ly.g) (gIn c l) ((gIn c l).getD i eInj0) (bif (swO false c.mode (plN c.ly.g) (gIn c l) i) then (bif (decide (((gIn c l).getD i eInj0).f.kind < 6)) then (decide (((gIn c l).getD i eInj0).f.kind < 3)) else false) else false) j) 46 [] [] (fun z=>[(17,vt (bif z then (bif (lclash_v0 c.mode ((gIn c l).getD j eInj0).f ((gIn c l).getD i eInj0).f) then (bif (decide (((gIn c l).getD j eInj0).f.kind=1)) then (decide (IntKind.i64.wrap ((IntKind.i64.wrap ((IntKind.i64.wrap ((IntKind.i64.wrap (c.ly.g.ranks + c.ly.g.spares)) * c.ly.g.banks)) * c.ly.g.rows)) * c.ly.g.cols)≤IntKind.i64.wrap (((gIn c l).getD i eInj0).scrubs - ((gIn c l).getD j eInj0).scrubs))) else false) else true) else false))]) (fun z=>[]) (fun hq1=>(.cs 1000022 (lclash_v0 c.mode ((gIn c l).getD j eInj0).f ((gIn c l).getD i eInj0).f) 46 [] [] (fun z=>[(17,vt (bif z then (bif (decide (((gIn c l).getD j eInj0).f.kind=1)) then (decide (IntKind.i64.wrap ((IntKind.i64.wrap ((IntKind.i64.wrap ((IntKind.i64.wrap (c.ly.g.ranks + c.ly.g.spares)) * c.ly.g.banks)) * c.ly.g.rows)) * c.ly.g.cols)≤IntKind.i64.wrap (((gIn c l).getD i eInj0).scrubs - ((gIn c l).getD j eInj0).scrubs))) else false) else true))]) (fun z=>[]) (fun hq2=>(.cs 1000022 (decide (((gIn c l).getD j eInj0).f.kind=1)) 46 [] [] (fun z=>[(17,vt (bif z then (decide (IntKind.i64.wrap ((IntKind.i64.wrap ((IntKind.i64.wrap ((IntKind.i64.wrap (c.ly.g.ranks + c.ly.g.spares)) * c.ly.g.banks)) * c.ly.g.rows)) * c.ly.g.cols)≤IntKind.i64.wrap (((gIn c l).getD i eInj0).scrubs - ((gIn c l).getD j eInj0).scrubs))) else false))]) (fun z=>[]) (fun hq3=>(.t hq1 (.t hq1 (.t hq1 (.t hq1 (.t hq1 (.t hq1 (.t hq1 (.c [] (lclash c.mode ((gIn c l).getD j eInj0).f ((gIn c l).getD i eInj0).f ((by rw [mPl_md c l]; exact (mPl_h q4 hs (by decide)).c.d.d.md))) (.t hq1 (.t hq1 (.g hq2 (.g hq2 (.g hq2 (.g hq2 (.g hq2 (.t hq3 (.t hq3 (.t hq3 (.t hq3 (.t hq3 (.t hq3 (.t hq3 (.g hq2 (.t hq3 (.t hq1 (.g hq2 (.t hq1 .nil)))))))))))))))))))))))))))) (fun hq3=>(.t hq1 (.t hq1 (.t hq1 (.t hq1 (.t hq1 (.t hq1 (.t hq1 (.c [] (lclash c.mode ((gIn c l).getD j eInj0).f ((gIn c l).getD i eInj0).f ((by rw [mPl_md c l]; exact (mPl_h q4 hs (by decide)).c.d.d.md))) (.t hq1 (.t hq1 (.g hq2 (.g hq2 (.g hq2 (.g hq2 (.g hq2 (.t hq3 (.t hq3 (.t hq3 (.t hq3 (.t hq3 (.t hq3 (.t hq3 (.g hq2 (.t hq3 (.t hq1 (.g hq2 (.t hq1 .nil)))))))))))))))))))))))))))) .nil)) (fun hq2=>(.t hq1 (.t hq1 (.t hq1 (.t hq1 (.t hq1 (.t hq1 (.t hq1 (.c [] (lclash c.mode ((gIn c l).getD j eInj0).f ((gIn c l).getD i eInj0).f ((by rw [mPl_md c l]; exact (mPl_h q4 hs (by decide)).c.d.d.md))) (.t hq1 (.t hq1 (.g hq2 (.g hq2 (.g hq2 (.g hq2 (.g hq2 (.g hq2 (.t hq1 (.g hq2 (.t hq1 .nil)))))))))))))))))))) .nil)) (fun hq1=>(.t hq1 (.t hq1 (.t hq1 (.t hq1 (.t hq1 (.t hq1 (.t hq1 (.t hq1 (.t hq1 (.t hq1 (.t hq1 .nil)))))))))))) (.e 143 (aAdd (a:=((j:Nat):Int)) (b:=1) (c:=((j + 1:Nat):Int)) (by have h9:=(mPl_h q4 hs (by decide)).il; have h8:=congrArg List.length (gIn_eq c l); omega)) .nil))))))) (.t (show (decide (((i:Nat):Int) < ((i:Nat):Int)))=false from decide_eq_false (by omega)) (.e 144 (aAdd (a:=((i:Nat):Int)) (b:=1) (c:=((i + 1:Nat):Int)) (by have h9:=(mPl_h q4 hs (by decide)).il; have h8:=congrArg List.length (gIn_eq c l); omega)) .nil)))))))))) (.t (show (decide ((((gIn c l).length:Nat):Int) < (((gIn c l).length:Nat):Int)))=false from decide_eq_false (by omega)) (.c (ir 5 33) (sparse2 (mPl c l) (Nat.le_trans (mPl_h q4 hs (by decide)).il (by decide)) ((mPl_h q4 hs (by decide)).c.d.d.md)) .nil))))))))))
    ·rw [cneg q4] at d0
     subst d0
     exact so Tryz.f8 5 [.id 0] (.c [] (anc25_t) (.n (.t q1 (.t q1 (.t q1 (gs6 q2 (.c [.id 0] (played_no c l 60 q4) (.y .nil))))))))
end Go.Proofs.YtoflmffbkdekcaaGreat
