import Derived.Test.YtfhiggfmkjmeiaaGreatFMap
set_option linter.unusedVariables false
set_option linter.unusedSimpArgs false
set_option linter.unusedSectionVars false
namespace Go.Proofs.YtfhiggfmkjmeiaaGreat
open Go Go.RowKit
set_option maxRecDepth 100000
def nth_v0 (g:Gm) (r:Int) (i:Int):Int:=g.ix (⟨r,IntKind.i64.wrap ((IntKind.i64.wrap (i.tdiv g.cols)).tdiv g.rows),(IntKind.i64.wrap (i.tdiv g.cols)).tmod g.rows,i.tmod g.cols⟩:Pl)
def nth_v1 (g:Gm) (r:Int) (i:Int):Int:=g.ixE (⟨r,IntKind.i64.wrap ((IntKind.i64.wrap (i.tdiv g.cols)).tdiv g.rows),(IntKind.i64.wrap (i.tdiv g.cols)).tmod g.rows,i.tmod g.cols⟩:Pl)
theorem nth (g:Gm) (r:Int) (i:Int) (hc:g.cols ≠ 0) (hr:g.rows ≠ 0):Sp P 272 [.ag [vi g.ranks,vi g.spares,vi g.banks,vi g.rows,vi g.cols],vi r,vi i] [] (.tu [vi (nth_v0 g r i),vi (nth_v1 g r i)]) [] :=
 so Tryz.f272 6 [] (.p 13 (pRemI i g.cols (by assumption)) (.p 18 (pQuoI i g.cols (by assumption)) (.p 22 (pRemI (IntKind.i64.wrap (i.tdiv g.cols)) g.rows (by assumption)) (.p 26 (pQuoI (IntKind.i64.wrap (i.tdiv g.cols)) g.rows (by assumption)) (.c [] (gindex_sp g (⟨r,IntKind.i64.wrap ((IntKind.i64.wrap (i.tdiv g.cols)).tdiv g.rows),(IntKind.i64.wrap (i.tdiv g.cols)).tmod g.rows,i.tmod g.cols⟩:Pl)) .nil)))))
theorem rows_ne {s:MapS} (h:MapOk s):s.l.g.rows ≠ 0:=by
 have:=Gm.rt (ly_rt h.right).1
 omega
def jpages_v0 (j:Jb) (s:MapS):Bool:=bif (cbel_v0 j.src (gpages_v0 s.l.g)) then (bif (cbel_v0 j.goal (gpages_v0 s.l.g)) then (bif decide (j.src=j.goal) then false else (bif (mDead_v0 s j.src) then false else (!(mDead_v0 s j.goal)))) else false) else false
theorem jpages (j:Jb) (s:MapS) :Sp P 228 [.ag [vi j.kind,vi j.src,vi j.goal,vi j.next],.pt 0 0] (ros (bMap s 0)) (vt (jpages_v0 j s)) (ros (bMap s 0)):=by
 generalize d0:jpages_v0 j s=yd0
 unfold jpages_v0 at d0
 rcases bft (cbel_v0 j.src (gpages_v0 s.l.g)) with q1 | q1
 ·rw [cpos q1] at d0
  rcases bft (cbel_v0 j.goal (gpages_v0 s.l.g)) with q2 | q2
  ·rw [cpos q2] at d0
   rcases bft (decide (j.src=j.goal)) with q3 | q3
   ·rw [cpos q3] at d0
    subst d0
    exact so Tryz.f228 3 (ir 0 4) (.c (ir 0 4) (mLayout s) (.c [] (gpages s.l.g) (.c [] (cbel j.src (gpages_v0 s.l.g)) (.t4 q1 (.c [] (cbel j.goal (gpages_v0 s.l.g)) (.t q1 (.t4 q2 (.t2 q2 (.g4 q3 (.g2 q3 (.n4 (.n2 .nil))))))))))))
   ·rw [cneg q3] at d0
    rcases bft (mDead_v0 s j.src) with q4 | q4
    ·rw [cpos q4] at d0
     subst d0
     exact so Tryz.f228 3 (ir 0 4) (.c (ir 0 4) (mLayout s) (.c [] (gpages s.l.g) (.c [] (cbel j.src (gpages_v0 s.l.g)) (.t4 q1 (.c [] (cbel j.goal (gpages_v0 s.l.g)) (.t q1 (.t4 q2 (.t2 q2 (.g4 q3 (.c (ir 0 4) (mDead s j.src) (.g2 q3 (.g4 q4 (.g2 q4 .nil)))))))))))))
    ·rw [cneg q4] at d0
     subst d0
     exact so Tryz.f228 3 (ir 0 4) (.c (ir 0 4) (mLayout s) (.c [] (gpages s.l.g) (.c [] (cbel j.src (gpages_v0 s.l.g)) (.t4 q1 (.c [] (cbel j.goal (gpages_v0 s.l.g)) (.t q1 (.t4 q2 (.t2 q2 (.g4 q3 (.c (ir 0 4) (mDead s j.src) (.g2 q3 (.g4 q4 (.c (ir 0 4) (mDead s j.goal) (.g2 q4 .nil))))))))))))))
  ·rw [cneg q2] at d0
   subst d0
   exact so Tryz.f228 3 (ir 0 4) (.c (ir 0 4) (mLayout s) (.c [] (gpages s.l.g) (.c [] (cbel j.src (gpages_v0 s.l.g)) (.t4 q1 (.c [] (cbel j.goal (gpages_v0 s.l.g)) (.t q1 (.t4 q2 (.t2 q2 (.n8 (.n4 .nil))))))))))
 ·rw [cneg q1] at d0
  subst d0
  exact so Tryz.f228 3 (ir 0 4) (.c (ir 0 4) (mLayout s) (.c [] (gpages s.l.g) (.c [] (cbel j.src (gpages_v0 s.l.g)) (.t4 q1 (.t q1 (.n8 (.n8 (.n2 .nil))))))))
def jranks_v0 (j:Jb) (s:MapS):Bool:=bif (cbel_v0 j.src s.l.g.ranks) then (bif (mSpare_v1 s j.src) then false else (cbel_v0 (IntKind.i64.wrap (j.goal - s.l.g.ranks)) s.l.g.spares)) else false
theorem jranks (j:Jb) (s:MapS) :Sp P 229 [.ag [vi j.kind,vi j.src,vi j.goal,vi j.next],.pt 0 0] (ros (bMap s 0)) (vt (jranks_v0 j s)) (ros (bMap s 0)):=by
 generalize d0:jranks_v0 j s=yd0
 unfold jranks_v0 at d0
 rcases bft (cbel_v0 j.src s.l.g.ranks) with q1 | q1
 ·rw [cpos q1] at d0
  rcases bft (mSpare_v1 s j.src) with q2 | q2
  ·rw [cpos q2] at d0
   subst d0
   exact so Tryz.f229 4 (ir 0 4) (.c (ir 0 4) (mLayout s) (.c (ir 0 4) (mSpare s j.src) (.c [] (cbel j.src s.l.g.ranks) (.t2 q1 (.t q1 (.g4 q2 (.g4 q2 (.g q2 .nil))))))))
  ·rw [cneg q2] at d0
   subst d0
   exact so Tryz.f229 4 (ir 0 4) (.c (ir 0 4) (mLayout s) (.c (ir 0 4) (mSpare s j.src) (.c [] (cbel j.src s.l.g.ranks) (.t2 q1 (.t q1 (.g4 q2 (.g4 q2 (.c [] (cbel (IntKind.i64.wrap (j.goal - s.l.g.ranks)) s.l.g.spares) (.g q2 .nil)))))))))
 ·rw [cneg q1] at d0
  subst d0
  exact so Tryz.f229 4 (ir 0 4) (.c (ir 0 4) (mLayout s) (.c (ir 0 4) (mSpare s j.src) (.c [] (cbel j.src s.l.g.ranks) (.t2 q1 (.t q1 (.n8 (.n .nil)))))))
def jright_v0 (j:Jb) (s:MapS):Bool:=bif decide (j.kind=0) then ((decide (j.kind=0)) && ((decide (j.src=0)) && ((decide (j.goal=0)) && ((decide (j.next=0)) && true)))) else (bif decide (j.kind=1) then (bif (cbel_v0 j.next (IntKind.i64.wrap ((jbCount_v0 j s.l) + 1))) then (jpages_v0 j s) else false) else (bif decide (j.kind=2) then (bif (cbel_v0 j.next (IntKind.i64.wrap ((jbCount_v0 j s.l) + 1))) then (jranks_v0 j s) else false) else false))
theorem jright (j:Jb) (s:MapS) :Sp P 173 [.ag [vi j.kind,vi j.src,vi j.goal,vi j.next],.pt 0 0] (ros (bMap s 0)) (vt (jright_v0 j s)) (ros (bMap s 0)):=by
 generalize d0:jright_v0 j s=yd0
 unfold jright_v0 at d0
 rcases bft (decide (j.kind=0)) with q1 | q1
 ·rw [cpos q1] at d0
  subst d0
  exact so Tryz.f173 6 (ir 0 4) (.c (ir 0 4) (mLayout s) (.c [] (jbCount j s.l) (.c [] (cbel j.next (IntKind.i64.wrap ((jbCount_v0 j s.l) + 1))) (.t q1 .nil))))
 ·rw [cneg q1] at d0
  rcases bft (decide (j.kind=1)) with q2 | q2
  ·rw [cpos q2] at d0
   rcases bft (cbel_v0 j.next (IntKind.i64.wrap ((jbCount_v0 j s.l) + 1))) with q3 | q3
   ·rw [cpos q3] at d0
    subst d0
    exact so Tryz.f173 6 (ir 0 4) (.c (ir 0 4) (mLayout s) (.c [] (jbCount j s.l) (.c [] (cbel j.next (IntKind.i64.wrap ((jbCount_v0 j s.l) + 1))) (.t q1 (.t q2 (.t2 q3 (.t q3 (.c (ir 0 4) (jpages j s) (.t q3 .nil)))))))))
   ·rw [cneg q3] at d0
    subst d0
    exact so Tryz.f173 6 (ir 0 4) (.c (ir 0 4) (mLayout s) (.c [] (jbCount j s.l) (.c [] (cbel j.next (IntKind.i64.wrap ((jbCount_v0 j s.l) + 1))) (.t q1 (.t q2 (.t4 q3 .nil))))))
  ·rw [cneg q2] at d0
   rcases bft (decide (j.kind=2)) with q3 | q3
   ·rw [cpos q3] at d0
    rcases bft (cbel_v0 j.next (IntKind.i64.wrap ((jbCount_v0 j s.l) + 1))) with q4 | q4
    ·rw [cpos q4] at d0
     subst d0
     exact so Tryz.f173 6 (ir 0 4) (.c (ir 0 4) (mLayout s) (.c [] (jbCount j s.l) (.c [] (cbel j.next (IntKind.i64.wrap ((jbCount_v0 j s.l) + 1))) (.t q1 (.t q2 (.t q3 (.t2 q4 (.t q4 (.c (ir 0 4) (jranks j s) (.t q4 .nil))))))))))
    ·rw [cneg q4] at d0
     subst d0
     exact so Tryz.f173 6 (ir 0 4) (.c (ir 0 4) (mLayout s) (.c [] (jbCount j s.l) (.c [] (cbel j.next (IntKind.i64.wrap ((jbCount_v0 j s.l) + 1))) (.t q1 (.t q2 (.t q3 (.t4 q4 .nil)))))))
   ·rw [cneg q3] at d0
    subst d0
    exact so Tryz.f173 6 (ir 0 4) (.c (ir 0 4) (mLayout s) (.c [] (jbCount j s.l) (.c [] (cbel j.next (IntKind.i64.wrap ((jbCount_v0 j s.l) + 1))) (.t q1 (.t q2 (.t q3 .nil))))))
def jat_v0 (j:Jb) (s:MapS) (w:Int) (i:Int):Int:=bif (jright_v0 j s) then (bif (cbel_v0 i (jbCount_v0 j s.l)) then (bif decide (j.kind=2) then (nth_v0 s.l.g w i) else (bif decide ((mlies_v2 s w)=0) then (bits .or .i64 (IntKind.i64.wrap ((mlies_v0 s w) * 2 ^ 6)) i) else 0)) else 0) else 0
def jat_v1 (j:Jb) (s:MapS) (w:Int) (i:Int):Int:=bif (jright_v0 j s) then (bif (cbel_v0 i (jbCount_v0 j s.l)) then (bif decide (j.kind=2) then (nth_v1 s.l.g w i) else (bif decide ((mlies_v2 s w)=0) then 0 else (mlies_v2 s w))) else 12) else 12
theorem jat (j:Jb) (s:MapS) (w:Int) (i:Int) (ok:MapOk s):Sp P 230 [.ag [vi j.kind,vi j.src,vi j.goal,vi j.next],.pt 0 0,vi w,vi i] (ros (bMap s 0)) (.tu [vi (jat_v0 j s w i),vi (jat_v1 j s w i)]) (ros (bMap s 0)):=by
 generalize d0:jat_v0 j s w i=yd0
 unfold jat_v0 at d0
 generalize d1:jat_v1 j s w i=yd1
 unfold jat_v1 at d1
 rcases bft (jright_v0 j s) with q1 | q1
 ·rw [cpos q1] at d0
  rw [cpos q1] at d1
  rcases bft (cbel_v0 i (jbCount_v0 j s.l)) with q2 | q2
  ·rw [cpos q2] at d0
   rw [cpos q2] at d1
   rcases bft (decide (j.kind=2)) with q3 | q3
   ·rw [cpos q3] at d0
    rw [cpos q3] at d1
    subst d0 d1
    exact so Tryz.f230 7 (ir 0 4) (.c (ir 0 4) (jright j s) (.g4 q1 (.c (ir 0 4) (mLayout s) (.g q1 (.c [] (jbCount j s.l) (.g q1 (.c [] (cbel i (jbCount_v0 j s.l)) (.g2 q1 (.g q2 (.t q3 (.c (ir 0 4) (mLayout s) (.c [] (nth s.l.g w i (cols_ne ok) (rows_ne ok)) .nil))))))))))))
   ·rw [cneg q3] at d0
    rw [cneg q3] at d1
    rcases bft (decide ((mlies_v2 s w)=0)) with q4 | q4
    ·rw [cpos q4] at d0
     rw [cpos q4] at d1
     subst d0 d1
     exact so Tryz.f230 7 (ir 0 4) (.c (ir 0 4) (jright j s) (.g4 q1 (.c (ir 0 4) (mLayout s) (.g q1 (.c [] (jbCount j s.l) (.g q1 (.c [] (cbel i (jbCount_v0 j s.l)) (.g2 q1 (.g q2 (.t q3 (.c (ir 0 4) (mLies s w) (.g q4 .nil))))))))))))
    ·rw [cneg q4] at d0
     rw [cneg q4] at d1
     subst d0 d1
     exact so Tryz.f230 7 (ir 0 4) (.c (ir 0 4) (jright j s) (.g4 q1 (.c (ir 0 4) (mLayout s) (.g q1 (.c [] (jbCount j s.l) (.g q1 (.c [] (cbel i (jbCount_v0 j s.l)) (.g2 q1 (.g q2 (.t q3 (.c (ir 0 4) (mLies s w) (.g q4 .nil))))))))))))
  ·rw [cneg q2] at d0
   rw [cneg q2] at d1
   subst d0 d1
   exact so Tryz.f230 7 (ir 0 4) (.c (ir 0 4) (jright j s) (.g4 q1 (.c (ir 0 4) (mLayout s) (.g q1 (.c [] (jbCount j s.l) (.g q1 (.c [] (cbel i (jbCount_v0 j s.l)) (.g2 q1 (.g q2 .nil)))))))))
 ·rw [cneg q1] at d0
  rw [cneg q1] at d1
  subst d0 d1
  exact so Tryz.f230 4 (ir 0 4) (.c (ir 0 4) (jright j s) (.g4 q1 (.g4 q1 (.y .nil))))
theorem jsource (j:Jb) (s:MapS) (i:Int) (ok:MapOk s):Sp P 201 [.ag [vi j.kind,vi j.src,vi j.goal,vi j.next],.pt 0 0,vi i] (ros (bMap s 0)) (.tu [vi (jat_v0 j s j.src i),vi (jat_v1 j s j.src i)]) (ros (bMap s 0)) :=
 so Tryz.f201 3 (ir 0 4) (.c (ir 0 4) (jat j s j.src i (by first | assumption | omega)) .nil)
theorem jgoal (j:Jb) (s:MapS) (i:Int) (ok:MapOk s):Sp P 176 [.ag [vi j.kind,vi j.src,vi j.goal,vi j.next],.pt 0 0,vi i] (ros (bMap s 0)) (.tu [vi (jat_v0 j s j.goal i),vi (jat_v1 j s j.goal i)]) (ros (bMap s 0)) :=
 so Tryz.f176 3 (ir 0 4) (.c (ir 0 4) (jat j s j.goal i (by first | assumption | omega)) .nil)
def jroute_v0 (j:Jb) (s:MapS) (n:Int):Int:=bif decide ((mIndex_v3 s n)=0) then (bif (jright_v0 j s) then (bif decide (j.kind=1) then (bif decide ((mIndex_v1 s n)=j.src) then (bif decide (n.tmod s.l.g.cols < j.next) then (jat_v0 j s j.goal (n.tmod s.l.g.cols)) else (mIndex_v0 s n)) else (bif decide (j.kind=2) then (bif decide ((mIndex_v2 s n)=j.src) then (bif decide ((gorder_v0 s.l.g (mIndex_v0 s n)) < j.next) then (jat_v0 j s j.goal (gorder_v0 s.l.g (mIndex_v0 s n))) else (mIndex_v0 s n)) else (mIndex_v0 s n)) else (mIndex_v0 s n))) else (bif decide (j.kind=2) then (bif decide ((mIndex_v2 s n)=j.src) then (bif decide ((gorder_v0 s.l.g (mIndex_v0 s n)) < j.next) then (jat_v0 j s j.goal (gorder_v0 s.l.g (mIndex_v0 s n))) else (mIndex_v0 s n)) else (mIndex_v0 s n)) else (mIndex_v0 s n))) else (mIndex_v0 s n)) else (mIndex_v0 s n)
def jroute_v1 (j:Jb) (s:MapS) (n:Int):Int:=bif decide ((mIndex_v3 s n)=0) then (bif (jright_v0 j s) then (bif decide (j.kind=1) then (bif decide ((mIndex_v1 s n)=j.src) then (bif decide (n.tmod s.l.g.cols < j.next) then (jat_v1 j s j.goal (n.tmod s.l.g.cols)) else (mIndex_v3 s n)) else (bif decide (j.kind=2) then (bif decide ((mIndex_v2 s n)=j.src) then (bif decide ((gorder_v0 s.l.g (mIndex_v0 s n)) < j.next) then (jat_v1 j s j.goal (gorder_v0 s.l.g (mIndex_v0 s n))) else (mIndex_v3 s n)) else (mIndex_v3 s n)) else (mIndex_v3 s n))) else (bif decide (j.kind=2) then (bif decide ((mIndex_v2 s n)=j.src) then (bif decide ((gorder_v0 s.l.g (mIndex_v0 s n)) < j.next) then (jat_v1 j s j.goal (gorder_v0 s.l.g (mIndex_v0 s n))) else (mIndex_v3 s n)) else (mIndex_v3 s n)) else (mIndex_v3 s n))) else (mIndex_v3 s n)) else (mIndex_v3 s n)
theorem jroute (j : Jb) (s : MapS) (n : Int) (ok : MapOk s) : Sp P 106 [.ag [vi j.kind, vi j.src, vi j.goal, vi j.next], .pt 0 0, vi n] (ros (bMap s 0)) (.tu [vi (jroute_v0 j s n), vi (mIndex_v1 s n), vi (mIndex_v2 s n), vi (jroute_v1 j s n)]) (ros (bMap s 0)) := by
 have hc:=cols_ne ok
 generalize d0:jroute_v0 j s n=yd0
 unfold jroute_v0 at d0
 generalize d1:jroute_v1 j s n=yd1
 unfold jroute_v1 at d1
 rcases bft (decide ((mIndex_v3 s n)=0)) with q1 | q1
 ·rw [cpos q1] at d0
  rw [cpos q1] at d1
  have q1':=of_decide_eq_true q1
  rcases bft (jright_v0 j s) with q2 | q2
  ·rw [cpos q2] at d0
   rw [cpos q2] at d1
   rcases bft (decide (j.kind=1)) with q3 | q3
   ·rw [cpos q3] at d0
    rw [cpos q3] at d1
    have q3':=of_decide_eq_true q3
    rcases bft (decide ((mIndex_v1 s n)=j.src)) with q4 | q4
    ·rw [cpos q4] at d0
     rw [cpos q4] at d1
     have q4':=of_decide_eq_true q4
     rcases bft (decide (n.tmod s.l.g.cols < j.next)) with q5 | q5
     ·rw [cpos q5] at d0
      rw [cpos q5] at d1
      have q5':=of_decide_eq_true q5
      subst d0 d1
      exact so Tryz.f106 4 (ir 0 4) (.c (ir 0 4) (mIndex s n (by first | assumption | omega)) (.g2 q1 (.g q1 (.c (ir 0 4) (jright j s) (.g2 q1 (.g q2 (.c (ir 0 4) (mLayout s) (.t4 q3 (.t q3 (.t q4 (.p 52 (pRemI n s.l.g.cols (hc)) (.t q5 (.c (ir 0 4) (jgoal j s (n.tmod s.l.g.cols) (by first | assumption | omega)) .nil)))))))))))))
     ·rw [cneg q5] at d0
      rw [cneg q5] at d1
      have q5':=of_decide_eq_false q5
      subst d0 d1
      exact so Tryz.f106 4 (ir 0 4) (.c (ir 0 4) (mIndex s n (by first | assumption | omega)) (.g2 q1 (.g q1 (.c (ir 0 4) (jright j s) (.g2 q1 (.g q2 (.c (ir 0 4) (mLayout s) (.t4 q3 (.t q3 (.t q4 (.p 52 (pRemI n s.l.g.cols (hc)) (.t q5 .nil))))))))))))
    ·rw [cneg q4] at d0
     rw [cneg q4] at d1
     have q4':=of_decide_eq_false q4
     rcases bft (decide (j.kind=2)) with q5 | q5
     ·rw [cpos q5] at d0
      rw [cpos q5] at d1
      have q5':=of_decide_eq_true q5
      rcases bft (decide ((mIndex_v2 s n)=j.src)) with q6 | q6
      ·rw [cpos q6] at d0
       rw [cpos q6] at d1
       have q6':=of_decide_eq_true q6
       rcases bft (decide ((gorder_v0 s.l.g (mIndex_v0 s n)) < j.next)) with q7 | q7
       ·rw [cpos q7] at d0
        rw [cpos q7] at d1
        have q7':=of_decide_eq_true q7
        subst d0 d1
        exact so Tryz.f106 4 (ir 0 4) (.c (ir 0 4) (mIndex s n (by first | assumption | omega)) (.g2 q1 (.g q1 (.c (ir 0 4) (jright j s) (.g2 q1 (.g q2 (.c (ir 0 4) (mLayout s) (.t4 q3 (.t q3 (.t q4 (.t4 q5 (.t q5 (.t q6 (.c [] (gorder s.l.g (mIndex_v0 s n)) (.t q7 (.c (ir 0 4) (jgoal j s (gorder_v0 s.l.g (mIndex_v0 s n)) (by first | assumption | omega)) .nil))))))))))))))))
       ·rw [cneg q7] at d0
        rw [cneg q7] at d1
        have q7':=of_decide_eq_false q7
        subst d0 d1
        exact so Tryz.f106 4 (ir 0 4) (.c (ir 0 4) (mIndex s n (by first | assumption | omega)) (.g2 q1 (.g q1 (.c (ir 0 4) (jright j s) (.g2 q1 (.g q2 (.c (ir 0 4) (mLayout s) (.t4 q3 (.t q3 (.t q4 (.t4 q5 (.t q5 (.t q6 (.c [] (gorder s.l.g (mIndex_v0 s n)) (.t q7 .nil)))))))))))))))
      ·rw [cneg q6] at d0
       rw [cneg q6] at d1
       have q6':=of_decide_eq_false q6
       subst d0 d1
       exact so Tryz.f106 4 (ir 0 4) (.c (ir 0 4) (mIndex s n (by first | assumption | omega)) (.g2 q1 (.g q1 (.c (ir 0 4) (jright j s) (.g2 q1 (.g q2 (.c (ir 0 4) (mLayout s) (.t4 q3 (.t q3 (.t q4 (.t4 q5 (.t q5 (.t q6 .nil)))))))))))))
     ·rw [cneg q5] at d0
      rw [cneg q5] at d1
      have q5':=of_decide_eq_false q5
      subst d0 d1
      exact so Tryz.f106 4 (ir 0 4) (.c (ir 0 4) (mIndex s n (by first | assumption | omega)) (.g2 q1 (.g q1 (.c (ir 0 4) (jright j s) (.g2 q1 (.g q2 (.c (ir 0 4) (mLayout s) (.t4 q3 (.t q3 (.t q4 (.t4 q5 (.t q5 (.n .nil)))))))))))))
   ·rw [cneg q3] at d0
    rw [cneg q3] at d1
    have q3':=of_decide_eq_false q3
    rcases bft (decide (j.kind=2)) with q4 | q4
    ·rw [cpos q4] at d0
     rw [cpos q4] at d1
     have q4':=of_decide_eq_true q4
     rcases bft (decide ((mIndex_v2 s n)=j.src)) with q5 | q5
     ·rw [cpos q5] at d0
      rw [cpos q5] at d1
      have q5':=of_decide_eq_true q5
      rcases bft (decide ((gorder_v0 s.l.g (mIndex_v0 s n)) < j.next)) with q6 | q6
      ·rw [cpos q6] at d0
       rw [cpos q6] at d1
       have q6':=of_decide_eq_true q6
       subst d0 d1
       exact so Tryz.f106 4 (ir 0 4) (.c (ir 0 4) (mIndex s n (by first | assumption | omega)) (.g2 q1 (.g q1 (.c (ir 0 4) (jright j s) (.g2 q1 (.g q2 (.c (ir 0 4) (mLayout s) (.t4 q3 (.t q3 (.n (.t4 q4 (.t q4 (.t q5 (.c [] (gorder s.l.g (mIndex_v0 s n)) (.t q6 (.c (ir 0 4) (jgoal j s (gorder_v0 s.l.g (mIndex_v0 s n)) (by first | assumption | omega)) .nil))))))))))))))))
      ·rw [cneg q6] at d0
       rw [cneg q6] at d1
       have q6':=of_decide_eq_false q6
       subst d0 d1
       exact so Tryz.f106 4 (ir 0 4) (.c (ir 0 4) (mIndex s n (by first | assumption | omega)) (.g2 q1 (.g q1 (.c (ir 0 4) (jright j s) (.g2 q1 (.g q2 (.c (ir 0 4) (mLayout s) (.t4 q3 (.t q3 (.n (.t4 q4 (.t q4 (.t q5 (.c [] (gorder s.l.g (mIndex_v0 s n)) (.t q6 .nil)))))))))))))))
     ·rw [cneg q5] at d0
      rw [cneg q5] at d1
      have q5':=of_decide_eq_false q5
      subst d0 d1
      exact so Tryz.f106 4 (ir 0 4) (.c (ir 0 4) (mIndex s n (by first | assumption | omega)) (.g2 q1 (.g q1 (.c (ir 0 4) (jright j s) (.g2 q1 (.g q2 (.c (ir 0 4) (mLayout s) (.t4 q3 (.t q3 (.n (.t4 q4 (.t q4 (.t q5 .nil)))))))))))))
    ·rw [cneg q4] at d0
     rw [cneg q4] at d1
     have q4':=of_decide_eq_false q4
     subst d0 d1
     exact so Tryz.f106 4 (ir 0 4) (.c (ir 0 4) (mIndex s n (by first | assumption | omega)) (.g2 q1 (.g q1 (.c (ir 0 4) (jright j s) (.g2 q1 (.g q2 (.c (ir 0 4) (mLayout s) (.t4 q3 (.t q3 (.n (.t4 q4 (.t q4 (.n .nil)))))))))))))
  ·rw [cneg q2] at d0
   rw [cneg q2] at d1
   subst d0 d1
   exact so Tryz.f106 3 (ir 0 4) (.c (ir 0 4) (mIndex s n (by first | assumption | omega)) (.g2 q1 (.g q1 (.c (ir 0 4) (jright j s) (.g2 q1 (.g q2 .nil))))))
 ·rw [cneg q1] at d0
  rw [cneg q1] at d1
  have q1':=of_decide_eq_false q1
  subst d0 d1
  exact so Tryz.f106 3 (ir 0 4) (.c (ir 0 4) (mIndex s n (by first | assumption | omega)) (.g4 q1 (.g q1 (.y .nil))))
end Go.Proofs.YtfhiggfmkjmeiaaGreat
