import Derived.Test.YtfhiggfmkjmeiaaGreatFMap
set_option linter.all false
namespace Go.Proofs.YtfhiggfmkjmeiaaGreat
open Go Go.RowKit
set_option maxRecDepth 100000
def A0j (g:Gm) (r:Int) (i:Int):Int:=g.ix (⟨r,IntKind.i64.wrap ((IntKind.i64.wrap (i.tdiv g.cols)).tdiv g.rows),(IntKind.i64.wrap (i.tdiv g.cols)).tmod g.rows,i.tmod g.cols⟩:Pl)
def Wd (g:Gm) (r:Int) (i:Int):Int:=g.ixE (⟨r,IntKind.i64.wrap ((IntKind.i64.wrap (i.tdiv g.cols)).tdiv g.rows),(IntKind.i64.wrap (i.tdiv g.cols)).tmod g.rows,i.tmod g.cols⟩:Pl)
theorem nth (g:Gm) (r:Int) (i:Int) (hc:g.cols ≠ 0) (hr:g.rows ≠ 0):Sp P 272 [.ag [vi g.ranks,vi g.spares,vi g.banks,vi g.rows,vi g.cols],vi r,vi i] [] (.tu [vi (A0j g r i),vi (Wd g r i)]) [] :=
 so Tryz.f272 6 [] (.p 13 (Qu i g.cols (by assumption)) (.p 18 (Xi i g.cols (by assumption)) (.p 22 (Qu (IntKind.i64.wrap (i.tdiv g.cols)) g.rows (by assumption)) (.p 26 (Xi (IntKind.i64.wrap (i.tdiv g.cols)) g.rows (by assumption)) (.c [] (Hb g (⟨r,IntKind.i64.wrap ((IntKind.i64.wrap (i.tdiv g.cols)).tdiv g.rows),(IntKind.i64.wrap (i.tdiv g.cols)).tmod g.rows,i.tmod g.cols⟩:Pl)) .nil)))))
theorem Atm {s:MapS} (h:MapOk s):s.l.g.rows ≠ 0:=by
 have:=Gm.rt (C0 h.right).1
 omega
def Kd (j:Jb) (s:MapS):Bool:=bif (Dz j.src (A9 s.l.g)) then (bif (Dz j.goal (A9 s.l.g)) then (bif decide (j.src=j.goal) then false else (bif (Hy s j.src) then false else (!(Hy s j.goal)))) else false) else false
theorem Axs (j:Jb) (s:MapS) :Sp P 228 [.ag [vi j.kind,vi j.src,vi j.goal,vi j.next],.pt 0 0] (ros (Ge s 0)) (vt (Kd j s)) (ros (Ge s 0)):=by
 generalize d0:Kd j s=yd0
 unfold Kd at d0
 rcases bft (Dz j.src (A9 s.l.g)) with q1 | q1
 ·rw [A2 q1] at d0
  rcases bft (Dz j.goal (A9 s.l.g)) with q2 | q2
  ·rw [A2 q2] at d0
   rcases bft (decide (j.src=j.goal)) with q3 | q3
   ·rw [A2 q3] at d0
    subst d0
    exact so Tryz.f228 3 (ir 0 4) (.c (ir 0 4) (B5 s) (.c [] (Fu s.l.g) (.c [] (Me j.src (A9 s.l.g)) (.t4 q1 (.c [] (Me j.goal (A9 s.l.g)) (.t q1 (.t4 q2 (.t2 q2 (.g4 q3 (.g2 q3 (.n4 (.n2 .nil))))))))))))
   ·rw [A1 q3] at d0
    rcases bft (Hy s j.src) with q4 | q4
    ·rw [A2 q4] at d0
     subst d0
     exact so Tryz.f228 3 (ir 0 4) (.c (ir 0 4) (B5 s) (.c [] (Fu s.l.g) (.c [] (Me j.src (A9 s.l.g)) (.t4 q1 (.c [] (Me j.goal (A9 s.l.g)) (.t q1 (.t4 q2 (.t2 q2 (.g4 q3 (.c (ir 0 4) (Uf s j.src) (.g2 q3 (.g4 q4 (.g2 q4 .nil)))))))))))))
    ·rw [A1 q4] at d0
     subst d0
     exact so Tryz.f228 3 (ir 0 4) (.c (ir 0 4) (B5 s) (.c [] (Fu s.l.g) (.c [] (Me j.src (A9 s.l.g)) (.t4 q1 (.c [] (Me j.goal (A9 s.l.g)) (.t q1 (.t4 q2 (.t2 q2 (.g4 q3 (.c (ir 0 4) (Uf s j.src) (.g2 q3 (.g4 q4 (.c (ir 0 4) (Uf s j.goal) (.g2 q4 .nil))))))))))))))
  ·rw [A1 q2] at d0
   subst d0
   exact so Tryz.f228 3 (ir 0 4) (.c (ir 0 4) (B5 s) (.c [] (Fu s.l.g) (.c [] (Me j.src (A9 s.l.g)) (.t4 q1 (.c [] (Me j.goal (A9 s.l.g)) (.t q1 (.t4 q2 (.t2 q2 (.n8 (.n4 .nil))))))))))
 ·rw [A1 q1] at d0
  subst d0
  exact so Tryz.f228 3 (ir 0 4) (.c (ir 0 4) (B5 s) (.c [] (Fu s.l.g) (.c [] (Me j.src (A9 s.l.g)) (.t4 q1 (.t q1 (.n8 (.n8 (.n2 .nil))))))))
def Ke (j:Jb) (s:MapS):Bool:=bif (Dz j.src s.l.g.ranks) then (bif (Cr s j.src) then false else (Dz (IntKind.i64.wrap (j.goal - s.l.g.ranks)) s.l.g.spares)) else false
theorem Axt (j:Jb) (s:MapS) :Sp P 229 [.ag [vi j.kind,vi j.src,vi j.goal,vi j.next],.pt 0 0] (ros (Ge s 0)) (vt (Ke j s)) (ros (Ge s 0)):=by
 generalize d0:Ke j s=yd0
 unfold Ke at d0
 rcases bft (Dz j.src s.l.g.ranks) with q1 | q1
 ·rw [A2 q1] at d0
  rcases bft (Cr s j.src) with q2 | q2
  ·rw [A2 q2] at d0
   subst d0
   exact so Tryz.f229 4 (ir 0 4) (.c (ir 0 4) (B5 s) (.c (ir 0 4) (Ns s j.src) (.c [] (Me j.src s.l.g.ranks) (.t2 q1 (.t q1 (.g4 q2 (.g4 q2 (.g q2 .nil))))))))
  ·rw [A1 q2] at d0
   subst d0
   exact so Tryz.f229 4 (ir 0 4) (.c (ir 0 4) (B5 s) (.c (ir 0 4) (Ns s j.src) (.c [] (Me j.src s.l.g.ranks) (.t2 q1 (.t q1 (.g4 q2 (.g4 q2 (.c [] (Me (IntKind.i64.wrap (j.goal - s.l.g.ranks)) s.l.g.spares) (.g q2 .nil)))))))))
 ·rw [A1 q1] at d0
  subst d0
  exact so Tryz.f229 4 (ir 0 4) (.c (ir 0 4) (B5 s) (.c (ir 0 4) (Ns s j.src) (.c [] (Me j.src s.l.g.ranks) (.t2 q1 (.t q1 (.n8 (.n .nil)))))))
def Cq (j:Jb) (s:MapS):Bool:=bif decide (j.kind=0) then ((decide (j.kind=0)) && ((decide (j.src=0)) && ((decide (j.goal=0)) && ((decide (j.next=0)) && true)))) else (bif decide (j.kind=1) then (bif (Dz j.next (IntKind.i64.wrap ((A6 j s.l) + 1))) then (Kd j s) else false) else (bif decide (j.kind=2) then (bif (Dz j.next (IntKind.i64.wrap ((A6 j s.l) + 1))) then (Ke j s) else false) else false))
theorem Ik (j:Jb) (s:MapS) :Sp P 173 [.ag [vi j.kind,vi j.src,vi j.goal,vi j.next],.pt 0 0] (ros (Ge s 0)) (vt (Cq j s)) (ros (Ge s 0)):=by
 generalize d0:Cq j s=yd0
 unfold Cq at d0
 rcases bft (decide (j.kind=0)) with q1 | q1
 ·rw [A2 q1] at d0
  subst d0
  exact so Tryz.f173 6 (ir 0 4) (.c (ir 0 4) (B5 s) (.c [] (Jp j s.l) (.c [] (Me j.next (IntKind.i64.wrap ((A6 j s.l) + 1))) (.t q1 .nil))))
 ·rw [A1 q1] at d0
  rcases bft (decide (j.kind=1)) with q2 | q2
  ·rw [A2 q2] at d0
   rcases bft (Dz j.next (IntKind.i64.wrap ((A6 j s.l) + 1))) with q3 | q3
   ·rw [A2 q3] at d0
    subst d0
    exact so Tryz.f173 6 (ir 0 4) (.c (ir 0 4) (B5 s) (.c [] (Jp j s.l) (.c [] (Me j.next (IntKind.i64.wrap ((A6 j s.l) + 1))) (.t q1 (.t q2 (.t2 q3 (.t q3 (.c (ir 0 4) (Axs j s) (.t q3 .nil)))))))))
   ·rw [A1 q3] at d0
    subst d0
    exact so Tryz.f173 6 (ir 0 4) (.c (ir 0 4) (B5 s) (.c [] (Jp j s.l) (.c [] (Me j.next (IntKind.i64.wrap ((A6 j s.l) + 1))) (.t q1 (.t q2 (.t4 q3 .nil))))))
  ·rw [A1 q2] at d0
   rcases bft (decide (j.kind=2)) with q3 | q3
   ·rw [A2 q3] at d0
    rcases bft (Dz j.next (IntKind.i64.wrap ((A6 j s.l) + 1))) with q4 | q4
    ·rw [A2 q4] at d0
     subst d0
     exact so Tryz.f173 6 (ir 0 4) (.c (ir 0 4) (B5 s) (.c [] (Jp j s.l) (.c [] (Me j.next (IntKind.i64.wrap ((A6 j s.l) + 1))) (.t q1 (.t q2 (.t q3 (.t2 q4 (.t q4 (.c (ir 0 4) (Axt j s) (.t q4 .nil))))))))))
    ·rw [A1 q4] at d0
     subst d0
     exact so Tryz.f173 6 (ir 0 4) (.c (ir 0 4) (B5 s) (.c [] (Jp j s.l) (.c [] (Me j.next (IntKind.i64.wrap ((A6 j s.l) + 1))) (.t q1 (.t q2 (.t q3 (.t4 q4 .nil)))))))
   ·rw [A1 q3] at d0
    subst d0
    exact so Tryz.f173 6 (ir 0 4) (.c (ir 0 4) (B5 s) (.c [] (Jp j s.l) (.c [] (Me j.next (IntKind.i64.wrap ((A6 j s.l) + 1))) (.t q1 (.t q2 (.t q3 .nil))))))
def Fm (j:Jb) (s:MapS) (w:Int) (i:Int):Int:=bif (Cq j s) then (bif (Dz i (A6 j s.l)) then (bif decide (j.kind=2) then (A0j s.l.g w i) else (bif decide ((Ep s w)=0) then (bits .or .i64 (IntKind.i64.wrap ((C1 s w) * 2 ^ 6)) i) else 0)) else 0) else 0
def Gi (j:Jb) (s:MapS) (w:Int) (i:Int):Int:=bif (Cq j s) then (bif (Dz i (A6 j s.l)) then (bif decide (j.kind=2) then (Wd s.l.g w i) else (bif decide ((Ep s w)=0) then 0 else (Ep s w))) else 12) else 12
theorem jat (j:Jb) (s:MapS) (w:Int) (i:Int) (ok:MapOk s):Sp P 230 [.ag [vi j.kind,vi j.src,vi j.goal,vi j.next],.pt 0 0,vi w,vi i] (ros (Ge s 0)) (.tu [vi (Fm j s w i),vi (Gi j s w i)]) (ros (Ge s 0)):=by
 generalize d0:Fm j s w i=yd0
 unfold Fm at d0
 generalize d1:Gi j s w i=yd1
 unfold Gi at d1
 rcases bft (Cq j s) with q1 | q1
 ·rw [A2 q1] at d0 d1
  rcases bft (Dz i (A6 j s.l)) with q2 | q2
  ·rw [A2 q2] at d0 d1
   rcases bft (decide (j.kind=2)) with q3 | q3
   ·rw [A2 q3] at d0 d1
    subst d0 d1
    exact so Tryz.f230 7 (ir 0 4) (.c (ir 0 4) (Ik j s) (.g4 q1 (.c (ir 0 4) (B5 s) (.g q1 (.c [] (Jp j s.l) (.g q1 (.c [] (Me i (A6 j s.l)) (.g2 q1 (.g q2 (.t q3 (.c (ir 0 4) (B5 s) (.c [] (nth s.l.g w i (A4n ok) (Atm ok)) .nil))))))))))))
   ·rw [A1 q3] at d0 d1
    rcases bft (decide ((Ep s w)=0)) with q4 | q4
    ·rw [A2 q4] at d0 d1
     subst d0 d1
     exact so Tryz.f230 7 (ir 0 4) (.c (ir 0 4) (Ik j s) (.g4 q1 (.c (ir 0 4) (B5 s) (.g q1 (.c [] (Jp j s.l) (.g q1 (.c [] (Me i (A6 j s.l)) (.g2 q1 (.g q2 (.t q3 (.c (ir 0 4) (Ann s w) (.g q4 .nil))))))))))))
    ·rw [A1 q4] at d0 d1
     subst d0 d1
     exact so Tryz.f230 7 (ir 0 4) (.c (ir 0 4) (Ik j s) (.g4 q1 (.c (ir 0 4) (B5 s) (.g q1 (.c [] (Jp j s.l) (.g q1 (.c [] (Me i (A6 j s.l)) (.g2 q1 (.g q2 (.t q3 (.c (ir 0 4) (Ann s w) (.g q4 .nil))))))))))))
  ·rw [A1 q2] at d0 d1
   subst d0 d1
   exact so Tryz.f230 7 (ir 0 4) (.c (ir 0 4) (Ik j s) (.g4 q1 (.c (ir 0 4) (B5 s) (.g q1 (.c [] (Jp j s.l) (.g q1 (.c [] (Me i (A6 j s.l)) (.g2 q1 (.g q2 .nil)))))))))
 ·rw [A1 q1] at d0 d1
  subst d0 d1
  exact so Tryz.f230 4 (ir 0 4) (.c (ir 0 4) (Ik j s) (.g4 q1 (.g4 q1 (.y .nil))))
theorem Afi (j:Jb) (s:MapS) (i:Int) (ok:MapOk s):Sp P 176 [.ag [vi j.kind,vi j.src,vi j.goal,vi j.next],.pt 0 0,vi i] (ros (Ge s 0)) (.tu [vi (Fm j s j.goal i),vi (Gi j s j.goal i)]) (ros (Ge s 0)) :=
 so Tryz.f176 3 (ir 0 4) (.c (ir 0 4) (jat j s j.goal i (by first | assumption | omega)) .nil)
def I9 (j:Jb) (s:MapS) (n:Int):Int:=bif decide ((D2 s n)=0) then (bif (Cq j s) then (bif decide (j.kind=1) then (bif decide ((Gl s n)=j.src) then (bif decide (n.tmod s.l.g.cols < j.next) then (Fm j s j.goal (n.tmod s.l.g.cols)) else (Ag s n)) else (bif decide (j.kind=2) then (bif decide ((Da s n)=j.src) then (bif decide ((B6 s.l.g (Ag s n)) < j.next) then (Fm j s j.goal (B6 s.l.g (Ag s n))) else (Ag s n)) else (Ag s n)) else (Ag s n))) else (bif decide (j.kind=2) then (bif decide ((Da s n)=j.src) then (bif decide ((B6 s.l.g (Ag s n)) < j.next) then (Fm j s j.goal (B6 s.l.g (Ag s n))) else (Ag s n)) else (Ag s n)) else (Ag s n))) else (Ag s n)) else (Ag s n)
def Ei (j:Jb) (s:MapS) (n:Int):Int:=bif decide ((D2 s n)=0) then (bif (Cq j s) then (bif decide (j.kind=1) then (bif decide ((Gl s n)=j.src) then (bif decide (n.tmod s.l.g.cols < j.next) then (Gi j s j.goal (n.tmod s.l.g.cols)) else (D2 s n)) else (bif decide (j.kind=2) then (bif decide ((Da s n)=j.src) then (bif decide ((B6 s.l.g (Ag s n)) < j.next) then (Gi j s j.goal (B6 s.l.g (Ag s n))) else (D2 s n)) else (D2 s n)) else (D2 s n))) else (bif decide (j.kind=2) then (bif decide ((Da s n)=j.src) then (bif decide ((B6 s.l.g (Ag s n)) < j.next) then (Gi j s j.goal (B6 s.l.g (Ag s n))) else (D2 s n)) else (D2 s n)) else (D2 s n))) else (D2 s n)) else (D2 s n)
theorem Axu (j : Jb) (s : MapS) (n : Int) (ok : MapOk s) : Sp P 106 [.ag [vi j.kind, vi j.src, vi j.goal, vi j.next], .pt 0 0, vi n] (ros (Ge s 0)) (.tu [vi (I9 j s n), vi (Gl s n), vi (Da s n), vi (Ei j s n)]) (ros (Ge s 0)) := by
 have hc:=A4n ok
 generalize d0:I9 j s n=yd0
 unfold I9 at d0
 generalize d1:Ei j s n=yd1
 unfold Ei at d1
 rcases bft (decide ((D2 s n)=0)) with q1 | q1
 ·rw [A2 q1] at d0 d1
  have q1':=otq q1
  rcases bft (Cq j s) with q2 | q2
  ·rw [A2 q2] at d0 d1
   rcases bft (decide (j.kind=1)) with q3 | q3
   ·rw [A2 q3] at d0 d1
    have q3':=otq q3
    rcases bft (decide ((Gl s n)=j.src)) with q4 | q4
    ·rw [A2 q4] at d0 d1
     have q4':=otq q4
     rcases bft (decide (n.tmod s.l.g.cols < j.next)) with q5 | q5
     ·rw [A2 q5] at d0 d1
      have q5':=otq q5
      subst d0 d1
      exact so Tryz.f106 4 (ir 0 4) (.c (ir 0 4) (La s n (by first | assumption | omega)) (.g2 q1 (.g q1 (.c (ir 0 4) (Ik j s) (.g2 q1 (.g q2 (.c (ir 0 4) (B5 s) (.t4 q3 (.t q3 (.t q4 (.p 52 (Qu n s.l.g.cols (hc)) (.t q5 (.c (ir 0 4) (Afi j s (n.tmod s.l.g.cols) (by first | assumption | omega)) .nil)))))))))))))
     ·rw [A1 q5] at d0 d1
      have q5':=ofq q5
      subst d0 d1
      exact so Tryz.f106 4 (ir 0 4) (.c (ir 0 4) (La s n (by first | assumption | omega)) (.g2 q1 (.g q1 (.c (ir 0 4) (Ik j s) (.g2 q1 (.g q2 (.c (ir 0 4) (B5 s) (.t4 q3 (.t q3 (.t q4 (.p 52 (Qu n s.l.g.cols (hc)) (.t q5 .nil))))))))))))
    ·rw [A1 q4] at d0 d1
     have q4':=ofq q4
     rcases bft (decide (j.kind=2)) with q5 | q5
     ·rw [A2 q5] at d0 d1
      have q5':=otq q5
      rcases bft (decide ((Da s n)=j.src)) with q6 | q6
      ·rw [A2 q6] at d0 d1
       have q6':=otq q6
       rcases bft (decide ((B6 s.l.g (Ag s n)) < j.next)) with q7 | q7
       ·rw [A2 q7] at d0 d1
        have q7':=otq q7
        subst d0 d1
        exact so Tryz.f106 4 (ir 0 4) (.c (ir 0 4) (La s n (by first | assumption | omega)) (.g2 q1 (.g q1 (.c (ir 0 4) (Ik j s) (.g2 q1 (.g q2 (.c (ir 0 4) (B5 s) (.t4 q3 (.t q3 (.t q4 (.t4 q5 (.t q5 (.t q6 (.c [] (A5d s.l.g (Ag s n)) (.t q7 (.c (ir 0 4) (Afi j s (B6 s.l.g (Ag s n)) (by first | assumption | omega)) .nil))))))))))))))))
       ·rw [A1 q7] at d0 d1
        have q7':=ofq q7
        subst d0 d1
        exact so Tryz.f106 4 (ir 0 4) (.c (ir 0 4) (La s n (by first | assumption | omega)) (.g2 q1 (.g q1 (.c (ir 0 4) (Ik j s) (.g2 q1 (.g q2 (.c (ir 0 4) (B5 s) (.t4 q3 (.t q3 (.t q4 (.t4 q5 (.t q5 (.t q6 (.c [] (A5d s.l.g (Ag s n)) (.t q7 .nil)))))))))))))))
      ·rw [A1 q6] at d0 d1
       have q6':=ofq q6
       subst d0 d1
       exact so Tryz.f106 4 (ir 0 4) (.c (ir 0 4) (La s n (by first | assumption | omega)) (.g2 q1 (.g q1 (.c (ir 0 4) (Ik j s) (.g2 q1 (.g q2 (.c (ir 0 4) (B5 s) (.t4 q3 (.t q3 (.t q4 (.t4 q5 (.t q5 (.t q6 .nil)))))))))))))
     ·rw [A1 q5] at d0 d1
      have q5':=ofq q5
      subst d0 d1
      exact so Tryz.f106 4 (ir 0 4) (.c (ir 0 4) (La s n (by first | assumption | omega)) (.g2 q1 (.g q1 (.c (ir 0 4) (Ik j s) (.g2 q1 (.g q2 (.c (ir 0 4) (B5 s) (.t4 q3 (.t q3 (.t q4 (.t4 q5 (.t q5 (.n .nil)))))))))))))
   ·rw [A1 q3] at d0 d1
    have q3':=ofq q3
    rcases bft (decide (j.kind=2)) with q4 | q4
    ·rw [A2 q4] at d0 d1
     have q4':=otq q4
     rcases bft (decide ((Da s n)=j.src)) with q5 | q5
     ·rw [A2 q5] at d0 d1
      have q5':=otq q5
      rcases bft (decide ((B6 s.l.g (Ag s n)) < j.next)) with q6 | q6
      ·rw [A2 q6] at d0 d1
       have q6':=otq q6
       subst d0 d1
       exact so Tryz.f106 4 (ir 0 4) (.c (ir 0 4) (La s n (by first | assumption | omega)) (.g2 q1 (.g q1 (.c (ir 0 4) (Ik j s) (.g2 q1 (.g q2 (.c (ir 0 4) (B5 s) (.t4 q3 (.t q3 (.n (.t4 q4 (.t q4 (.t q5 (.c [] (A5d s.l.g (Ag s n)) (.t q6 (.c (ir 0 4) (Afi j s (B6 s.l.g (Ag s n)) (by first | assumption | omega)) .nil))))))))))))))))
      ·rw [A1 q6] at d0 d1
       have q6':=ofq q6
       subst d0 d1
       exact so Tryz.f106 4 (ir 0 4) (.c (ir 0 4) (La s n (by first | assumption | omega)) (.g2 q1 (.g q1 (.c (ir 0 4) (Ik j s) (.g2 q1 (.g q2 (.c (ir 0 4) (B5 s) (.t4 q3 (.t q3 (.n (.t4 q4 (.t q4 (.t q5 (.c [] (A5d s.l.g (Ag s n)) (.t q6 .nil)))))))))))))))
     ·rw [A1 q5] at d0 d1
      have q5':=ofq q5
      subst d0 d1
      exact so Tryz.f106 4 (ir 0 4) (.c (ir 0 4) (La s n (by first | assumption | omega)) (.g2 q1 (.g q1 (.c (ir 0 4) (Ik j s) (.g2 q1 (.g q2 (.c (ir 0 4) (B5 s) (.t4 q3 (.t q3 (.n (.t4 q4 (.t q4 (.t q5 .nil)))))))))))))
    ·rw [A1 q4] at d0 d1
     have q4':=ofq q4
     subst d0 d1
     exact so Tryz.f106 4 (ir 0 4) (.c (ir 0 4) (La s n (by first | assumption | omega)) (.g2 q1 (.g q1 (.c (ir 0 4) (Ik j s) (.g2 q1 (.g q2 (.c (ir 0 4) (B5 s) (.t4 q3 (.t q3 (.n (.t4 q4 (.t q4 (.n .nil)))))))))))))
  ·rw [A1 q2] at d0 d1
   subst d0 d1
   exact so Tryz.f106 3 (ir 0 4) (.c (ir 0 4) (La s n (by first | assumption | omega)) (.g2 q1 (.g q1 (.c (ir 0 4) (Ik j s) (.g2 q1 (.g q2 .nil))))))
 ·rw [A1 q1] at d0 d1
  have q1':=ofq q1
  subst d0 d1
  exact so Tryz.f106 3 (ir 0 4) (.c (ir 0 4) (La s n (by first | assumption | omega)) (.g4 q1 (.g q1 (.y .nil))))
