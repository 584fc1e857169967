import Derived.Test.YtfhiggfmkjmeiaaGreatFRun
import Derived.Test.YtfhiggfmkjmeiaaGreatFTop
import Derived.Test.YtfhiggfmkjmeiaaGreatFQu
set_option linter.all false
namespace Go.Proofs.YtfhiggfmkjmeiaaGreat
open Go Go.RowKit
set_option maxRecDepth 100000
def p2:Nat->Int
 | 0=>1
 | i + 1=>IntKind.i64.wrap (p2 i * 2)
def pK (m:Int):Nat:=if m=8 then 4 else if m=16 then 5 else if m=64 then 7 else 11
def pM (m:Int):Prop:=m=8 ∨ m=16 ∨ m=64 ∨ m=1024
theorem I8 {m:Int} (hm:pM m) {i:Nat} (h:i < pK m):p2 i<=m:=by
 have h1:∀ i,i < 4->p2 i<=8:=by decide
 have h2:∀ i,i < 5->p2 i<=16:=by decide
 have h3:∀ i,i < 7->p2 i<=64:=by decide
 have h4:∀ i,i < 11->p2 i<=1024:=by decide
 rcases hm with rfl | rfl | rfl | rfl
 ·exact h1 i h
 ·exact h2 i h
 ·exact h3 i h
 ·exact h4 i h
theorem Jx {m:Int} (hm:pM m):¬ p2 (pK m)<=m:=by rcases hm with rfl | rfl | rfl | rfl <;> decide
def pF (n m:Int):Nat:=ff (fun i=>decide (n=p2 i)) (pK m)
theorem G5 (n m:Int):pF n m<=pK m:=Qd _ _
theorem Ih {n m:Int} (hm:pM m) (h:decide (p2 (pF n m)<=m)=true):decide (n=p2 (pF n m))=true:=U0 (p:=fun i=>decide (n=p2 i)) (n:=pK m) (by
 have h1:=otq h
 have h2:=G5 n m
 rcases Nat.lt_or_ge (pF n m) (pK m) with q | q
 ·exact q
 ·have e:pF n m=pK m:=by omega
  rw [e] at h1; exact absurd h1 (Jx hm))
def Al (n:Int) (m:Int):Bool:=bif decide (p2 (pF n m)<=m) then true else false
theorem Bo (n:Int) (m:Int) (hm:pM m):Sp P 113 [vi n,vi m] [] (vt (Al n m)) []:=by
 have hw:=G5 n m
 generalize d0:Al n m=yd0
 unfold Al at d0
 rcases bft (decide (p2 (pF n m)<=m)) with q1 | q1
 ·rw [A2 q1] at d0
  have q1':=otq q1
  subst d0
  exact so Tryz.f113 3 [] (.lp (pF n m) 1 [] [] (fun i=>[(5,vi (p2 i))]) (fun i=>[]) (fun i hi=>(.t (sQT (p2 i<=m) (I8 hm (by omega))) (.t (show (decide (n=p2 i))=false from Qe hi) .nil))) (.t q1 (.t (show (decide (n=p2 (pF n m)))=true from Ih hm q1) .nil)))
 ·rw [A1 q1] at d0
  have q1':=ofq q1
  subst d0
  exact so Tryz.f113 3 [] (.lp (pF n m) 1 [] [] (fun i=>[(5,vi (p2 i))]) (fun i=>[]) (fun i hi=>(.t (sQT (p2 i<=m) (I8 hm (by omega))) (.t (show (decide (n=p2 i))=false from Qe hi) .nil))) (.t q1 .nil))
def A5 (g:Gm):Bool:=bif (Al g.ranks 8) then (bif (Al g.banks 16) then (bif (Al g.rows 1024) then (bif (Al g.cols 64) then (bif decide (g.spares < 0) then false else (bif decide (IntKind.i64.wrap (8 - g.ranks) < g.spares) then false else (decide (IntKind.i64.wrap ((IntKind.i64.wrap ((IntKind.i64.wrap ((IntKind.i64.wrap (g.ranks + g.spares)) * g.banks)) * g.rows)) * g.cols)<=4096)))) else false) else false) else false) else false
theorem g07 (g:Gm) :Sp P 44 [.ag [vi g.ranks,vi g.spares,vi g.banks,vi g.rows,vi g.cols]] [] (vt (A5 g)) []:=by
 generalize d0:A5 g=yd0
 unfold A5 at d0
 rcases bft (Al g.ranks 8) with q1 | q1
 ·rw [A2 q1] at d0
  rcases bft (Al g.banks 16) with q2 | q2
  ·rw [A2 q2] at d0
   rcases bft (Al g.rows 1024) with q3 | q3
   ·rw [A2 q3] at d0
    rcases bft (Al g.cols 64) with q4 | q4
    ·rw [A2 q4] at d0
     rcases bft (decide (g.spares < 0)) with q5 | q5
     ·rw [A2 q5] at d0
      subst d0
      exact so Tryz.f44 3 [] (.c [] (Bo g.ranks 8 ((by unfold pM; decide))) (.g q1 (.g q1 (.g q1 (.c [] (Bo g.banks 16 ((by unfold pM; decide))) (.g q1 (.g q1 (.g q2 (.g q2 (.g q2 (.c [] (Bo g.rows 1024 ((by unfold pM; decide))) (.g q2 (.g q2 (.g q3 (.g q3 (.g q3 (.c [] (Bo g.cols 64 ((by unfold pM; decide))) (.g q3 (.g q3 (.g q4 (.g q4 (.g q4 (.g q4 (.t q5 (.t q5 (.t q5 (.t q5 (.t q5 (.t q5 (.t q5 (.y .nil)))))))))))))))))))))))))))))))
     ·rw [A1 q5] at d0
      rcases bft (decide (IntKind.i64.wrap (8 - g.ranks) < g.spares)) with q6 | q6
      ·rw [A2 q6] at d0
       subst d0
       exact so Tryz.f44 3 [] (.c [] (Bo g.ranks 8 ((by unfold pM; decide))) (.g q1 (.g q1 (.g q1 (.c [] (Bo g.banks 16 ((by unfold pM; decide))) (.g q1 (.g q1 (.g q2 (.g q2 (.g q2 (.c [] (Bo g.rows 1024 ((by unfold pM; decide))) (.g q2 (.g q2 (.g q3 (.g q3 (.g q3 (.c [] (Bo g.cols 64 ((by unfold pM; decide))) (.g q3 (.g q3 (.g q4 (.g q4 (.g q4 (.g q4 (.t q5 (.t q5 (.t q5 (.t q5 (.t q5 (.t q5 (.t q5 (.t q6 .nil)))))))))))))))))))))))))))))))
      ·rw [A1 q6] at d0
       subst d0
       exact so Tryz.f44 3 [] (.c [] (Bo g.ranks 8 ((by unfold pM; decide))) (.g q1 (.g q1 (.g q1 (.c [] (Bo g.banks 16 ((by unfold pM; decide))) (.g q1 (.g q1 (.g q2 (.g q2 (.g q2 (.c [] (Bo g.rows 1024 ((by unfold pM; decide))) (.g q2 (.g q2 (.g q3 (.g q3 (.g q3 (.c [] (Bo g.cols 64 ((by unfold pM; decide))) (.g q3 (.g q3 (.g q4 (.g q4 (.g q4 (.g q4 (.t q5 (.t q5 (.t q5 (.t q5 (.t q5 (.t q5 (.t q5 (.t q6 .nil)))))))))))))))))))))))))))))))
    ·rw [A1 q4] at d0
     subst d0
     exact so Tryz.f44 3 [] (.c [] (Bo g.ranks 8 ((by unfold pM; decide))) (.g q1 (.g q1 (.g q1 (.c [] (Bo g.banks 16 ((by unfold pM; decide))) (.g q1 (.g q1 (.g q2 (.g q2 (.g q2 (.c [] (Bo g.rows 1024 ((by unfold pM; decide))) (.g q2 (.g q2 (.g q3 (.g q3 (.g q3 (.c [] (Bo g.cols 64 ((by unfold pM; decide))) (.g q3 (.g q3 (.g q4 (.g q4 (.g q4 (.g q4 (.y (.y (.y (.y (.y (.y (.y (.y .nil)))))))))))))))))))))))))))))))
   ·rw [A1 q3] at d0
    subst d0
    exact so Tryz.f44 3 [] (.c [] (Bo g.ranks 8 ((by unfold pM; decide))) (.g q1 (.g q1 (.g q1 (.c [] (Bo g.banks 16 ((by unfold pM; decide))) (.g q1 (.g q1 (.g q2 (.g q2 (.g q2 (.c [] (Bo g.rows 1024 ((by unfold pM; decide))) (.g q2 (.g q2 (.g q3 (.g q3 (.g q3 (.g q3 (.g q3 (.y (.y (.y (.y (.y (.y (.y (.y (.y (.y (.y (.y .nil))))))))))))))))))))))))))))))
  ·rw [A1 q2] at d0
   subst d0
   exact so Tryz.f44 3 [] (.c [] (Bo g.ranks 8 ((by unfold pM; decide))) (.g q1 (.g q1 (.g q1 (.c [] (Bo g.banks 16 ((by unfold pM; decide))) (.g q1 (.g q1 (.g q2 (.g q2 (.g q2 (.g q2 (.g q2 (.y (.y (.y (.y (.y (.y (.y (.y (.y (.y (.y (.y (.y (.y (.y (.y (.y .nil)))))))))))))))))))))))))))))
 ·rw [A1 q1] at d0
  subst d0
  exact so Tryz.f44 3 [] (.c [] (Bo g.ranks 8 ((by unfold pM; decide))) (.g q1 (.g q1 (.g q1 (.g q1 (.g q1 (.y (.y (.y (.y (.y (.y (.y (.y (.y (.y (.y (.y (.y (.y (.y (.y (.y (.y (.y (.y (.y (.y .nil))))))))))))))))))))))))))))
def Cx (g:Gm) (w:Int) (r:Int):Bool:=bif (A5 g) then (bif decide (0<=w) then (bif decide (w<=3) then (bif decide (0<=r) then (bif decide (r<=64) then (decide (r < IntKind.i64.wrap ((IntKind.i64.wrap (g.ranks * g.banks)) * g.rows))) else false) else false) else false) else false) else false
theorem r19 (g:Gm) (w:Int) (r:Int) :Sp P 103 [.ag [vi g.ranks,vi g.spares,vi g.banks,vi g.rows,vi g.cols],vi w,vi r] [] (vt (Cx g w r)) []:=by
 generalize d0:Cx g w r=yd0
 unfold Cx at d0
 rcases bft (A5 g) with q1 | q1
 ·rw [A2 q1] at d0
  rcases bft (decide (0<=w)) with q2 | q2
  ·rw [A2 q2] at d0
   rcases bft (decide (w<=3)) with q3 | q3
   ·rw [A2 q3] at d0
    rcases bft (decide (0<=r)) with q4 | q4
    ·rw [A2 q4] at d0
     rcases bft (decide (r<=64)) with q5 | q5
     ·rw [A2 q5] at d0
      subst d0
      exact so Tryz.f103 3 [] (.c [] (g07 g) (.t q1 (.t q1 (.t q1 (.t q2 (.t q2 (.t q2 (.t q3 (.t q3 (.t q3 (.t q4 (.t q4 (.t q4 (.t q5 (.t q5 (.t q5 (.t q5 (.t q5 (.t q5 (.t q5 (.t q5 (.t q5 (.t q5 (.t q5 .nil))))))))))))))))))))))))
     ·rw [A1 q5] at d0
      subst d0
      exact so Tryz.f103 3 [] (.c [] (g07 g) (.t q1 (.t q1 (.t q1 (.t q2 (.t q2 (.t q2 (.t q3 (.t q3 (.t q3 (.t q4 (.t q4 (.t q4 (.t q5 (.t q5 (.t q5 (.t q5 (.t q5 (.t q5 (.t q5 (.t q5 (.t q5 (.t q5 (.t q5 .nil))))))))))))))))))))))))
    ·rw [A1 q4] at d0
     subst d0
     exact so Tryz.f103 3 [] (.c [] (g07 g) (.t q1 (.t q1 (.t q1 (.t q2 (.t q2 (.t q2 (.t q3 (.t q3 (.t q3 (.t q4 (.t q4 (.t q4 (.n (.n (.n (.n (.n (.n (.n (.n (.n (.n (.n .nil))))))))))))))))))))))))
   ·rw [A1 q3] at d0
    subst d0
    exact so Tryz.f103 3 [] (.c [] (g07 g) (.t q1 (.t q1 (.t q1 (.t q2 (.t q2 (.t q2 (.t q3 (.t q3 (.t q3 (.n (.n (.n (.n (.n (.n (.n (.n (.n (.n (.n (.n (.n (.n .nil))))))))))))))))))))))))
  ·rw [A1 q2] at d0
   subst d0
   exact so Tryz.f103 3 [] (.c [] (g07 g) (.t q1 (.t q1 (.t q1 (.t q2 (.t q2 (.t q2 (.n (.n (.n (.n (.n (.n (.n (.n (.n (.n (.n (.n (.n (.n (.n (.n (.n .nil))))))))))))))))))))))))
 ·rw [A1 q1] at d0
  subst d0
  exact so Tryz.f103 3 [] (.c [] (g07 g) (.t q1 (.t q1 (.t q1 (.n (.n (.n (.n (.n (.n (.n (.n (.n (.n (.n (.n (.n (.n (.n (.n (.n (.n (.n (.n .nil))))))))))))))))))))))))
def Bu (b:Bk) (r:Rl):Bool:=bif decide (1<=r.limit) then (bif decide (r.limit<=65536) then (bif decide (1<=r.every) then (bif decide (r.every<=65536) then (bif decide (0<=b.level) then (bif decide (b.level<=65536) then (bif decide (0<=b.age) then (decide (b.age < r.every)) else false) else false) else false) else false) else false) else false) else false
theorem b15 (b : Bk) (r : Rl)  : Sp P 105 [.ag [vi r.limit, vi r.every, vi b.level, vi b.age]] [] (vt (Bu b r)) [] := by
 generalize d0:Bu b r=yd0
 unfold Bu at d0
 rcases bft (decide (1<=r.limit)) with q1 | q1
 ·rw [A2 q1] at d0
  rcases bft (decide (r.limit<=65536)) with q2 | q2
  ·rw [A2 q2] at d0
   rcases bft (decide (1<=r.every)) with q3 | q3
   ·rw [A2 q3] at d0
    rcases bft (decide (r.every<=65536)) with q4 | q4
    ·rw [A2 q4] at d0
     rcases bft (decide (0<=b.level)) with q5 | q5
     ·rw [A2 q5] at d0
      rcases bft (decide (b.level<=65536)) with q6 | q6
      ·rw [A2 q6] at d0
       rcases bft (decide (0<=b.age)) with q7 | q7
       ·rw [A2 q7] at d0
        subst d0
        exact so Tryz.f105 3 [] (.t q1 (.t q1 (.t q1 (.t q1 (.t q2 (.t q2 (.t q2 (.t q2 (.t q3 (.t q3 (.t q3 (.t q3 (.t q4 (.t q4 (.t q4 (.t q4 (.t q5 (.t q5 (.t q5 (.t q5 (.t q6 (.t q6 (.t q6 (.t q6 (.t q7 (.t q7 (.t q7 (.t q7 (.t q7 (.t q7 .nil))))))))))))))))))))))))))))))
       ·rw [A1 q7] at d0
        subst d0
        exact so Tryz.f105 3 [] (.t q1 (.t q1 (.t q1 (.t q1 (.t q2 (.t q2 (.t q2 (.t q2 (.t q3 (.t q3 (.t q3 (.t q3 (.t q4 (.t q4 (.t q4 (.t q4 (.t q5 (.t q5 (.t q5 (.t q5 (.t q6 (.t q6 (.t q6 (.t q6 (.t q7 (.t q7 (.t q7 (.t q7 (.t q7 (.t q7 .nil))))))))))))))))))))))))))))))
      ·rw [A1 q6] at d0
       subst d0
       exact so Tryz.f105 3 [] (.t q1 (.t q1 (.t q1 (.t q1 (.t q2 (.t q2 (.t q2 (.t q2 (.t q3 (.t q3 (.t q3 (.t q3 (.t q4 (.t q4 (.t q4 (.t q4 (.t q5 (.t q5 (.t q5 (.t q5 (.t q6 (.t q6 (.t q6 (.t q6 (.n (.n (.n (.n (.n (.n .nil))))))))))))))))))))))))))))))
     ·rw [A1 q5] at d0
      subst d0
      exact so Tryz.f105 3 [] (.t q1 (.t q1 (.t q1 (.t q1 (.t q2 (.t q2 (.t q2 (.t q2 (.t q3 (.t q3 (.t q3 (.t q3 (.t q4 (.t q4 (.t q4 (.t q4 (.t q5 (.t q5 (.t q5 (.t q5 (.n (.n (.n (.n (.n (.n (.n (.n (.n (.n .nil))))))))))))))))))))))))))))))
    ·rw [A1 q4] at d0
     subst d0
     exact so Tryz.f105 3 [] (.t q1 (.t q1 (.t q1 (.t q1 (.t q2 (.t q2 (.t q2 (.t q2 (.t q3 (.t q3 (.t q3 (.t q3 (.t q4 (.t q4 (.t q4 (.t q4 (.n (.n (.n (.n (.n (.n (.n (.n (.n (.n (.n (.n (.n (.n .nil))))))))))))))))))))))))))))))
   ·rw [A1 q3] at d0
    subst d0
    exact so Tryz.f105 3 [] (.t q1 (.t q1 (.t q1 (.t q1 (.t q2 (.t q2 (.t q2 (.t q2 (.t q3 (.t q3 (.t q3 (.t q3 (.n (.n (.n (.n (.n (.n (.n (.n (.n (.n (.n (.n (.n (.n (.n (.n (.n (.n .nil))))))))))))))))))))))))))))))
  ·rw [A1 q2] at d0
   subst d0
   exact so Tryz.f105 3 [] (.t q1 (.t q1 (.t q1 (.t q1 (.t q2 (.t q2 (.t q2 (.t q2 (.n (.n (.n (.n (.n (.n (.n (.n (.n (.n (.n (.n (.n (.n (.n (.n (.n (.n (.n (.n (.n (.n .nil))))))))))))))))))))))))))))))
 ·rw [A1 q1] at d0
  subst d0
  exact so Tryz.f105 3 [] (.t q1 (.t q1 (.t q1 (.t q1 (.n (.n (.n (.n (.n (.n (.n (.n (.n (.n (.n (.n (.n (.n (.n (.n (.n (.n (.n (.n (.n (.n (.n (.n (.n (.n .nil))))))))))))))))))))))))))))))
theorem Bp (r:Rl) :Sp P 104 [.ag [vi r.limit,vi r.every]] [] (.ag [vi r.limit,vi r.every,vn 0,vn 0]) [] :=
 so Tryz.f104 4 [] .nil
def Bn (c:Cfg):Bool:=bif (Cx c.ly.g c.ly.way c.ly.res) then (bif decide (c.mode=1) then (bif (Bu (⟨0,0⟩:Bk) c.rules.rank) then (bif (Bu (⟨0,0⟩:Bk) c.rules.page) then (bif decide (1<=c.rules.room) then (bif decide (c.rules.room<=256) then (bif decide (1<=c.rules.heavy) then (bif decide (c.rules.heavy<=65536) then (bif decide (1<=c.log) then (decide (c.log<=256)) else false) else false) else false) else false) else false) else false) else false) else (bif decide (c.mode=2) then (bif (Bu (⟨0,0⟩:Bk) c.rules.rank) then (bif (Bu (⟨0,0⟩:Bk) c.rules.page) then (bif decide (1<=c.rules.room) then (bif decide (c.rules.room<=256) then (bif decide (1<=c.rules.heavy) then (bif decide (c.rules.heavy<=65536) then (bif decide (1<=c.log) then (decide (c.log<=256)) else false) else false) else false) else false) else false) else false) else false) else false)) else false
theorem D7 (c : Cfg)  : Sp P 31 [.ag [vi c.ly.g.ranks, vi c.ly.g.spares, vi c.ly.g.banks, vi c.ly.g.rows, vi c.ly.g.cols, vi c.ly.way, vi c.ly.res, vi c.mode, vi c.rules.rank.limit, vi c.rules.rank.every, vi c.rules.page.limit, vi c.rules.page.every, vi c.rules.room, vi c.rules.heavy, vi c.log, vt c.back]] [] (vt (Bn c)) [] := by
 generalize d0:Bn c=yd0
 unfold Bn at d0
 rcases bft (Cx c.ly.g c.ly.way c.ly.res) with q1 | q1
 ·rw [A2 q1] at d0
  rcases bft (decide (c.mode=1)) with q2 | q2
  ·rw [A2 q2] at d0
   rcases bft (Bu (⟨0,0⟩:Bk) c.rules.rank) with q3 | q3
   ·rw [A2 q3] at d0
    rcases bft (Bu (⟨0,0⟩:Bk) c.rules.page) with q4 | q4
    ·rw [A2 q4] at d0
     rcases bft (decide (1<=c.rules.room)) with q5 | q5
     ·rw [A2 q5] at d0
      rcases bft (decide (c.rules.room<=256)) with q6 | q6
      ·rw [A2 q6] at d0
       rcases bft (decide (1<=c.rules.heavy)) with q7 | q7
       ·rw [A2 q7] at d0
        rcases bft (decide (c.rules.heavy<=65536)) with q8 | q8
        ·rw [A2 q8] at d0
         rcases bft (decide (1<=c.log)) with q9 | q9
         ·rw [A2 q9] at d0
          subst d0
          exact so Tryz.f31 7 [] (.c [] (r19 c.ly.g c.ly.way c.ly.res) (.t q1 (.t q1 (.t q1 (.t q1 (.t q2 (.t q2 (.t q2 (.t q1 (.t q2 (.t q1 (.y (.y (.y (.c [] (Bp c.rules.rank) (.y (.c [] (b15 (⟨0,0⟩:Bk) c.rules.rank) (.y (.t q3 (.t q3 (.t q3 (.c [] (Bp c.rules.page) (.t q3 (.c [] (b15 (⟨0,0⟩:Bk) c.rules.page) (.t q3 (.t q4 (.t q4 (.t q4 (.t q4 (.t q5 (.t q5 (.t q5 (.t q5 (.t q6 (.t q6 (.t q6 (.t q6 (.t q7 (.t q7 (.t q7 (.t q7 (.t q8 (.t q8 (.t q8 (.t q8 (.t q9 (.t q9 (.t q9 (.t q9 .nil)))))))))))))))))))))))))))))))))))))))))))))))))
         ·rw [A1 q9] at d0
          subst d0
          exact so Tryz.f31 7 [] (.c [] (r19 c.ly.g c.ly.way c.ly.res) (.t q1 (.t q1 (.t q1 (.t q1 (.t q2 (.t q2 (.t q2 (.t q1 (.t q2 (.t q1 (.y (.y (.y (.c [] (Bp c.rules.rank) (.y (.c [] (b15 (⟨0,0⟩:Bk) c.rules.rank) (.y (.t q3 (.t q3 (.t q3 (.c [] (Bp c.rules.page) (.t q3 (.c [] (b15 (⟨0,0⟩:Bk) c.rules.page) (.t q3 (.t q4 (.t q4 (.t q4 (.t q4 (.t q5 (.t q5 (.t q5 (.t q5 (.t q6 (.t q6 (.t q6 (.t q6 (.t q7 (.t q7 (.t q7 (.t q7 (.t q8 (.t q8 (.t q8 (.t q8 (.t q9 (.t q9 (.t q9 (.t q9 .nil)))))))))))))))))))))))))))))))))))))))))))))))))
        ·rw [A1 q8] at d0
         subst d0
         exact so Tryz.f31 7 [] (.c [] (r19 c.ly.g c.ly.way c.ly.res) (.t q1 (.t q1 (.t q1 (.t q1 (.t q2 (.t q2 (.t q2 (.t q1 (.t q2 (.t q1 (.y (.y (.y (.c [] (Bp c.rules.rank) (.y (.c [] (b15 (⟨0,0⟩:Bk) c.rules.rank) (.y (.t q3 (.t q3 (.t q3 (.c [] (Bp c.rules.page) (.t q3 (.c [] (b15 (⟨0,0⟩:Bk) c.rules.page) (.t q3 (.t q4 (.t q4 (.t q4 (.t q4 (.t q5 (.t q5 (.t q5 (.t q5 (.t q6 (.t q6 (.t q6 (.t q6 (.t q7 (.t q7 (.t q7 (.t q7 (.t q8 (.t q8 (.t q8 (.t q8 (.n (.n (.n (.n .nil)))))))))))))))))))))))))))))))))))))))))))))))))
       ·rw [A1 q7] at d0
        subst d0
        exact so Tryz.f31 7 [] (.c [] (r19 c.ly.g c.ly.way c.ly.res) (.t q1 (.t q1 (.t q1 (.t q1 (.t q2 (.t q2 (.t q2 (.t q1 (.t q2 (.t q1 (.y (.y (.y (.c [] (Bp c.rules.rank) (.y (.c [] (b15 (⟨0,0⟩:Bk) c.rules.rank) (.y (.t q3 (.t q3 (.t q3 (.c [] (Bp c.rules.page) (.t q3 (.c [] (b15 (⟨0,0⟩:Bk) c.rules.page) (.t q3 (.t q4 (.t q4 (.t q4 (.t q4 (.t q5 (.t q5 (.t q5 (.t q5 (.t q6 (.t q6 (.t q6 (.t q6 (.t q7 (.t q7 (.t q7 (.t q7 (.n (.n (.n (.n (.n (.n (.n (.n .nil)))))))))))))))))))))))))))))))))))))))))))))))))
      ·rw [A1 q6] at d0
       subst d0
       exact so Tryz.f31 7 [] (.c [] (r19 c.ly.g c.ly.way c.ly.res) (.t q1 (.t q1 (.t q1 (.t q1 (.t q2 (.t q2 (.t q2 (.t q1 (.t q2 (.t q1 (.y (.y (.y (.c [] (Bp c.rules.rank) (.y (.c [] (b15 (⟨0,0⟩:Bk) c.rules.rank) (.y (.t q3 (.t q3 (.t q3 (.c [] (Bp c.rules.page) (.t q3 (.c [] (b15 (⟨0,0⟩:Bk) c.rules.page) (.t q3 (.t q4 (.t q4 (.t q4 (.t q4 (.t q5 (.t q5 (.t q5 (.t q5 (.t q6 (.t q6 (.t q6 (.t q6 (.n (.n (.n (.n (.n (.n (.n (.n (.n (.n (.n (.n .nil)))))))))))))))))))))))))))))))))))))))))))))))))
     ·rw [A1 q5] at d0
      subst d0
      exact so Tryz.f31 7 [] (.c [] (r19 c.ly.g c.ly.way c.ly.res) (.t q1 (.t q1 (.t q1 (.t q1 (.t q2 (.t q2 (.t q2 (.t q1 (.t q2 (.t q1 (.y (.y (.y (.c [] (Bp c.rules.rank) (.y (.c [] (b15 (⟨0,0⟩:Bk) c.rules.rank) (.y (.t q3 (.t q3 (.t q3 (.c [] (Bp c.rules.page) (.t q3 (.c [] (b15 (⟨0,0⟩:Bk) c.rules.page) (.t q3 (.t q4 (.t q4 (.t q4 (.t q4 (.t q5 (.t q5 (.t q5 (.t q5 (.n (.n (.n (.n (.n (.n (.n (.n (.n (.n (.n (.n (.n (.n (.n (.n .nil)))))))))))))))))))))))))))))))))))))))))))))))))
    ·rw [A1 q4] at d0
     subst d0
     exact so Tryz.f31 7 [] (.c [] (r19 c.ly.g c.ly.way c.ly.res) (.t q1 (.t q1 (.t q1 (.t q1 (.t q2 (.t q2 (.t q2 (.t q1 (.t q2 (.t q1 (.y (.y (.y (.c [] (Bp c.rules.rank) (.y (.c [] (b15 (⟨0,0⟩:Bk) c.rules.rank) (.y (.t q3 (.t q3 (.t q3 (.c [] (Bp c.rules.page) (.t q3 (.c [] (b15 (⟨0,0⟩:Bk) c.rules.page) (.t q3 (.t q4 (.t q4 (.t q4 (.t q4 (.n (.n (.n (.n (.n (.n (.n (.n (.n (.n (.n (.n (.n (.n (.n (.n (.n (.n (.n (.n .nil)))))))))))))))))))))))))))))))))))))))))))))))))
   ·rw [A1 q3] at d0
    subst d0
    exact so Tryz.f31 7 [] (.c [] (r19 c.ly.g c.ly.way c.ly.res) (.t q1 (.t q1 (.t q1 (.t q1 (.t q2 (.t q2 (.t q2 (.t q1 (.t q2 (.t q1 (.y (.y (.y (.c [] (Bp c.rules.rank) (.y (.c [] (b15 (⟨0,0⟩:Bk) c.rules.rank) (.y (.t q3 (.t q3 (.t q3 (.t q3 (.t q3 (.n (.n (.n (.n (.n (.n (.n (.n (.n (.n (.n (.n (.n (.n (.n (.n (.n (.n (.n (.n (.n (.n (.n (.n .nil)))))))))))))))))))))))))))))))))))))))))))))))
  ·rw [A1 q2] at d0
   rcases bft (decide (c.mode=2)) with q3 | q3
   ·rw [A2 q3] at d0
    rcases bft (Bu (⟨0,0⟩:Bk) c.rules.rank) with q4 | q4
    ·rw [A2 q4] at d0
     rcases bft (Bu (⟨0,0⟩:Bk) c.rules.page) with q5 | q5
     ·rw [A2 q5] at d0
      rcases bft (decide (1<=c.rules.room)) with q6 | q6
      ·rw [A2 q6] at d0
       rcases bft (decide (c.rules.room<=256)) with q7 | q7
       ·rw [A2 q7] at d0
        rcases bft (decide (1<=c.rules.heavy)) with q8 | q8
        ·rw [A2 q8] at d0
         rcases bft (decide (c.rules.heavy<=65536)) with q9 | q9
         ·rw [A2 q9] at d0
          rcases bft (decide (1<=c.log)) with q10 | q10
          ·rw [A2 q10] at d0
           subst d0
           exact so Tryz.f31 7 [] (.c [] (r19 c.ly.g c.ly.way c.ly.res) (.t q1 (.t q1 (.t q1 (.t q1 (.t q2 (.t q2 (.t q2 (.t q1 (.t q2 (.t q1 (.t q3 (.t q3 (.t q3 (.c [] (Bp c.rules.rank) (.t q3 (.c [] (b15 (⟨0,0⟩:Bk) c.rules.rank) (.t q3 (.t q4 (.t q4 (.t q4 (.c [] (Bp c.rules.page) (.t q4 (.c [] (b15 (⟨0,0⟩:Bk) c.rules.page) (.t q4 (.t q5 (.t q5 (.t q5 (.t q5 (.t q6 (.t q6 (.t q6 (.t q6 (.t q7 (.t q7 (.t q7 (.t q7 (.t q8 (.t q8 (.t q8 (.t q8 (.t q9 (.t q9 (.t q9 (.t q9 (.t q10 (.t q10 (.t q10 (.t q10 .nil)))))))))))))))))))))))))))))))))))))))))))))))))
          ·rw [A1 q10] at d0
           subst d0
           exact so Tryz.f31 7 [] (.c [] (r19 c.ly.g c.ly.way c.ly.res) (.t q1 (.t q1 (.t q1 (.t q1 (.t q2 (.t q2 (.t q2 (.t q1 (.t q2 (.t q1 (.t q3 (.t q3 (.t q3 (.c [] (Bp c.rules.rank) (.t q3 (.c [] (b15 (⟨0,0⟩:Bk) c.rules.rank) (.t q3 (.t q4 (.t q4 (.t q4 (.c [] (Bp c.rules.page) (.t q4 (.c [] (b15 (⟨0,0⟩:Bk) c.rules.page) (.t q4 (.t q5 (.t q5 (.t q5 (.t q5 (.t q6 (.t q6 (.t q6 (.t q6 (.t q7 (.t q7 (.t q7 (.t q7 (.t q8 (.t q8 (.t q8 (.t q8 (.t q9 (.t q9 (.t q9 (.t q9 (.t q10 (.t q10 (.t q10 (.t q10 .nil)))))))))))))))))))))))))))))))))))))))))))))))))
         ·rw [A1 q9] at d0
          subst d0
          exact so Tryz.f31 7 [] (.c [] (r19 c.ly.g c.ly.way c.ly.res) (.t q1 (.t q1 (.t q1 (.t q1 (.t q2 (.t q2 (.t q2 (.t q1 (.t q2 (.t q1 (.t q3 (.t q3 (.t q3 (.c [] (Bp c.rules.rank) (.t q3 (.c [] (b15 (⟨0,0⟩:Bk) c.rules.rank) (.t q3 (.t q4 (.t q4 (.t q4 (.c [] (Bp c.rules.page) (.t q4 (.c [] (b15 (⟨0,0⟩:Bk) c.rules.page) (.t q4 (.t q5 (.t q5 (.t q5 (.t q5 (.t q6 (.t q6 (.t q6 (.t q6 (.t q7 (.t q7 (.t q7 (.t q7 (.t q8 (.t q8 (.t q8 (.t q8 (.t q9 (.t q9 (.t q9 (.t q9 (.n (.n (.n (.n .nil)))))))))))))))))))))))))))))))))))))))))))))))))
        ·rw [A1 q8] at d0
         subst d0
         exact so Tryz.f31 7 [] (.c [] (r19 c.ly.g c.ly.way c.ly.res) (.t q1 (.t q1 (.t q1 (.t q1 (.t q2 (.t q2 (.t q2 (.t q1 (.t q2 (.t q1 (.t q3 (.t q3 (.t q3 (.c [] (Bp c.rules.rank) (.t q3 (.c [] (b15 (⟨0,0⟩:Bk) c.rules.rank) (.t q3 (.t q4 (.t q4 (.t q4 (.c [] (Bp c.rules.page) (.t q4 (.c [] (b15 (⟨0,0⟩:Bk) c.rules.page) (.t q4 (.t q5 (.t q5 (.t q5 (.t q5 (.t q6 (.t q6 (.t q6 (.t q6 (.t q7 (.t q7 (.t q7 (.t q7 (.t q8 (.t q8 (.t q8 (.t q8 (.n (.n (.n (.n (.n (.n (.n (.n .nil)))))))))))))))))))))))))))))))))))))))))))))))))
       ·rw [A1 q7] at d0
        subst d0
        exact so Tryz.f31 7 [] (.c [] (r19 c.ly.g c.ly.way c.ly.res) (.t q1 (.t q1 (.t q1 (.t q1 (.t q2 (.t q2 (.t q2 (.t q1 (.t q2 (.t q1 (.t q3 (.t q3 (.t q3 (.c [] (Bp c.rules.rank) (.t q3 (.c [] (b15 (⟨0,0⟩:Bk) c.rules.rank) (.t q3 (.t q4 (.t q4 (.t q4 (.c [] (Bp c.rules.page) (.t q4 (.c [] (b15 (⟨0,0⟩:Bk) c.rules.page) (.t q4 (.t q5 (.t q5 (.t q5 (.t q5 (.t q6 (.t q6 (.t q6 (.t q6 (.t q7 (.t q7 (.t q7 (.t q7 (.n (.n (.n (.n (.n (.n (.n (.n (.n (.n (.n (.n .nil)))))))))))))))))))))))))))))))))))))))))))))))))
      ·rw [A1 q6] at d0
       subst d0
       exact so Tryz.f31 7 [] (.c [] (r19 c.ly.g c.ly.way c.ly.res) (.t q1 (.t q1 (.t q1 (.t q1 (.t q2 (.t q2 (.t q2 (.t q1 (.t q2 (.t q1 (.t q3 (.t q3 (.t q3 (.c [] (Bp c.rules.rank) (.t q3 (.c [] (b15 (⟨0,0⟩:Bk) c.rules.rank) (.t q3 (.t q4 (.t q4 (.t q4 (.c [] (Bp c.rules.page) (.t q4 (.c [] (b15 (⟨0,0⟩:Bk) c.rules.page) (.t q4 (.t q5 (.t q5 (.t q5 (.t q5 (.t q6 (.t q6 (.t q6 (.t q6 (.n (.n (.n (.n (.n (.n (.n (.n (.n (.n (.n (.n (.n (.n (.n (.n .nil)))))))))))))))))))))))))))))))))))))))))))))))))
     ·rw [A1 q5] at d0
      subst d0
      exact so Tryz.f31 7 [] (.c [] (r19 c.ly.g c.ly.way c.ly.res) (.t q1 (.t q1 (.t q1 (.t q1 (.t q2 (.t q2 (.t q2 (.t q1 (.t q2 (.t q1 (.t q3 (.t q3 (.t q3 (.c [] (Bp c.rules.rank) (.t q3 (.c [] (b15 (⟨0,0⟩:Bk) c.rules.rank) (.t q3 (.t q4 (.t q4 (.t q4 (.c [] (Bp c.rules.page) (.t q4 (.c [] (b15 (⟨0,0⟩:Bk) c.rules.page) (.t q4 (.t q5 (.t q5 (.t q5 (.t q5 (.n (.n (.n (.n (.n (.n (.n (.n (.n (.n (.n (.n (.n (.n (.n (.n (.n (.n (.n (.n .nil)))))))))))))))))))))))))))))))))))))))))))))))))
    ·rw [A1 q4] at d0
     subst d0
     exact so Tryz.f31 7 [] (.c [] (r19 c.ly.g c.ly.way c.ly.res) (.t q1 (.t q1 (.t q1 (.t q1 (.t q2 (.t q2 (.t q2 (.t q1 (.t q2 (.t q1 (.t q3 (.t q3 (.t q3 (.c [] (Bp c.rules.rank) (.t q3 (.c [] (b15 (⟨0,0⟩:Bk) c.rules.rank) (.t q3 (.t q4 (.t q4 (.t q4 (.t q4 (.t q4 (.n (.n (.n (.n (.n (.n (.n (.n (.n (.n (.n (.n (.n (.n (.n (.n (.n (.n (.n (.n (.n (.n (.n (.n .nil)))))))))))))))))))))))))))))))))))))))))))))))
   ·rw [A1 q3] at d0
    subst d0
    exact so Tryz.f31 7 [] (.c [] (r19 c.ly.g c.ly.way c.ly.res) (.t q1 (.t q1 (.t q1 (.t q1 (.t q2 (.t q2 (.t q2 (.t q1 (.t q2 (.t q1 (.t q3 (.t q3 (.t q3 (.t q3 (.t q3 (.n (.n (.n (.n (.n (.n (.n (.n (.n (.n (.n (.n (.n (.n (.n (.n (.n (.n (.n (.n (.n (.n (.n (.n (.n (.n (.n (.n (.n .nil)))))))))))))))))))))))))))))))))))))))))))))
 ·rw [A1 q1] at d0
  subst d0
  exact so Tryz.f31 7 [] (.c [] (r19 c.ly.g c.ly.way c.ly.res) (.t q1 (.t q1 (.t q1 (.t q1 (.t q1 (.t q1 (.n (.n (.n (.n (.n (.n (.n (.n (.n (.n (.n (.n (.n (.n (.n (.n (.n (.n (.n (.n (.n (.n (.n (.n (.n (.n (.n (.n (.n (.n (.n (.n (.n (.n .nil)))))))))))))))))))))))))))))))))))))))))
def Ax (c:Cfg):Bool:=bif (A5 c.ly.g) then (decide (IntKind.i64.wrap ((IntKind.i64.wrap ((IntKind.i64.wrap ((IntKind.i64.wrap (c.ly.g.ranks + c.ly.g.spares)) * c.ly.g.banks)) * c.ly.g.rows)) * c.ly.g.cols)<=100)) else true
theorem Az (c:Cfg) :Sp P 30 [.ag [vi c.ly.g.ranks,vi c.ly.g.spares,vi c.ly.g.banks,vi c.ly.g.rows,vi c.ly.g.cols,vi c.ly.way,vi c.ly.res,vi c.mode,vi c.rules.rank.limit,vi c.rules.rank.every,vi c.rules.page.limit,vi c.rules.page.every,vi c.rules.room,vi c.rules.heavy,vi c.log,vt c.back]] [] (vt (Ax c)) []:=by
 generalize d0:Ax c=yd0
 unfold Ax at d0
 rcases bft (A5 c.ly.g) with q1 | q1
 ·rw [A2 q1] at d0
  subst d0
  exact so Tryz.f30 4 [] (.c [] (g07 c.ly.g) (.g q1 (.g q1 (.g q1 (.g q1 (.g q1 (.g q1 (.g q1 (.g q1 (.g q1 (.g q1 (.g q1 (.g q1 (.g q1 (.g q1 (.g q1 (.g q1 .nil)))))))))))))))))
 ·rw [A1 q1] at d0
  subst d0
  exact so Tryz.f30 4 [] (.c [] (g07 c.ly.g) (.g q1 (.g q1 (.g q1 (.g q1 (.g q1 (.g q1 (.g q1 (.g q1 (.g q1 (.g q1 (.g q1 (.g q1 (.g q1 (.g q1 (.g q1 (.g q1 .nil)))))))))))))))))
end Go.Proofs.YtfhiggfmkjmeiaaGreat
namespace Go.Proofs.YtfhiggfmkjmeiaaGreat
open Go Go.RowKit
set_option maxRecDepth 100000
theorem Dw (g:Gm) (m:Int) (hg:g.right=false):Sp P 114 [.ag [vi g.ranks,vi g.spares,vi g.banks,vi g.rows,vi g.cols],vi m] [] (.tu [B23,vn 20]) [] :=
 so Tryz.f114 3 [] (.c [] (Fb g) (.g hg .nil))
theorem Eb (g:Gm) (m:Int) (hg:g.right=true) (hm:Fa m=false):Sp P 114 [.ag [vi g.ranks,vi g.spares,vi g.banks,vi g.rows,vi g.cols],vi m] [] (.tu [B23,vn 21]) [] :=
 so Tryz.f114 3 [] (.c [] (Fb g) (.g hg (.c [] (R0 m) (.t (congrArg (!·) (show (Fa m)=false from hm)) .nil))))
theorem En (g:Gm) (m:Int) (hg:g.right=false):Sp P 45 [.ag [vi g.ranks,vi g.spares,vi g.banks,vi g.rows,vi g.cols],vi m] [] (.tu [B23,vn 20]) [] :=
 so Tryz.f45 3 [] (.c [] (Dw g m hg) (.y .nil))
theorem Fe (g:Gm) (m:Int) (hg:g.right=true) (hm:Fa m=false):Sp P 45 [.ag [vi g.ranks,vi g.spares,vi g.banks,vi g.rows,vi g.cols],vi m] [] (.tu [B23,vn 21]) [] :=
 so Tryz.f45 3 [] (.c [] (Eb g m hg hm) (.y .nil))
theorem gne {g h:Gm} (hn:g ≠ h):((decide (g.ranks=h.ranks)) && ((decide (g.spares=h.spares)) && ((decide (g.banks=h.banks)) && ((decide (g.rows=h.rows)) && ((decide (g.cols=h.cols)) && true)))))=false:=by
 cases q:((decide (g.ranks=h.ranks)) && ((decide (g.spares=h.spares)) && ((decide (g.banks=h.banks)) && ((decide (g.rows=h.rows)) && ((decide (g.cols=h.cols)) && true))))) with
 | false=>rfl
 | true =>
   simp only [bq,decide_eq_true_eq] at q
   obtain ⟨a,b,c,d,e,_⟩:=q
   refine absurd ?_ hn
   obtain ⟨g1,g2,g3,g4,g5⟩:=g
   obtain ⟨h1,h2,h3,h4,h5⟩:=h
   subst a b c d e; rfl
theorem Gg (c:Cfg) (d:DevS) (hno:A8 c=false):Sp P 46 [.ag [vi c.ly.g.ranks,vi c.ly.g.spares,vi c.ly.g.banks,vi c.ly.g.rows,vi c.ly.g.cols,vi c.ly.way,vi c.ly.res,vi c.mode,vi c.rules.rank.limit,vi c.rules.rank.every,vi c.rules.page.limit,vi c.rules.page.every,vi c.rules.room,vi c.rules.heavy,vi c.log,vt c.back],.pt 0 0] (ros (L6 d 0)) (.tu [B23,vn 22]) (ros (L6 d 0)) :=
 so Tryz.f46 3 (ir 0 8) (.c [] (Q2 c) (.t (congrArg (!·) (show (A8 c)=false from hno)) .nil))
theorem Im (c:Cfg) (d:DevS) (hcf:A8 c=true) (hn:d.d.g ≠ c.ly.g):Sp P 46 [.ag [vi c.ly.g.ranks,vi c.ly.g.spares,vi c.ly.g.banks,vi c.ly.g.rows,vi c.ly.g.cols,vi c.ly.way,vi c.ly.res,vi c.mode,vi c.rules.rank.limit,vi c.rules.rank.every,vi c.rules.page.limit,vi c.rules.page.every,vi c.rules.room,vi c.rules.heavy,vi c.log,vt c.back],.pt 0 0] (ros (L6 d 0)) (.tu [B23,vn 20]) (ros (L6 d 0)) :=
 so Tryz.f46 5 (ir 0 8) (.c [] (Q2 c) (.t (congrArg (!·) (show (A8 c)=true from hcf)) (.c (ir 0 8) (Sq d) (.c (ir 4 4) (Aec d.d) (.t (congrArg (!·) (show ((decide (d.d.g.ranks=c.ly.g.ranks)) && ((decide (d.d.g.spares=c.ly.g.spares)) && ((decide (d.d.g.banks=c.ly.g.banks)) && ((decide (d.d.g.rows=c.ly.g.rows)) && ((decide (d.d.g.cols=c.ly.g.cols)) && true)))))=false from gne hn)) .nil)))))
theorem J0 (c:Cfg) (d:DevS) (hcf:A8 c=true) (hgq:d.d.g=c.ly.g) (hn:d.d.mode ≠ c.mode):Sp P 46 [.ag [vi c.ly.g.ranks,vi c.ly.g.spares,vi c.ly.g.banks,vi c.ly.g.rows,vi c.ly.g.cols,vi c.ly.way,vi c.ly.res,vi c.mode,vi c.rules.rank.limit,vi c.rules.rank.every,vi c.rules.page.limit,vi c.rules.page.every,vi c.rules.room,vi c.rules.heavy,vi c.log,vt c.back],.pt 0 0] (ros (L6 d 0)) (.tu [B23,vn 21]) (ros (L6 d 0)) :=
 so Tryz.f46 7 (ir 0 8) (.c [] (Q2 c) (.t (congrArg (!·) (show (A8 c)=true from hcf)) (.c (ir 0 8) (Sq d) (.c (ir 4 4) (Aec d.d) (.t (congrArg (!·) (show ((decide (d.d.g.ranks=c.ly.g.ranks)) && ((decide (d.d.g.spares=c.ly.g.spares)) && ((decide (d.d.g.banks=c.ly.g.banks)) && ((decide (d.d.g.rows=c.ly.g.rows)) && ((decide (d.d.g.cols=c.ly.g.cols)) && true)))))=true from (by rw [hgq]; simp))) (.c (ir 0 8) (Sq d) (.c (ir 4 4) (Wu d.d) (.t (congrArg (!·) (show (decide (d.d.mode=c.mode))=false from fq hn)) .nil))))))))
theorem G6 (c:Cfg) (hcf:A8 c=true):Sp P 33 [.ag [vi c.ly.g.ranks,vi c.ly.g.spares,vi c.ly.g.banks,vi c.ly.g.rows,vi c.ly.g.cols,vi c.ly.way,vi c.ly.res,vi c.mode,vi c.rules.rank.limit,vi c.rules.rank.every,vi c.rules.page.limit,vi c.rules.page.every,vi c.rules.room,vi c.rules.heavy,vi c.log,vt c.back]] [] (.tu [.pt 8 0,.pt 0 0]) (L6 (Sw c).d 0 ++ [.blk [.pt 9 0,.pt 0 0,.pt 24 0,vi (Sw c).cur,.sl 23] 176] ++ Mb (Sw c).le 9 ++ [.row eNt (Sw c).notes] ++ Bg 24) :=
 so Tryz.f33 32 (ir 2 29) (.c [] (Al3 c.ly.g c.mode ((C0 (Ho hcf).1).1) ((Ad8 (Ho hcf).2.1))) (.n (.c (ir 2 8) (B1n c hcf) (.n .nil))))
theorem Gy  :Sp P 101 [] [] (.ag [vn 1,vn 0,vn 1,vn 2,vn 2,vn 0,vn 0,vn 1,vn 9,vn 9,vn 9,vn 9,vn 2,vn 2,vn 4,vt true]) [] :=
 so Tryz.f101 4 [] .nil
theorem Gf {s:CtlS} (h0:s=Sw Ar7):Sp P 33 [.ag [vn 1,vn 0,vn 1,vn 2,vn 2,vn 0,vn 0,vn 1,vn 9,vn 9,vn 9,vn 9,vn 2,vn 2,vn 4,vt true]] [] (.tu [.pt 8 0,.pt 0 0]) (L6 s.d 0 ++ [.blk [.pt 9 0,.pt 0 0,.pt 24 0,vi s.cur,.sl 23] 176] ++ Mb s.le 9 ++ [.row eNt s.notes] ++ Bg 24):=by
 subst h0
 have h:=G6 Ar7 (by decide +kernel)
 exact h
theorem H3 {s t:CtlS} (ok:CtlOk 98000000 s) (h1:t=Hn s 1 (arL (fun _=>9) 64 0)) (hw:Ar s 1 (arL (fun _=>9) 64 0) 18446744073709551615=0):Sp P 34 [.pt 0 0,vi 1,.sl 29] (Ct s 0 ++ ros (Bg 24) ++ [.ro (.row eB (arL (fun _=>9) 64 0))]) (vn 0) (Ct t 0 ++ ros (Bg 24) ++ [.ro (.row eB (arL (fun _=>9) 64 0))]):=by
 have h:=Ak5 s 1 (arL (fun _=>9) 64 0) ok (by rw [Bh]) (Ij (fun _=>(by decide:(9:Nat) < 256)) 64 0)
 rw [hw,← h1] at h
 exact h
theorem Ln {t:CtlS} {x:DevS} (ok:DevOk t.d) (h2:x=Ig t.d (⟨1,0,0,0,1,0,5,0⟩:Flt)) (hi:Cm t.d.d (⟨1,0,0,0,1,0,5,0⟩:Flt)=0):Sp P 37 [.pt 0 0,.ag [vi 1,vi 0,vi 0,vi 0,vi 1,vi 0,vi 5,vi 0]] (L6 t.d 0) (vi 0) (L6 x 0):=by
 have h:=Agv t.d (⟨1,0,0,0,1,0,5,0⟩:Flt) ok
 rw [hi,← h2] at h
 exact h
theorem L1 {t u:CtlS} {x:DevS} {f:Nat->Nat} (ok:CtlOk 98000000 ({ t with d:=x }:CtlS)) (h3:u=An ({ t with d:=x }:CtlS) 1 t.le.c.back) (hf:f=Cl ({ t with d:=x }:CtlS) 1 t.le.c.back) (hv:Bv ({ t with d:=x }:CtlS) 1 t.le.c.back=0):Sp P 39 [.pt 0 0,vi 1] ([.blk [.pt 1 0,.pt 15 0,.pt 24 0,vi t.cur,.sl 23] 176] ++ Mb t.le 1 ++ L6 x 15 ++ [.row eNt t.notes] ++ ros (Bg 24)) (.tu [.ar .u8 64 (nf f),vn 0]) (Ct u 0 ++ ros (Bg 24)):=by
 have h:=Ak1 ({ t with d:=x }:CtlS) 1 ok
 subst h3 hf
 rw [show Bv ({ t with d:=x }:CtlS) 1 (({ t with d:=x }:CtlS)).le.c.back=0 from hv] at h
 exact h
theorem L9 (s:CtlS) (t:CtlS) (u:CtlS) (x:DevS) (f:Nat->Nat) (h0:s=Sw Ar7) (ok1:CtlOk 98000000 s) (h1:t=Hn s 1 (arL (fun _=>9) 64 0)) (hw:Ar s 1 (arL (fun _=>9) 64 0) 18446744073709551615=0) (ok2:DevOk t.d) (h2:x=Ig t.d (⟨1,0,0,0,1,0,5,0⟩:Flt)) (hi:Cm t.d.d (⟨1,0,0,0,1,0,5,0⟩:Flt)=0) (ok3:CtlOk 98000000 ({ t with d:=x }:CtlS)) (h3:u=An ({ t with d:=x }:CtlS) 1 t.le.c.back) (hf:f=Cl ({ t with d:=x }:CtlS) 1 t.le.c.back) (hv:Bv ({ t with d:=x }:CtlS) 1 t.le.c.back=0) (hl:u.le.log.l.length=1) (e1:(u.le.log.l.getD 0 Pr).kind=1) (e2:(u.le.log.l.getD 0 Pr).index=1) (e3:(u.le.log.l.getD 0 Pr).info=1) (he:eqA (nf f) (nf (fun _=>9)) 64 0=true):Sp P 29 [] [] (vt true) [] :=
 so Tryz.f29 39 [] (.c [] (Gy) (.c [] ((Gf h0)) (.n (.c [] (fill 9) (.c (ir 9 15 ++ ir 1 8 ++ ir 24 6 ++ .sg 30 0 1 64 :: []) ((H3 ok1 h1 hw)) (.c (ir 1 8) ((Ln ok2 h2 hi)) (.c (ir 9 15 ++ ir 1 8 ++ ir 24 6) ((L1 ok3 h3 hf hv)) (.c (ir 9 15 ++ ir 1 8 ++ ir 24 6) (Ow u) (.c [.id 22,.id 23] (Lr u.le.log) (.lu 1 (.t (show (decide (0 < ((u.le.log.l.length:Nat):Int)))=true from (tq (by rw [hl]; decide))) (.ix (i:=0) (m:=u.le.log.l.length) (by rw [hl]; decide) (.el (e:=Kt) (gDx (l:=u.le.log.l) (i:=0) Pr (by rw [hl]; decide)) (.t (show (decide ((u.le.log.l.getD 0 Pr).kind=1))=true from (tq e1)) (.t (show (decide ((u.le.log.l.getD 0 Pr).kind=1))=true from (tq e1)) (.t (show (decide ((u.le.log.l.getD 0 Pr).kind=1))=true from (tq e1)) (.t (show (decide ((u.le.log.l.getD 0 Pr).kind=1))=true from (tq e1)) (.t (show (decide ((u.le.log.l.getD 0 Pr).index=1))=true from (tq e2)) (.t (show (decide ((u.le.log.l.getD 0 Pr).index=1))=true from (tq e2)) (.t (show (decide ((u.le.log.l.getD 0 Pr).index=1))=true from (tq e2)) (.t (show (decide ((u.le.log.l.getD 0 Pr).index=1))=true from (tq e2)) (.t (show (decide ((u.le.log.l.getD 0 Pr).info=1))=true from (tq e3)) (.n (.t (show (decide (1 < ((u.le.log.l.length:Nat):Int)))=false from (fq (by rw [hl]; decide))) (.y (.y (.y (.y (.y (.y (.y (.y (.y (.y (.t he (.t he (.t he .nil)))))))))))))))))))))))))))))))))))))
def Db:CtlS:=Hn (Sw Ar7) 1 (arL (fun _=>9) 64 0)
def G1:DevS:=Ig Db.d (⟨1,0,0,0,1,0,5,0⟩:Flt)
def Fy:CtlS:=An ({ Db with d:=G1 }:CtlS) 1 Db.le.c.back
theorem Gp {n:Nat} {s:CtlS} {f:Flt} (ok:CtlOk n s):CtlOk n { s with d:=Ig s.d f }:=⟨ok.le,Adn ok.d,ok.md,ok.nl,ok.dl⟩
theorem Lz:CtlOk 98000000 (Sw Ar7):=(Kx (c:=Ar7) (by decide +kernel)).c.mono (by decide)
theorem Lu:CtlOk 9000000 Db:=by
 have h:CtlOk (8388608 + 3) (Ah (Sw Ar7) 1 (arL (fun _=>9) 64 0) 18446744073709551615):=Aap (n:=8388608) (m:=18446744073709551615) (Kx (c:=Ar7) (by decide +kernel)).c (Ij (fun _=>(by decide:(9:Nat) < 256)) 64 0)
 exact h.mono (by decide)
theorem M0:CtlOk 98000000 ({ Db with d:=G1 }:CtlS):=(Gp Lu).mono (by decide)
theorem Br:Sp P 29 [] [] (vt true) []:=by
 have a1:Ar (Sw Ar7) 1 (arL (fun _=>9) 64 0) 18446744073709551615=0:=by decide +kernel
 have a2:Cm Db.d.d (⟨1,0,0,0,1,0,5,0⟩:Flt)=0:=by decide +kernel
 have a3:Bv ({ Db with d:=G1 }:CtlS) 1 Db.le.c.back=0:=by decide +kernel
 have a4:Fy.le.log.l.length=1:=by decide +kernel
 have a5:(Fy.le.log.l.getD 0 Pr).kind=1:=by decide +kernel
 have a6:(Fy.le.log.l.getD 0 Pr).index=1:=by decide +kernel
 have a7:(Fy.le.log.l.getD 0 Pr).info=1:=by decide +kernel
 have a8:eqA (nf (Cl ({ Db with d:=G1 }:CtlS) 1 Db.le.c.back)) (nf (fun _=>9)) 64 0=true:=by decide +kernel
 exact L9 (Sw Ar7) Db Fy G1 _ rfl Lz rfl a1 Lu.d rfl a2 M0 rfl rfl a3 a4 a5 a6 a7 a8
end Go.Proofs.YtfhiggfmkjmeiaaGreat
namespace Go.Proofs.YtfhiggfmkjmeiaaGreat
open Go Go.RowKit
set_option maxRecDepth 100000
theorem Lv:∀ k,k < 1025->Al ((k:Nat):Int) 8=H9 ((k:Nat):Int) 8:=by decide +kernel
theorem Jy:∀ k,k < 1025->Al ((k:Nat):Int) 16=H9 ((k:Nat):Int) 16:=by decide +kernel
theorem Kr:∀ k,k < 1025->Al ((k:Nat):Int) 64=H9 ((k:Nat):Int) 64:=by decide +kernel
theorem K6:∀ k,k < 1025->Al ((k:Nat):Int) 1024=H9 ((k:Nat):Int) 1024:=by decide +kernel
theorem Dl {n m:Int} (hm:pM m):Al n m=H9 n m:=by
 by_cases h:0<=n/\n<=1024
 ·have e:n=((n.toNat:Nat):Int):=by omega
  rw [e]
  rcases hm with rfl | rfl | rfl | rfl
  ·exact Lv _ (by omega)
  ·exact Jy _ (by omega)
  ·exact Kr _ (by omega)
  ·exact K6 _ (by omega)
 ·have hm2:m<=1024:=by rcases hm with rfl | rfl | rfl | rfl <;> decide
  have e1:H9 n m=false:=by
   unfold H9
   by_cases a:1<=n
   ·rw [fq (show ¬ n<=m by omega)]; simp
   ·rw [fq a]; rfl
  rw [e1]
  unfold Al
  cases q:decide (p2 (pF n m)<=m) with
  | false=>rfl
  | true =>
    exfalso
    have h1:=otq (Ih hm q)
    have h2:=otq q
    have h3:pF n m < 12:=by
     have a:=G5 n m
     have b:pK m<=11:=by rcases hm with rfl | rfl | rfl | rfl <;> decide
     omega
    have h4:∀ i,i < 12->1<=p2 i:=by decide
    have:=h4 _ h3
    omega
theorem Aj (g:Gm):A5 g=g.right:=by
 unfold A5 Gm.right Gm.lines
 rw [Dl (Or.inl rfl),Dl (Or.inr (Or.inl rfl)),Dl (Or.inr (Or.inr (Or.inr rfl))),Dl (Or.inr (Or.inr (Or.inl rfl)))]
 have e1:(decide (0<=g.spares))=!decide (g.spares < 0):=by by_cases a:g.spares < 0 <;> simp [a] <;> omega
 have e2:(decide (g.spares<=IntKind.i64.wrap (8 - g.ranks)))=!decide (IntKind.i64.wrap (8 - g.ranks) < g.spares):=by by_cases a:IntKind.i64.wrap (8 - g.ranks) < g.spares <;> simp [a] <;> omega
 rw [e1,e2]
 cases H9 g.ranks 8 <;> cases H9 g.banks 16 <;> cases H9 g.rows 1024 <;> cases H9 g.cols 64 <;> cases decide (g.spares < 0) <;> cases decide (IntKind.i64.wrap (8 - g.ranks) < g.spares) <;> rfl
theorem Ff (r:Rl):Bu ⟨0,0⟩ r=Fp r:=by
 unfold Bu Fp G2
 by_cases a:1<=r.every
 ·rw [tq a,tq (show (0:Int) < r.every by omega)]
  cases decide (1<=r.limit) <;> cases decide (r.limit<=65536) <;> cases decide (r.every<=65536) <;> rfl
 ·rw [fq a]
  cases decide (1<=r.limit) <;> cases decide (r.limit<=65536) <;> rfl
theorem Kw (l:Ly):Cx l.g l.way l.res=Bc l:=by
 unfold Cx Bc B7 A9
 rw [Aj]
 have e:decide (l.way<=3)=decide (l.way < 4):=by by_cases a:l.way < 4 <;> simp [a] <;> omega
 rw [e]
 cases l.g.right <;> cases decide (0<=l.way) <;> cases decide (l.way < 4) <;> rfl
theorem C9 (c:Cfg):Bn c=A8 c:=by
 unfold Bn A8 Fa Cb
 rw [Kw,Ff,Ff]
 cases Bc c.ly <;> cases decide (c.mode=1) <;> cases decide (c.mode=2) <;> cases Fp c.rules.rank <;> cases Fp c.rules.page <;> cases decide (1<=c.rules.room) <;> cases decide (c.rules.room<=256) <;> cases decide (1<=c.rules.heavy) <;> cases decide (c.rules.heavy<=65536) <;> rfl
end Go.Proofs.YtfhiggfmkjmeiaaGreat
namespace Go.Proofs.YtfhiggfmkjmeiaaGreat
open Go Go.RowKit
set_option maxRecDepth 100000
theorem cb1 (c:Cfg) (g:Gm) (m:Int) (n:Int) (hg:g.right=false):Sp P 6 [.ag [vi c.ly.g.ranks,vi c.ly.g.spares,vi c.ly.g.banks,vi c.ly.g.rows,vi c.ly.g.cols,vi c.ly.way,vi c.ly.res,vi c.mode,vi c.rules.rank.limit,vi c.rules.rank.every,vi c.rules.page.limit,vi c.rules.page.every,vi c.rules.room,vi c.rules.heavy,vi c.log,vt c.back],.ag [vi g.ranks,vi g.spares,vi g.banks,vi g.rows,vi g.cols],vi m,vi n] [] (vt true) []:=by
 rcases bft (Ax c) with q1 | q1
 ·exact so Tryz.f6 5 [] (.c [] (Br) (.n (.c [] (Az c) (.g q1 (.g q1 (.c [] (g07 g) (.g q1 (.t (show (A5 g)=false from ((Aj g).trans hg)) (.t (show (A5 g)=false from ((Aj g).trans hg)) (.t (show (A5 g)=false from ((Aj g).trans hg)) (.t (show (A5 g)=false from ((Aj g).trans hg)) (.t (show (A5 g)=false from ((Aj g).trans hg)) (.t (show (A5 g)=false from ((Aj g).trans hg)) (.t (show (A5 g)=false from ((Aj g).trans hg)) (.t (show (A5 g)=false from ((Aj g).trans hg)) (.t (show (A5 g)=false from ((Aj g).trans hg)) (.t (show (A5 g)=false from ((Aj g).trans hg)) (.t (show (A5 g)=false from ((Aj g).trans hg)) (.t (show (A5 g)=false from ((Aj g).trans hg)) (.t (show (A5 g)=false from ((Aj g).trans hg)) (.t (show (A5 g)=false from ((Aj g).trans hg)) (.t (show (A5 g)=false from ((Aj g).trans hg)) (.g q1 (.t (show (A5 g)=false from ((Aj g).trans hg)) (.g q1 (.n (.c [] (En g m hg) (.y (.y (.y (.y .nil)))))))))))))))))))))))))))))))
 ·exact so Tryz.f6 5 [] (.c [] (Br) (.n (.c [] (Az c) (.g q1 (.g q1 (.g q1 (.g q1 (.g q1 (.y .nil)))))))))
theorem cb2 (c:Cfg) (g:Gm) (m:Int) (n:Int) (hg:g.right=true) (hm:Fa m=false):Sp P 6 [.ag [vi c.ly.g.ranks,vi c.ly.g.spares,vi c.ly.g.banks,vi c.ly.g.rows,vi c.ly.g.cols,vi c.ly.way,vi c.ly.res,vi c.mode,vi c.rules.rank.limit,vi c.rules.rank.every,vi c.rules.page.limit,vi c.rules.page.every,vi c.rules.room,vi c.rules.heavy,vi c.log,vt c.back],.ag [vi g.ranks,vi g.spares,vi g.banks,vi g.rows,vi g.cols],vi m,vi n] [] (vt true) []:=by
 rcases bft (Ax c) with q1 | q1
 ·rcases bft (decide (100 < IntKind.i64.wrap ((IntKind.i64.wrap ((IntKind.i64.wrap ((IntKind.i64.wrap (g.ranks + g.spares)) * g.banks)) * g.rows)) * g.cols))) with q2 | q2
  ·exact so Tryz.f6 5 [] (.c [] (Br) (.n (.c [] (Az c) (.g q1 (.g q1 (.c [] (g07 g) (.g q1 (.t (show (A5 g)=true from ((Aj g).trans hg)) (.t (show (A5 g)=true from ((Aj g).trans hg)) (.t (show (A5 g)=true from ((Aj g).trans hg)) (.t (show (A5 g)=true from ((Aj g).trans hg)) (.t (show (A5 g)=true from ((Aj g).trans hg)) (.t (show (A5 g)=true from ((Aj g).trans hg)) (.t (show (A5 g)=true from ((Aj g).trans hg)) (.t (show (A5 g)=true from ((Aj g).trans hg)) (.t (show (A5 g)=true from ((Aj g).trans hg)) (.t (show (A5 g)=true from ((Aj g).trans hg)) (.t (show (A5 g)=true from ((Aj g).trans hg)) (.t (show (A5 g)=true from ((Aj g).trans hg)) (.t (show (A5 g)=true from ((Aj g).trans hg)) (.t (show (A5 g)=true from ((Aj g).trans hg)) (.t (show (A5 g)=true from ((Aj g).trans hg)) (.g q1 (.t (show (A5 g)=true from ((Aj g).trans hg)) (.g q1 (.t q2 .nil))))))))))))))))))))))))))
  ·exact so Tryz.f6 5 [] (.c [] (Br) (.n (.c [] (Az c) (.g q1 (.g q1 (.c [] (g07 g) (.g q1 (.t (show (A5 g)=true from ((Aj g).trans hg)) (.t (show (A5 g)=true from ((Aj g).trans hg)) (.t (show (A5 g)=true from ((Aj g).trans hg)) (.t (show (A5 g)=true from ((Aj g).trans hg)) (.t (show (A5 g)=true from ((Aj g).trans hg)) (.t (show (A5 g)=true from ((Aj g).trans hg)) (.t (show (A5 g)=true from ((Aj g).trans hg)) (.t (show (A5 g)=true from ((Aj g).trans hg)) (.t (show (A5 g)=true from ((Aj g).trans hg)) (.t (show (A5 g)=true from ((Aj g).trans hg)) (.t (show (A5 g)=true from ((Aj g).trans hg)) (.t (show (A5 g)=true from ((Aj g).trans hg)) (.t (show (A5 g)=true from ((Aj g).trans hg)) (.t (show (A5 g)=true from ((Aj g).trans hg)) (.t (show (A5 g)=true from ((Aj g).trans hg)) (.g q1 (.t (show (A5 g)=true from ((Aj g).trans hg)) (.g q1 (.t q2 (.c [] (Fe g m hg hm) (.y (.y (.y (.y .nil)))))))))))))))))))))))))))))))
 ·exact so Tryz.f6 5 [] (.c [] (Br) (.n (.c [] (Az c) (.g q1 (.g q1 (.g q1 (.g q1 (.g q1 (.y .nil)))))))))
theorem cb3 (c:Cfg) (g:Gm) (m:Int) (n:Int) (hg:g.right=true) (hm:Fa m=true) (hno:A8 c=false):Sp P 6 [.ag [vi c.ly.g.ranks,vi c.ly.g.spares,vi c.ly.g.banks,vi c.ly.g.rows,vi c.ly.g.cols,vi c.ly.way,vi c.ly.res,vi c.mode,vi c.rules.rank.limit,vi c.rules.rank.every,vi c.rules.page.limit,vi c.rules.page.every,vi c.rules.room,vi c.rules.heavy,vi c.log,vt c.back],.ag [vi g.ranks,vi g.spares,vi g.banks,vi g.rows,vi g.cols],vi m,vi n] [] (vt true) []:=by
 rcases bft (Ax c) with q1 | q1
 ·rcases bft (decide (100 < IntKind.i64.wrap ((IntKind.i64.wrap ((IntKind.i64.wrap ((IntKind.i64.wrap (g.ranks + g.spares)) * g.banks)) * g.rows)) * g.cols))) with q2 | q2
  ·exact so Tryz.f6 5 [] (.c [] (Br) (.n (.c [] (Az c) (.g q1 (.g q1 (.c [] (g07 g) (.g q1 (.t (show (A5 g)=true from ((Aj g).trans hg)) (.t (show (A5 g)=true from ((Aj g).trans hg)) (.t (show (A5 g)=true from ((Aj g).trans hg)) (.t (show (A5 g)=true from ((Aj g).trans hg)) (.t (show (A5 g)=true from ((Aj g).trans hg)) (.t (show (A5 g)=true from ((Aj g).trans hg)) (.t (show (A5 g)=true from ((Aj g).trans hg)) (.t (show (A5 g)=true from ((Aj g).trans hg)) (.t (show (A5 g)=true from ((Aj g).trans hg)) (.t (show (A5 g)=true from ((Aj g).trans hg)) (.t (show (A5 g)=true from ((Aj g).trans hg)) (.t (show (A5 g)=true from ((Aj g).trans hg)) (.t (show (A5 g)=true from ((Aj g).trans hg)) (.t (show (A5 g)=true from ((Aj g).trans hg)) (.t (show (A5 g)=true from ((Aj g).trans hg)) (.g q1 (.t (show (A5 g)=true from ((Aj g).trans hg)) (.g q1 (.t q2 .nil))))))))))))))))))))))))))
  ·exact so Tryz.f6 13 [] (.c [] (Br) (.n (.c [] (Az c) (.g q1 (.g q1 (.c [] (g07 g) (.g q1 (.t (show (A5 g)=true from ((Aj g).trans hg)) (.t (show (A5 g)=true from ((Aj g).trans hg)) (.t (show (A5 g)=true from ((Aj g).trans hg)) (.t (show (A5 g)=true from ((Aj g).trans hg)) (.t (show (A5 g)=true from ((Aj g).trans hg)) (.t (show (A5 g)=true from ((Aj g).trans hg)) (.t (show (A5 g)=true from ((Aj g).trans hg)) (.t (show (A5 g)=true from ((Aj g).trans hg)) (.t (show (A5 g)=true from ((Aj g).trans hg)) (.t (show (A5 g)=true from ((Aj g).trans hg)) (.t (show (A5 g)=true from ((Aj g).trans hg)) (.t (show (A5 g)=true from ((Aj g).trans hg)) (.t (show (A5 g)=true from ((Aj g).trans hg)) (.t (show (A5 g)=true from ((Aj g).trans hg)) (.t (show (A5 g)=true from ((Aj g).trans hg)) (.g q1 (.t (show (A5 g)=true from ((Aj g).trans hg)) (.g q1 (.t q2 (.c [] (Al3 g m hg hm) (.n (.n (.n (.n (.c (ir 4 8) (Gg c (N9 g m) hno) (.c [] (D7 c) (.t (congrArg (!·) (show (Bn c)=false from ((C9 c).trans hno))) (.y (.y (.y .nil)))))))))))))))))))))))))))))))))))))
 ·exact so Tryz.f6 5 [] (.c [] (Br) (.n (.c [] (Az c) (.g q1 (.g q1 (.g q1 (.g q1 (.g q1 (.y .nil)))))))))
theorem cb4 (c:Cfg) (g:Gm) (m:Int) (n:Int) (hg:g.right=true) (hm:Fa m=true) (hcf:A8 c=true) (hn:g ≠ c.ly.g):Sp P 6 [.ag [vi c.ly.g.ranks,vi c.ly.g.spares,vi c.ly.g.banks,vi c.ly.g.rows,vi c.ly.g.cols,vi c.ly.way,vi c.ly.res,vi c.mode,vi c.rules.rank.limit,vi c.rules.rank.every,vi c.rules.page.limit,vi c.rules.page.every,vi c.rules.room,vi c.rules.heavy,vi c.log,vt c.back],.ag [vi g.ranks,vi g.spares,vi g.banks,vi g.rows,vi g.cols],vi m,vi n] [] (vt true) []:=by
 rcases bft (Ax c) with q1 | q1
 ·rcases bft (decide (100 < IntKind.i64.wrap ((IntKind.i64.wrap ((IntKind.i64.wrap ((IntKind.i64.wrap (g.ranks + g.spares)) * g.banks)) * g.rows)) * g.cols))) with q2 | q2
  ·exact so Tryz.f6 5 [] (.c [] (Br) (.n (.c [] (Az c) (.g q1 (.g q1 (.c [] (g07 g) (.g q1 (.t (show (A5 g)=true from ((Aj g).trans hg)) (.t (show (A5 g)=true from ((Aj g).trans hg)) (.t (show (A5 g)=true from ((Aj g).trans hg)) (.t (show (A5 g)=true from ((Aj g).trans hg)) (.t (show (A5 g)=true from ((Aj g).trans hg)) (.t (show (A5 g)=true from ((Aj g).trans hg)) (.t (show (A5 g)=true from ((Aj g).trans hg)) (.t (show (A5 g)=true from ((Aj g).trans hg)) (.t (show (A5 g)=true from ((Aj g).trans hg)) (.t (show (A5 g)=true from ((Aj g).trans hg)) (.t (show (A5 g)=true from ((Aj g).trans hg)) (.t (show (A5 g)=true from ((Aj g).trans hg)) (.t (show (A5 g)=true from ((Aj g).trans hg)) (.t (show (A5 g)=true from ((Aj g).trans hg)) (.t (show (A5 g)=true from ((Aj g).trans hg)) (.g q1 (.t (show (A5 g)=true from ((Aj g).trans hg)) (.g q1 (.t q2 .nil))))))))))))))))))))))))))
  ·exact so Tryz.f6 13 [] (.c [] (Br) (.n (.c [] (Az c) (.g q1 (.g q1 (.c [] (g07 g) (.g q1 (.t (show (A5 g)=true from ((Aj g).trans hg)) (.t (show (A5 g)=true from ((Aj g).trans hg)) (.t (show (A5 g)=true from ((Aj g).trans hg)) (.t (show (A5 g)=true from ((Aj g).trans hg)) (.t (show (A5 g)=true from ((Aj g).trans hg)) (.t (show (A5 g)=true from ((Aj g).trans hg)) (.t (show (A5 g)=true from ((Aj g).trans hg)) (.t (show (A5 g)=true from ((Aj g).trans hg)) (.t (show (A5 g)=true from ((Aj g).trans hg)) (.t (show (A5 g)=true from ((Aj g).trans hg)) (.t (show (A5 g)=true from ((Aj g).trans hg)) (.t (show (A5 g)=true from ((Aj g).trans hg)) (.t (show (A5 g)=true from ((Aj g).trans hg)) (.t (show (A5 g)=true from ((Aj g).trans hg)) (.t (show (A5 g)=true from ((Aj g).trans hg)) (.g q1 (.t (show (A5 g)=true from ((Aj g).trans hg)) (.g q1 (.t q2 (.c [] (Al3 g m hg hm) (.n (.n (.n (.n (.c (ir 4 8) (Im c (N9 g m) hcf ((show (N9 g m).d.g ≠ c.ly.g from hn))) (.c [] (D7 c) (.t (congrArg (!·) (show (Bn c)=true from ((C9 c).trans hcf))) (.t (congrArg (!·) (show ((decide (c.ly.g.ranks=g.ranks)) && ((decide (c.ly.g.spares=g.spares)) && ((decide (c.ly.g.banks=g.banks)) && ((decide (c.ly.g.rows=g.rows)) && ((decide (c.ly.g.cols=g.cols)) && true)))))=false from (gne (fun e=>hn e.symm)))) (.y (.y (.y .nil))))))))))))))))))))))))))))))))))))))
 ·exact so Tryz.f6 5 [] (.c [] (Br) (.n (.c [] (Az c) (.g q1 (.g q1 (.g q1 (.g q1 (.g q1 (.y .nil)))))))))
theorem cb5 (c:Cfg) (m:Int) (n:Int) (hm:Fa m=true) (hcf:A8 c=true) (hn:m ≠ c.mode):Sp P 6 [.ag [vi c.ly.g.ranks,vi c.ly.g.spares,vi c.ly.g.banks,vi c.ly.g.rows,vi c.ly.g.cols,vi c.ly.way,vi c.ly.res,vi c.mode,vi c.rules.rank.limit,vi c.rules.rank.every,vi c.rules.page.limit,vi c.rules.page.every,vi c.rules.room,vi c.rules.heavy,vi c.log,vt c.back],.ag [vi c.ly.g.ranks,vi c.ly.g.spares,vi c.ly.g.banks,vi c.ly.g.rows,vi c.ly.g.cols],vi m,vi n] [] (vt true) []:=by
 rcases bft (Ax c) with q1 | q1
 ·rcases bft (decide (100 < IntKind.i64.wrap ((IntKind.i64.wrap ((IntKind.i64.wrap ((IntKind.i64.wrap (c.ly.g.ranks + c.ly.g.spares)) * c.ly.g.banks)) * c.ly.g.rows)) * c.ly.g.cols))) with q2 | q2
  ·exact so Tryz.f6 5 [] (.c [] (Br) (.n (.c [] (Az c) (.g q1 (.g q1 (.c [] (g07 c.ly.g) (.g q1 (.t (show (A5 c.ly.g)=true from ((Aj c.ly.g).trans (C0 (Ho hcf).1).1)) (.t (show (A5 c.ly.g)=true from ((Aj c.ly.g).trans (C0 (Ho hcf).1).1)) (.t (show (A5 c.ly.g)=true from ((Aj c.ly.g).trans (C0 (Ho hcf).1).1)) (.t (show (A5 c.ly.g)=true from ((Aj c.ly.g).trans (C0 (Ho hcf).1).1)) (.t (show (A5 c.ly.g)=true from ((Aj c.ly.g).trans (C0 (Ho hcf).1).1)) (.t (show (A5 c.ly.g)=true from ((Aj c.ly.g).trans (C0 (Ho hcf).1).1)) (.t (show (A5 c.ly.g)=true from ((Aj c.ly.g).trans (C0 (Ho hcf).1).1)) (.t (show (A5 c.ly.g)=true from ((Aj c.ly.g).trans (C0 (Ho hcf).1).1)) (.t (show (A5 c.ly.g)=true from ((Aj c.ly.g).trans (C0 (Ho hcf).1).1)) (.t (show (A5 c.ly.g)=true from ((Aj c.ly.g).trans (C0 (Ho hcf).1).1)) (.t (show (A5 c.ly.g)=true from ((Aj c.ly.g).trans (C0 (Ho hcf).1).1)) (.t (show (A5 c.ly.g)=true from ((Aj c.ly.g).trans (C0 (Ho hcf).1).1)) (.t (show (A5 c.ly.g)=true from ((Aj c.ly.g).trans (C0 (Ho hcf).1).1)) (.t (show (A5 c.ly.g)=true from ((Aj c.ly.g).trans (C0 (Ho hcf).1).1)) (.t (show (A5 c.ly.g)=true from ((Aj c.ly.g).trans (C0 (Ho hcf).1).1)) (.g q1 (.t (show (A5 c.ly.g)=true from ((Aj c.ly.g).trans (C0 (Ho hcf).1).1)) (.g q1 (.t q2 .nil))))))))))))))))))))))))))
  ·have q2':=ofq q2
   exact so Tryz.f6 13 [] (.c [] (Br) (.n (.c [] (Az c) (.g q1 (.g q1 (.c [] (g07 c.ly.g) (.g q1 (.t (show (A5 c.ly.g)=true from ((Aj c.ly.g).trans (C0 (Ho hcf).1).1)) (.t (show (A5 c.ly.g)=true from ((Aj c.ly.g).trans (C0 (Ho hcf).1).1)) (.t (show (A5 c.ly.g)=true from ((Aj c.ly.g).trans (C0 (Ho hcf).1).1)) (.t (show (A5 c.ly.g)=true from ((Aj c.ly.g).trans (C0 (Ho hcf).1).1)) (.t (show (A5 c.ly.g)=true from ((Aj c.ly.g).trans (C0 (Ho hcf).1).1)) (.t (show (A5 c.ly.g)=true from ((Aj c.ly.g).trans (C0 (Ho hcf).1).1)) (.t (show (A5 c.ly.g)=true from ((Aj c.ly.g).trans (C0 (Ho hcf).1).1)) (.t (show (A5 c.ly.g)=true from ((Aj c.ly.g).trans (C0 (Ho hcf).1).1)) (.t (show (A5 c.ly.g)=true from ((Aj c.ly.g).trans (C0 (Ho hcf).1).1)) (.t (show (A5 c.ly.g)=true from ((Aj c.ly.g).trans (C0 (Ho hcf).1).1)) (.t (show (A5 c.ly.g)=true from ((Aj c.ly.g).trans (C0 (Ho hcf).1).1)) (.t (show (A5 c.ly.g)=true from ((Aj c.ly.g).trans (C0 (Ho hcf).1).1)) (.t (show (A5 c.ly.g)=true from ((Aj c.ly.g).trans (C0 (Ho hcf).1).1)) (.t (show (A5 c.ly.g)=true from ((Aj c.ly.g).trans (C0 (Ho hcf).1).1)) (.t (show (A5 c.ly.g)=true from ((Aj c.ly.g).trans (C0 (Ho hcf).1).1)) (.g q1 (.t (show (A5 c.ly.g)=true from ((Aj c.ly.g).trans (C0 (Ho hcf).1).1)) (.g q1 (.t q2 (.c [] (Al3 c.ly.g m ((C0 (Ho hcf).1).1) hm) (.n (.n (.n (.n (.c (ir 4 8) (J0 c (N9 c.ly.g m) hcf rfl ((show (N9 c.ly.g m).d.mode ≠ c.mode from hn))) (.c [] (D7 c) (.t (congrArg (!·) (show (Bn c)=true from ((C9 c).trans hcf))) (.t (congrArg (!·) (show ((decide (c.ly.g.ranks=c.ly.g.ranks)) && ((decide (c.ly.g.spares=c.ly.g.spares)) && ((decide (c.ly.g.banks=c.ly.g.banks)) && ((decide (c.ly.g.rows=c.ly.g.rows)) && ((decide (c.ly.g.cols=c.ly.g.cols)) && true)))))=true from (by simp))) (.t (congrArg (!·) (show (decide (c.mode=m))=false from (fq (fun e=>hn e.symm)))) (.y (.y (.y .nil)))))))))))))))))))))))))))))))))))))))
 ·exact so Tryz.f6 5 [] (.c [] (Br) (.n (.c [] (Az c) (.g q1 (.g q1 (.g q1 (.g q1 (.g q1 (.y .nil)))))))))
def D8 (c:Cfg) (n:Int):Bool:=bif (Ax c) then (bif decide (100 < IntKind.i64.wrap ((IntKind.i64.wrap ((IntKind.i64.wrap ((IntKind.i64.wrap (c.ly.g.ranks + c.ly.g.spares)) * c.ly.g.banks)) * c.ly.g.rows)) * c.ly.g.cols)) then true else (bif bif (decide (n < 0)) then true else (decide (IntKind.i64.wrap ((A0 c.ly) * c.ly.g.cols)<=n)) then (bif (decide ((((Bv (Sw c) n (Sw c).le.c.back):Nat):Int)=30)) then (eqA (nf (Cl (Sw c) n (Sw c).le.c.back)) (fun _=>0) 64 0) else false) else (bif (decide ((((Bv (Sw c) n (Sw c).le.c.back):Nat):Int)=0)) then (bif (eqA (nf (Cl (Sw c) n (Sw c).le.c.back)) (fun _=>0) 64 0) then (bif (decide ((((An (Sw c) n (Sw c).le.c.back).le.log.l.length:Nat):Int)=0)) then (bif (Kf (An (Sw c) n (Sw c).le.c.back).le.trk) then (decide ((((An (Sw c) n (Sw c).le.c.back).d.l.length:Nat):Int)=IntKind.i64.wrap ((IntKind.i64.wrap ((IntKind.i64.wrap (c.ly.g.ranks + c.ly.g.spares)) * (Cd c.ly.g))) + 1))) else false) else false) else false) else false))) else true
theorem cb6 (c:Cfg) (n:Int) (hcf:A8 c=true):Sp P 6 [.ag [vi c.ly.g.ranks,vi c.ly.g.spares,vi c.ly.g.banks,vi c.ly.g.rows,vi c.ly.g.cols,vi c.ly.way,vi c.ly.res,vi c.mode,vi c.rules.rank.limit,vi c.rules.rank.every,vi c.rules.page.limit,vi c.rules.page.every,vi c.rules.room,vi c.rules.heavy,vi c.log,vt c.back],.ag [vi c.ly.g.ranks,vi c.ly.g.spares,vi c.ly.g.banks,vi c.ly.g.rows,vi c.ly.g.cols],vi c.mode,vi n] [] (vt (D8 c n)) []:=by
 generalize d0:D8 c n=yd0
 unfold D8 at d0
 rcases bft (Ax c) with q1 | q1
 ·rw [A2 q1] at d0
  rcases bft (decide (100 < IntKind.i64.wrap ((IntKind.i64.wrap ((IntKind.i64.wrap ((IntKind.i64.wrap (c.ly.g.ranks + c.ly.g.spares)) * c.ly.g.banks)) * c.ly.g.rows)) * c.ly.g.cols))) with q2 | q2
  ·rw [A2 q2] at d0
   subst d0
   exact so Tryz.f6 5 [] (.c [] (Br) (.n (.c [] (Az c) (.g q1 (.g q1 (.c [] (g07 c.ly.g) (.g q1 (.t (show (A5 c.ly.g)=true from ((Aj c.ly.g).trans (C0 (Ho hcf).1).1)) (.t (show (A5 c.ly.g)=true from ((Aj c.ly.g).trans (C0 (Ho hcf).1).1)) (.t (show (A5 c.ly.g)=true from ((Aj c.ly.g).trans (C0 (Ho hcf).1).1)) (.t (show (A5 c.ly.g)=true from ((Aj c.ly.g).trans (C0 (Ho hcf).1).1)) (.t (show (A5 c.ly.g)=true from ((Aj c.ly.g).trans (C0 (Ho hcf).1).1)) (.t (show (A5 c.ly.g)=true from ((Aj c.ly.g).trans (C0 (Ho hcf).1).1)) (.t (show (A5 c.ly.g)=true from ((Aj c.ly.g).trans (C0 (Ho hcf).1).1)) (.t (show (A5 c.ly.g)=true from ((Aj c.ly.g).trans (C0 (Ho hcf).1).1)) (.t (show (A5 c.ly.g)=true from ((Aj c.ly.g).trans (C0 (Ho hcf).1).1)) (.t (show (A5 c.ly.g)=true from ((Aj c.ly.g).trans (C0 (Ho hcf).1).1)) (.t (show (A5 c.ly.g)=true from ((Aj c.ly.g).trans (C0 (Ho hcf).1).1)) (.t (show (A5 c.ly.g)=true from ((Aj c.ly.g).trans (C0 (Ho hcf).1).1)) (.t (show (A5 c.ly.g)=true from ((Aj c.ly.g).trans (C0 (Ho hcf).1).1)) (.t (show (A5 c.ly.g)=true from ((Aj c.ly.g).trans (C0 (Ho hcf).1).1)) (.t (show (A5 c.ly.g)=true from ((Aj c.ly.g).trans (C0 (Ho hcf).1).1)) (.g q1 (.t (show (A5 c.ly.g)=true from ((Aj c.ly.g).trans (C0 (Ho hcf).1).1)) (.g q1 (.t q2 .nil))))))))))))))))))))))))))
  ·rw [A1 q2] at d0
   have q2':=ofq q2
   rcases bft (bif (decide (n < 0)) then true else (decide (IntKind.i64.wrap ((A0 c.ly) * c.ly.g.cols)<=n))) with q3 | q3
   ·rw [A2 q3] at d0
    subst d0
    exact so Tryz.f6 35 [] (.c [] (Br) (.n (.c [] (Az c) (.g q1 (.g q1 (.c [] (g07 c.ly.g) (.g q1 (.t (show (A5 c.ly.g)=true from ((Aj c.ly.g).trans (C0 (Ho hcf).1).1)) (.t (show (A5 c.ly.g)=true from ((Aj c.ly.g).trans (C0 (Ho hcf).1).1)) (.t (show (A5 c.ly.g)=true from ((Aj c.ly.g).trans (C0 (Ho hcf).1).1)) (.t (show (A5 c.ly.g)=true from ((Aj c.ly.g).trans (C0 (Ho hcf).1).1)) (.t (show (A5 c.ly.g)=true from ((Aj c.ly.g).trans (C0 (Ho hcf).1).1)) (.t (show (A5 c.ly.g)=true from ((Aj c.ly.g).trans (C0 (Ho hcf).1).1)) (.t (show (A5 c.ly.g)=true from ((Aj c.ly.g).trans (C0 (Ho hcf).1).1)) (.t (show (A5 c.ly.g)=true from ((Aj c.ly.g).trans (C0 (Ho hcf).1).1)) (.t (show (A5 c.ly.g)=true from ((Aj c.ly.g).trans (C0 (Ho hcf).1).1)) (.t (show (A5 c.ly.g)=true from ((Aj c.ly.g).trans (C0 (Ho hcf).1).1)) (.t (show (A5 c.ly.g)=true from ((Aj c.ly.g).trans (C0 (Ho hcf).1).1)) (.t (show (A5 c.ly.g)=true from ((Aj c.ly.g).trans (C0 (Ho hcf).1).1)) (.t (show (A5 c.ly.g)=true from ((Aj c.ly.g).trans (C0 (Ho hcf).1).1)) (.t (show (A5 c.ly.g)=true from ((Aj c.ly.g).trans (C0 (Ho hcf).1).1)) (.t (show (A5 c.ly.g)=true from ((Aj c.ly.g).trans (C0 (Ho hcf).1).1)) (.g q1 (.t (show (A5 c.ly.g)=true from ((Aj c.ly.g).trans (C0 (Ho hcf).1).1)) (.g q1 (.t q2 (.c [] (Al3 c.ly.g c.mode ((C0 (Ho hcf).1).1) ((Ad8 (Ho hcf).2.1))) (.n (.n (.n (.n (.c (ir 4 8) (B1n c hcf) (.c [] (D7 c) (.t (congrArg (!·) (show (Bn c)=true from ((C9 c).trans hcf))) (.t (congrArg (!·) (show ((decide (c.ly.g.ranks=c.ly.g.ranks)) && ((decide (c.ly.g.spares=c.ly.g.spares)) && ((decide (c.ly.g.banks=c.ly.g.banks)) && ((decide (c.ly.g.rows=c.ly.g.rows)) && ((decide (c.ly.g.cols=c.ly.g.cols)) && true)))))=true from (by simp))) (.t (congrArg (!·) (show (decide (c.mode=c.mode))=true from (tq rfl))) (.n (.n (.n (.n (.c (ir 12 15 ++ ir 4 8 ++ ir 27 6) (Ak1 (Sw c) n (((Kx hcf).c.mono (by decide)))) (.cs 1000019 (decide (n < 0)) 34 [] [] (fun z=>[(117,vt (bif z then true else (decide (IntKind.i64.wrap ((A0 c.ly) * c.ly.g.cols)<=n))))]) (fun z=>[]) (fun hq1=>(.t hq1 (.t hq1 (.t hq1 (.t hq1 (.t hq1 (.t hq1 .nil))))))) (fun hq1=>(.t hq1 (.t hq1 (.t hq1 (.t hq1 (.c [] (Ue c.ly) (.t hq1 (.t hq1 .nil)))))))) (.t q3 (.cs 1000020 (decide ((((Bv (Sw c) n (Sw c).le.c.back):Nat):Int)=30)) 34 [] [] (fun z=>[(8,vt (bif z then (eqA (nf (Cl (Sw c) n (Sw c).le.c.back)) (fun _=>0) 64 0) else false))]) (fun z=>[]) (fun hq1=>(.t hq1 (.t hq1 (.t hq1 (.t hq1 .nil))))) (fun hq1=>(.t hq1 (.t hq1 (.t hq1 (.t hq1 .nil))))) .nil))))))))))))))))))))))))))))))))))))))))))))
   ·rw [A1 q3] at d0
    subst d0
    exact so Tryz.f6 41 [] (.c [] (Br) (.n (.c [] (Az c) (.g q1 (.g q1 (.c [] (g07 c.ly.g) (.g q1 (.t (show (A5 c.ly.g)=true from ((Aj c.ly.g).trans (C0 (Ho hcf).1).1)) (.t (show (A5 c.ly.g)=true from ((Aj c.ly.g).trans (C0 (Ho hcf).1).1)) (.t (show (A5 c.ly.g)=true from ((Aj c.ly.g).trans (C0 (Ho hcf).1).1)) (.t (show (A5 c.ly.g)=true from ((Aj c.ly.g).trans (C0 (Ho hcf).1).1)) (.t (show (A5 c.ly.g)=true from ((Aj c.ly.g).trans (C0 (Ho hcf).1).1)) (.t (show (A5 c.ly.g)=true from ((Aj c.ly.g).trans (C0 (Ho hcf).1).1)) (.t (show (A5 c.ly.g)=true from ((Aj c.ly.g).trans (C0 (Ho hcf).1).1)) (.t (show (A5 c.ly.g)=true from ((Aj c.ly.g).trans (C0 (Ho hcf).1).1)) (.t (show (A5 c.ly.g)=true from ((Aj c.ly.g).trans (C0 (Ho hcf).1).1)) (.t (show (A5 c.ly.g)=true from ((Aj c.ly.g).trans (C0 (Ho hcf).1).1)) (.t (show (A5 c.ly.g)=true from ((Aj c.ly.g).trans (C0 (Ho hcf).1).1)) (.t (show (A5 c.ly.g)=true from ((Aj c.ly.g).trans (C0 (Ho hcf).1).1)) (.t (show (A5 c.ly.g)=true from ((Aj c.ly.g).trans (C0 (Ho hcf).1).1)) (.t (show (A5 c.ly.g)=true from ((Aj c.ly.g).trans (C0 (Ho hcf).1).1)) (.t (show (A5 c.ly.g)=true from ((Aj c.ly.g).trans (C0 (Ho hcf).1).1)) (.g q1 (.t (show (A5 c.ly.g)=true from ((Aj c.ly.g).trans (C0 (Ho hcf).1).1)) (.g q1 (.t q2 (.c [] (Al3 c.ly.g c.mode ((C0 (Ho hcf).1).1) ((Ad8 (Ho hcf).2.1))) (.n (.n (.n (.n (.c (ir 4 8) (B1n c hcf) (.c [] (D7 c) (.t (congrArg (!·) (show (Bn c)=true from ((C9 c).trans hcf))) (.t (congrArg (!·) (show ((decide (c.ly.g.ranks=c.ly.g.ranks)) && ((decide (c.ly.g.spares=c.ly.g.spares)) && ((decide (c.ly.g.banks=c.ly.g.banks)) && ((decide (c.ly.g.rows=c.ly.g.rows)) && ((decide (c.ly.g.cols=c.ly.g.cols)) && true)))))=true from (by simp))) (.t (congrArg (!·) (show (decide (c.mode=c.mode))=true from (tq rfl))) (.n (.n (.n (.n (.c (ir 12 15 ++ ir 4 8 ++ ir 27 6) (Ak1 (Sw c) n (((Kx hcf).c.mono (by decide)))) (.cs 1000019 (decide (n < 0)) 34 [] [] (fun z=>[(117,vt (bif z then true else (decide (IntKind.i64.wrap ((A0 c.ly) * c.ly.g.cols)<=n))))]) (fun z=>[]) (fun hq1=>(.t hq1 (.t hq1 (.t hq1 (.t hq1 (.t hq1 (.t hq1 .nil))))))) (fun hq1=>(.t hq1 (.t hq1 (.t hq1 (.t hq1 (.c [] (Ue c.ly) (.t hq1 (.t hq1 .nil)))))))) (.t q3 (.cs 1000021 (decide ((((Bv (Sw c) n (Sw c).le.c.back):Nat):Int)=0)) 34 [] [] (fun z=>[(8,vt (bif z then (bif (eqA (nf (Cl (Sw c) n (Sw c).le.c.back)) (fun _=>0) 64 0) then (bif (decide ((((An (Sw c) n (Sw c).le.c.back).le.log.l.length:Nat):Int)=0)) then (bif (Kf (An (Sw c) n (Sw c).le.c.back).le.trk) then (decide ((((An (Sw c) n (Sw c).le.c.back).d.l.length:Nat):Int)=IntKind.i64.wrap ((IntKind.i64.wrap ((IntKind.i64.wrap (c.ly.g.ranks + c.ly.g.spares)) * (Cd c.ly.g))) + 1))) else false) else false) else false) else false))]) (fun z=>[]) (fun hq1=>(.cs 1000021 (eqA (nf (Cl (Sw c) n (Sw c).le.c.back)) (fun _=>0) 64 0) 34 [] [] (fun z=>[(8,vt (bif z then (bif (decide ((((An (Sw c) n (Sw c).le.c.back).le.log.l.length:Nat):Int)=0)) then (bif (Kf (An (Sw c) n (Sw c).le.c.back).le.trk) then (decide ((((An (Sw c) n (Sw c).le.c.back).d.l.length:Nat):Int)=IntKind.i64.wrap ((IntKind.i64.wrap ((IntKind.i64.wrap (c.ly.g.ranks + c.ly.g.spares)) * (Cd c.ly.g))) + 1))) else false) else false) else false))]) (fun z=>[]) (fun hq2=>(.cs 1000021 (decide ((((An (Sw c) n (Sw c).le.c.back).le.log.l.length:Nat):Int)=0)) 34 [] [] (fun z=>[(8,vt (bif z then (bif (Kf (An (Sw c) n (Sw c).le.c.back).le.trk) then (decide ((((An (Sw c) n (Sw c).le.c.back).d.l.length:Nat):Int)=IntKind.i64.wrap ((IntKind.i64.wrap ((IntKind.i64.wrap (c.ly.g.ranks + c.ly.g.spares)) * (Cd c.ly.g))) + 1))) else false) else false))]) (fun z=>[]) (fun hq3=>(.cs 1000021 (Kf (An (Sw c) n (Sw c).le.c.back).le.trk) 34 [] [] (fun z=>[(8,vt (bif z then (decide ((((An (Sw c) n (Sw c).le.c.back).d.l.length:Nat):Int)=IntKind.i64.wrap ((IntKind.i64.wrap ((IntKind.i64.wrap (c.ly.g.ranks + c.ly.g.spares)) * (Cd c.ly.g))) + 1))) else false))]) (fun z=>[]) (fun hq4=>(.t hq1 (.t hq1 (.t hq1 (.t hq1 (.t hq2 (.t hq2 (.c (ir 12 15 ++ ir 4 8 ++ ir 27 6) (Ow (An (Sw c) n (Sw c).le.c.back)) (.t hq2 (.c [.id 25,.id 26] (A5o (An (Sw c) n (Sw c).le.c.back).le.log) (.t hq2 (.t hq2 (.t hq3 (.t hq3 (.c (ir 12 15 ++ ir 4 8 ++ ir 27 6) (Ar4 (An (Sw c) n (Sw c).le.c.back)) (.t hq3 (.c (ir 21 4) (A5m (An (Sw c) n (Sw c).le.c.back).le.trk ((Nat.le_trans (Z5 (Kx hcf).c).le.trk.rk (by decide))) ((Nat.le_trans (Z5 (Kx hcf).c).le.trk.pg.1 (by decide)))) (.t hq3 (.t hq4 (.t hq4 (.c (ir 4 8) (Kj (An (Sw c) n (Sw c).le.c.back).d) (.t hq4 (.t hq4 (.t hq4 (.t hq4 (.t hq4 (.t hq4 (.t hq4 (.c [] (Yc c.ly.g) (.t hq4 (.t hq4 (.t hq4 (.t hq4 .nil))))))))))))))))))))))))))))))))) (fun hq4=>(.t hq1 (.t hq1 (.t hq1 (.t hq1 (.t hq2 (.t hq2 (.c (ir 12 15 ++ ir 4 8 ++ ir 27 6) (Ow (An (Sw c) n (Sw c).le.c.back)) (.t hq2 (.c [.id 25,.id 26] (A5o (An (Sw c) n (Sw c).le.c.back).le.log) (.t hq2 (.t hq2 (.t hq3 (.t hq3 (.c (ir 12 15 ++ ir 4 8 ++ ir 27 6) (Ar4 (An (Sw c) n (Sw c).le.c.back)) (.t hq3 (.c (ir 21 4) (A5m (An (Sw c) n (Sw c).le.c.back).le.trk ((Nat.le_trans (Z5 (Kx hcf).c).le.trk.rk (by decide))) ((Nat.le_trans (Z5 (Kx hcf).c).le.trk.pg.1 (by decide)))) (.t hq3 (.t hq4 (.t hq4 (.t hq4 (.t hq4 (.t hq4 (.t hq4 (.t hq4 (.t hq4 (.t hq4 (.t hq4 (.t hq4 (.t hq4 (.t hq4 .nil))))))))))))))))))))))))))))))) .nil)) (fun hq3=>(.t hq1 (.t hq1 (.t hq1 (.t hq1 (.t hq2 (.t hq2 (.c (ir 12 15 ++ ir 4 8 ++ ir 27 6) (Ow (An (Sw c) n (Sw c).le.c.back)) (.t hq2 (.c [.id 25,.id 26] (A5o (An (Sw c) n (Sw c).le.c.back).le.log) (.t hq2 (.t hq2 (.t hq3 (.t hq3 (.t hq3 (.t hq3 (.n (.n (.n (.n (.n (.n (.n (.n (.n (.n (.n (.n (.n .nil))))))))))))))))))))))))))))) .nil)) (fun hq2=>(.t hq1 (.t hq1 (.t hq1 (.t hq1 (.t hq2 (.t hq2 (.t hq2 (.t hq2 (.t hq2 (.n (.n (.n (.n (.n (.n (.n (.n (.n (.n (.n (.n (.n (.n (.n (.n (.n .nil))))))))))))))))))))))))))) .nil)) (fun hq1=>(.t hq1 (.t hq1 (.t hq1 (.t hq1 (.n (.n (.n (.n (.n (.n (.n (.n (.n (.n (.n (.n (.n (.n (.n (.n (.n (.n (.n (.n (.n (.n .nil))))))))))))))))))))))))))) .nil))))))))))))))))))))))))))))))))))))))))))))
 ·rw [A1 q1] at d0
  subst d0
  exact so Tryz.f6 5 [] (.c [] (Br) (.n (.c [] (Az c) (.g q1 (.g q1 (.g q1 (.g q1 (.g q1 (.y .nil)))))))))
end Go.Proofs.YtfhiggfmkjmeiaaGreat
namespace Go.Proofs.YtfhiggfmkjmeiaaGreat
open Go Go.RowKit
theorem Lx {c:Cfg} {s:CtlS} {r b w k:Nat} (hg:s.d.d.g=c.ly.g) (hh:c.ly.g.holds ⟨((r:Nat):Int),((b:Nat):Int),((w:Nat):Int),((k:Nat):Int)⟩=true):(wr0 s r b w k).d.d.g=c.ly.g/\(wr0 s r b w k).d.l.length=s.d.l.length + 1:=by
 unfold wr0
 generalize (⟨((r:Nat):Int),((b:Nat):Int),((w:Nat):Int),((k:Nat):Int)⟩:Pl)=p at hh ⊢
 have hat:s.d.d.g.atE p.ix=0:=by rw [hg]; exact Ma (K5 hh)
 have e:(As s p.ix (fun _=>0) false).d=Df s.d p.ix (Bm s.le.c.mode (fun _=>0) p.ix false) 0:=rfl
 rw [e,Adr hat]
 refine ⟨?_,List.length_append⟩
 rw [← hg]
 have hw:(Eg s.d.d p.ix).g=s.d.d.g:=by
  unfold Eg
  exact Ad (p:=fun t:DramS=>t.g=s.d.d.g) rfl rfl
 unfold E9
 exact Ad (p:=fun t:DramS=>t.g=s.d.d.g) (Ad (p:=fun t:DramS=>t.g=s.d.d.g) hw hw) rfl
theorem Hp {c:Cfg} {s:CtlS} (hg:s.d.d.g=c.ly.g) {r b w:Nat}:∀ C,(∀ k,k < C->c.ly.g.holds ⟨((r:Nat):Int),((b:Nat):Int),((w:Nat):Int),((k:Nat):Int)⟩=true)->(nwC s r b w C).d.d.g=c.ly.g/\(nwC s r b w C).d.l.length=s.d.l.length + C
 | 0,_=>⟨hg,rfl⟩
 | C + 1,hh=>by
   obtain ⟨a,e⟩:=Hp hg C fun k hk=>hh k (by omega)
   obtain ⟨a',e'⟩:=Lx a (hh C (by omega))
   exact ⟨a',by show (wr0 (nwC s r b w C) r b w C).d.l.length=_; rw [e',e]; omega⟩
theorem I0 {c:Cfg} {s:CtlS} (hg:s.d.d.g=c.ly.g) {r b C:Nat}:∀ W,(∀ w,w < W->∀ k,k < C->c.ly.g.holds ⟨((r:Nat):Int),((b:Nat):Int),((w:Nat):Int),((k:Nat):Int)⟩=true)->(nwW s r b C W).d.d.g=c.ly.g/\(nwW s r b C W).d.l.length=s.d.l.length + W * C
 | 0,_=>⟨hg,by rw [Nat.zero_mul]; rfl⟩
 | W + 1,hh=>by
   obtain ⟨a,e⟩:=I0 hg W fun w hw=>hh w (by omega)
   obtain ⟨a',e'⟩:=Hp a C (hh W (by omega))
   exact ⟨a',by show (nwC (nwW s r b C W) r b W C).d.l.length=_; rw [e',e,Nat.succ_mul]; omega⟩
theorem He {c:Cfg} {s:CtlS} (hg:s.d.d.g=c.ly.g) {r W C:Nat}:∀ B,(∀ b,b < B->∀ w,w < W->∀ k,k < C->c.ly.g.holds ⟨((r:Nat):Int),((b:Nat):Int),((w:Nat):Int),((k:Nat):Int)⟩=true)->(nwB s r W C B).d.d.g=c.ly.g/\(nwB s r W C B).d.l.length=s.d.l.length + B * (W * C)
 | 0,_=>⟨hg,by rw [Nat.zero_mul]; rfl⟩
 | B + 1,hh=>by
   obtain ⟨a,e⟩:=He hg B fun b hb=>hh b (by omega)
   obtain ⟨a',e'⟩:=I0 a W (hh B (by omega))
   exact ⟨a',by show (nwW (nwB s r W C B) r B C W).d.l.length=_; rw [e',e,Nat.succ_mul]; omega⟩
theorem Hu {c:Cfg} {s:CtlS} (hg:s.d.d.g=c.ly.g) {B W C:Nat}:∀ R,(∀ r,r < R->∀ b,b < B->∀ w,w < W->∀ k,k < C->c.ly.g.holds ⟨((r:Nat):Int),((b:Nat):Int),((w:Nat):Int),((k:Nat):Int)⟩=true)->(nwR s B W C R).d.d.g=c.ly.g/\(nwR s B W C R).d.l.length=s.d.l.length + R * (B * (W * C))
 | 0,_=>⟨hg,by rw [Nat.zero_mul]; rfl⟩
 | R + 1,hh=>by
   obtain ⟨a,e⟩:=Hu hg R fun r hr=>hh r (by omega)
   obtain ⟨a',e'⟩:=He a B (hh R (by omega))
   exact ⟨a',by show (nwB (nwR s B W C R) R W C B).d.l.length=_; rw [e',e,Nat.succ_mul]; omega⟩
theorem Ft {c:Cfg} (hc:A8 c=true):(Sw c).d.l.length=cRk c * (cB c * (cW c * cC c)):=by
 have hg:=(C0 (Ho hc).1).1
 have hb:=Gm.rt hg
 have h:=(Hu (c:=c) (s:=Mh c) rfl (B:=cB c) (W:=cW c) (C:=cC c) (cRk c) fun r hr b hb' w hw k hk=>by
  have hr:r < (c.ly.g.ranks + c.ly.g.spares).toNat:=hr
  have hb':b < c.ly.g.banks.toNat:=hb'
  have hw:w < c.ly.g.rows.toNat:=hw
  have hk:k < c.ly.g.cols.toNat:=hk
  unfold Gm.holds K7
  rw [hg,Ca (by omega)]
  simp only [Bool.true_and,bq,decide_eq_true_eq]
  omega).2
 have e0:(Mh c).d.l.length=0:=rfl
 rw [e0,Nat.zero_add] at h
 exact h
theorem Fk {c:Cfg} (hc:A8 c=true):((((Sw c).d.l.length + 1:Nat):Nat):Int)=IntKind.i64.wrap ((IntKind.i64.wrap ((IntKind.i64.wrap (c.ly.g.ranks + c.ly.g.spares)) * (Cd c.ly.g))) + 1):=by
 have hl:=C0 (Ho hc).1
 have hg:=Gm.rt hl.1
 have hp:=(Q5 (j:=⟨0,0,0,0⟩) (l:=c.ly) hl.1).2.2
 have m1:=Il (a:=c.ly.g.banks) (b:=c.ly.g.rows) (A:=16) (B:=1024) (by omega) (by omega)
 have m2:=Il (a:=c.ly.g.banks * c.ly.g.rows) (b:=c.ly.g.cols) (A:=16384) (B:=64) (by omega) (by omega)
 have m3:=Il (a:=c.ly.g.ranks + c.ly.g.spares) (b:=c.ly.g.banks * c.ly.g.rows * c.ly.g.cols) (A:=8) (B:=1048576) (by omega) (by omega)
 rw [Ca (x:=c.ly.g.ranks + c.ly.g.spares) (by omega),hp,Ca (x:=(c.ly.g.ranks + c.ly.g.spares) * (c.ly.g.banks * c.ly.g.rows * c.ly.g.cols)) (by omega),Ca (by omega),Ft hc]
 have e1:((cRk c:Nat):Int)=c.ly.g.ranks + c.ly.g.spares:=by unfold cRk; omega
 have e2:((cB c:Nat):Int)=c.ly.g.banks:=by show ((c.ly.g.banks.toNat:Nat):Int)=_; omega
 have e3:((cW c:Nat):Int)=c.ly.g.rows:=by show ((c.ly.g.rows.toNat:Nat):Int)=_; omega
 have e4:((cC c:Nat):Int)=c.ly.g.cols:=by show ((c.ly.g.cols.toNat:Nat):Int)=_; omega
 rw [Int.natCast_add,Int.natCast_mul,Int.natCast_mul,Int.natCast_mul,e1,e2,e3,e4,Int.mul_assoc c.ly.g.banks]
 rfl
theorem Ld {c:Cfg} (hc:A8 c=true) (n:Int):D8 c n=true:=by
 have hm:=(B21 hc).rq
 have h:RQ c (fun _ _=>0) (Sw c):=hm
 have ok:CtlOk 8388608 (Sw c):=(Kx hc).c
 have hz:eqA (nf (fun _=>0)) (fun _=>0) 64 0=true:=P0.2 fun _ _ _=>rfl
 unfold D8
 cases Ax c with
 | false=>rfl
 | true =>
   rw [cond_true]
   cases decide (100 < IntKind.i64.wrap ((IntKind.i64.wrap ((IntKind.i64.wrap ((IntKind.i64.wrap (c.ly.g.ranks + c.ly.g.spares)) * c.ly.g.banks)) * c.ly.g.rows)) * c.ly.g.cols)) with
   | true=>rfl
   | false =>
     rw [cond_false]
     by_cases hn:n < 0 ∨ IntKind.i64.wrap ((A0 c.ly) * c.ly.g.cols)<=n
     ·have e:(bif (decide (n < 0)) then true else (decide (IntKind.i64.wrap ((A0 c.ly) * c.ly.g.cols)<=n)))=true:=by
       by_cases a:n < 0
       ·rw [tq a]; rfl
       ·rw [fq a,cond_false]; exact tq (by omega)
      have e3:F0 (Sw c) n=30:=Ak6 (by rw [h.d.w.ly]; exact hn)
      have e1:∀ b,Bv (Sw c) n b=30:=fun b=>by unfold Bv; rw [e3]; rfl
      have e0:∀ b,Cl (Sw c) n b=fun _=>0:=fun b=>by unfold Cl; rw [e3]; rfl
      rw [e,cond_true,e1,e0,hz]; rfl
     ·have e:(bif (decide (n < 0)) then true else (decide (IntKind.i64.wrap ((A0 c.ly) * c.ly.g.cols)<=n)))=false:=by
       rw [fq (show ¬ n < 0 by omega),cond_false]; exact fq (by omega)
      have hln:Lns c.ly n:=⟨by omega,by omega⟩
      obtain ⟨r,r1,r0⟩:=h.read hc ok.d hln (Sw c).le.c.back
      have e0:eqA (nf (Cl (Sw c) n (Sw c).le.c.back)) (fun _=>0) 64 0=true:=P0.2 fun j _ hj=>by
       show ((Cl (Sw c) n (Sw c).le.c.back j:Nat):Int)=0
       rw [r0 j (by omega)]; rfl
      have el:=r.le.log
      have ek:Kf (An (Sw c) n (Sw c).le.c.back).le.trk=true:=tq (B2b r.le.trk)
      have ed:(An (Sw c) n (Sw c).le.c.back).d.l.length=(Sw c).d.l.length + 1:=by
       obtain ⟨a1,a2,k1,_,_⟩:=A4p hc h.d.w hln (Sw c).le.c.back
       obtain ⟨_,_,hat⟩:=h.d.w.cat hln
       obtain ⟨_,_,thd,_⟩:=h.d.w.take hat a1 a2
       rw [k1,(h.ex hc ok.d hln).2]
       show (Aw (Sw c) (RT (Sw c).le.rep n) a1 a2).d.l.length=_
       rw [thd]; exact List.length_append
      rw [e,cond_false,r1,e0,el,ek,ed,Fk hc,tq rfl]; rfl
end Go.Proofs.YtfhiggfmkjmeiaaGreat
namespace Go.Proofs.YtfhiggfmkjmeiaaGreat
open Go Go.RowKit
set_option maxRecDepth 100000
theorem Ii (c : Cfg) (g : Gm) (m n : Int) : Sp P 6 [.ag [vi c.ly.g.ranks, vi c.ly.g.spares, vi c.ly.g.banks, vi c.ly.g.rows, vi c.ly.g.cols, vi c.ly.way, vi c.ly.res, vi c.mode, vi c.rules.rank.limit, vi c.rules.rank.every, vi c.rules.page.limit, vi c.rules.page.every, vi c.rules.room, vi c.rules.heavy, vi c.log, vt c.back], .ag [vi g.ranks, vi g.spares, vi g.banks, vi g.rows, vi g.cols], vi m, vi n] [] (vt true) [] := by
 cases h1:g.right with
 | false=>exact cb1 c g m n h1
 | true =>
   cases h2:Fa m with
   | false=>exact cb2 c g m n h1 h2
   | true =>
     cases h3:A8 c with
     | false=>exact cb3 c g m n h1 h2 h3
     | true =>
       by_cases h4:g=c.ly.g
       ·subst h4
        by_cases h5:m=c.mode
        ·subst h5
         have h:=cb6 c n h3
         rw [Ld h3] at h
         exact h
        ·exact cb5 c m n h2 h3 h5
       ·exact cb4 c g m n h1 h2 h3 h4
