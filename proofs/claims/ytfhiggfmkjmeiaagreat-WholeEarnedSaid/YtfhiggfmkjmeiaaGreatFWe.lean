import Derived.Test.YtfhiggfmkjmeiaaGreatFTop
import Derived.Test.YtfhiggfmkjmeiaaGreatLEa
set_option linter.all false
namespace Go.Proofs.YtfhiggfmkjmeiaaGreat
open Go Go.RowKit
set_option maxRecDepth 100000
def O2 (c:Cfg) (l:List Stp):Bool:=bif Bu c then (bif decide (80 < (l.length:Int)) then true else (J0 (mrS (Ac c) l l.length))) else true
theorem Awn (c:Cfg) (l:List Stp) (hs:∀ x ∈ l,StpOk x):Sp P 3 [.ag [vi c.ly.g.ranks,vi c.ly.g.spares,vi c.ly.g.banks,vi c.ly.g.rows,vi c.ly.g.cols,vi c.ly.way,vi c.ly.res,vi c.mode,vi c.rules.rank.limit,vi c.rules.rank.every,vi c.rules.page.limit,vi c.rules.page.every,vi c.rules.room,vi c.rules.heavy,vi c.log,vt c.back],.sl 0] [.ro (.row Sy l)] (vt (O2 c l)) [.ro (.row Sy l)]:=by
 generalize d0:O2 c l=yd0
 unfold O2 at d0
 rcases bft (Bu c) with q1 | q1
 ·rw [A2 q1] at d0
  rcases bft (decide (80 < (l.length:Int))) with q2 | q2
  ·rw [A2 q2] at d0
   subst d0
   exact so Tryz.f3 36 [.id 0] (.c [] (Ld) (.n (.c [] (K6 c q1) (.n4 (.t q2 .nil)))))
  ·rw [A1 q2] at d0
   have q2':=ofq q2
   subst d0
   exact so Tryz.f3 37 [.id 0] (.c [] (Ld) (.n (.c [] (K6 c q1) (.n4 (.t q2 (.c (ir 3 33 ++ .id 0 :: []) (B0a (Ac c) l ((Kx (C9 q1)).mono (by omega)) hs ((by have:=ofq q2; omega))) (.c (ir 3 33) (Asl (mrS (Ac c) l l.length) (Nat.le_trans (Qr (C9 q1) hs (by have:=ofq q2; omega)).c.dl (by decide)) (Nat.le_trans (Qr (C9 q1) hs (by have:=ofq q2; omega)).sl (by decide)) ((Ay9 hs).ms)) .nil)))))))
 ·rw [A1 q1] at d0
  subst d0
  exact so Tryz.f3 3 [.id 0] (.c [] (Ld) (.n (.c [] (Yu c q1) (.y4 (.y .nil)))))
theorem Al5 {c:Cfg} {l:List Stp} (hs:∀ x ∈ l,StpOk x):O2 c l=true:=by
 unfold O2
 cases h:Bu c with
 | false=>rfl
 | true =>
   cases decide (80 < (l.length:Int)) with
   | true=>rfl
   | false=>simp only [cond_true,cond_false]; exact Al6 (C9 h) hs
