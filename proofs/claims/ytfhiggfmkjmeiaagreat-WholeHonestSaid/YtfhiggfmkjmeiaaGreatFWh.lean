import Derived.Test.YtfhiggfmkjmeiaaGreatFTop
import Derived.Test.YtfhiggfmkjmeiaaGreatLWh
set_option linter.unusedVariables false
set_option linter.unusedSimpArgs false
set_option linter.unusedSectionVars false
namespace Go.Proofs.YtfhiggfmkjmeiaaGreat
open Go Go.RowKit
set_option maxRecDepth 100000
def honest_v0 (c:Cfg) (l:List Stp):Bool:=bif smallT_v0 c then (bif decide (80 < ((l.length:Nat):Int)) then true else (bif (jWatched_v0 (mrS (mNewM_s c) l l.length)) then (jHonest_v0 (mrS (mNewM_s c) l l.length)) else true)) else true
theorem honest (c:Cfg) (l:List Stp) (hs:∀ x ∈ l,StpOk x):Sp P 11 [.ag [vi c.ly.g.ranks,vi c.ly.g.spares,vi c.ly.g.banks,vi c.ly.g.rows,vi c.ly.g.cols,vi c.ly.way,vi c.ly.res,vi c.mode,vi c.rules.rank.limit,vi c.rules.rank.every,vi c.rules.page.limit,vi c.rules.page.every,vi c.rules.room,vi c.rules.heavy,vi c.log,vt c.back],.sl 0] [.ro (.row eStp l)] (vt (honest_v0 c l)) [.ro (.row eStp l)]:=by
 generalize d0:honest_v0 c l=yd0
 unfold honest_v0 at d0
 rcases bft (smallT_v0 c) with q1 | q1
 ·rw [cpos q1] at d0
  rcases bft (decide (80 < ((l.length:Nat):Int))) with q2 | q2
  ·rw [cpos q2] at d0
   subst d0
   exact so Tryz.f11 36 [.id 0] (.c [] (alive_t) (.n (.c [] (begun_raw c q1) (.n4 (.t q2 .nil)))))
  ·rw [cneg q2] at d0
   have q2':=of_decide_eq_false q2
   subst d0
   exact so Tryz.f11 37 [.id 0] (.c [] (alive_t) (.n (.c [] (begun_raw c q1) (.n4 (.t q2 (.c (ir 3 33 ++ .id 0 :: []) (mRun (mNewM_s c) l ((mNewM_ok (smallT_t q1)).mono (by omega)) hs ((by have:=of_decide_eq_false q2; omega))) (.cs 1000007 (jWatched_v0 (mrS (mNewM_s c) l l.length)) 37 [] [] (fun z=>[(4,vt (bif z then (jHonest_v0 (mrS (mNewM_s c) l l.length)) else true))]) (fun z=>[]) (fun hq1=>(.c (ir 3 33) (jWatched (mrS (mNewM_s c) l l.length) (Nat.le_trans (mW_ok (smallT_t q1) hs (by have:=of_decide_eq_false q2; omega)).c.dl (by decide))) (.g hq1 (.g hq1 (.c (ir 3 33) (jHonest (mrS (mNewM_s c) l l.length) (Nat.le_trans (mW_ok (smallT_t q1) hs (by have:=of_decide_eq_false q2; omega)).c.dl (by decide)) (Nat.le_trans (mW_ok (smallT_t q1) hs (by have:=of_decide_eq_false q2; omega)).sl (by decide))) (.g hq1 .nil)))))) (fun hq1=>(.c (ir 3 33) (jWatched (mrS (mNewM_s c) l l.length) (Nat.le_trans (mW_ok (smallT_t q1) hs (by have:=of_decide_eq_false q2; omega)).c.dl (by decide))) (.g hq1 (.g hq1 (.g hq1 .nil))))) .nil)))))))
 ·rw [cneg q1] at d0
  subst d0
  exact so Tryz.f11 3 [.id 0] (.c [] (alive_t) (.n (.c [] (begun_no c q1) (.y4 (.y .nil)))))
theorem honest_t {c:Cfg} {l:List Stp} (hs:∀ x ∈ l,StpOk x):honest_v0 c l=true:=by
 unfold honest_v0
 cases h:smallT_v0 c with
 | false=>rfl
 | true =>
   cases decide (80 < ((l.length:Nat):Int)) with
   | true=>rfl
   | false =>
     cases hw:jWatched_v0 (mrS (mNewM_s c) l l.length) with
     | false=>rfl
     | true=>simp only [cond_true,cond_false]; exact honest_w (smallT_t h) hs hw
end Go.Proofs.YtfhiggfmkjmeiaaGreat
