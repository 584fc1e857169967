import Derived.Test.YtfhiggfmkjmeiaaGreatFTop
import Derived.Test.YtfhiggfmkjmeiaaGreatLSp
set_option linter.all false
namespace Go.Proofs.YtfhiggfmkjmeiaaGreat
open Go Go.RowKit
set_option maxRecDepth 100000
def On (c:Cfg) (l:List Stp):Bool:=bif Bu c then (bif decide (160 < (l.length:Int)) then true else (bif (I0 (mrS (Ac c) l l.length)) then (bif (Dq (mrS (Ac c) l l.length)) then (Bp (mrS (Ac c) l l.length)) else false) else true)) else true
theorem Ayo (c:Cfg) (l:List Stp) (hs:∀ x ∈ l,StpOk x):Sp P 13 [.ag [vi c.ly.g.ranks,vi c.ly.g.spares,vi c.ly.g.banks,vi c.ly.g.rows,vi c.ly.g.cols,vi c.ly.way,vi c.ly.res,vi c.mode,vi c.rules.rank.limit,vi c.rules.rank.every,vi c.rules.page.limit,vi c.rules.page.every,vi c.rules.room,vi c.rules.heavy,vi c.log,vt c.back],.sl 0] [.ro (.row Sy l)] (vt (On c l)) [.ro (.row Sy l)]:=by
 generalize d0:On c l=yd0
 unfold On at d0
 rcases bft (Bu c) with q1 | q1
 ·rw [A2 q1] at d0
  rcases bft (decide (160 < (l.length:Int))) with q2 | q2
  ·rw [A2 q2] at d0
   subst d0
   exact so Tryz.f13 36 [.id 0] (.c [] (Ld) (.n (.c [] (K6 c q1) (.n4 (.t q2 .nil)))))
  ·rw [A1 q2] at d0
   have q2':=ofq q2
   subst d0
   exact so Tryz.f13 37 [.id 0] (.c [] (Ld) (.n (.c [] (K6 c q1) (.n4 (.t q2 (.c (ir 3 33 ++ .id 0 :: []) (B0a (Ac c) l ((Kx (C9 q1)).mono (by omega)) hs ((by have:=ofq q2; omega))) (.cs 1000007 (I0 (mrS (Ac c) l l.length)) 37 [] [] (fun z=>[(4,vt (bif z then (bif (Dq (mrS (Ac c) l l.length)) then (Bp (mrS (Ac c) l l.length)) else false) else true))]) (fun z=>[]) (fun hq1=>(.cs 1000007 (Dq (mrS (Ac c) l l.length)) 37 [] [] (fun z=>[(4,vt (bif z then (Bp (mrS (Ac c) l l.length)) else false))]) (fun z=>[]) (fun hq2=>(.c (ir 3 33) (A6u (mrS (Ac c) l l.length) (Nat.le_trans (Qr (C9 q1) hs (by have:=ofq q2; omega)).il (by decide)) ((Qr (C9 q1) hs (by have:=ofq q2; omega)).c.d.d.md)) (.g hq1 (.g hq1 (.c (ir 3 33) (A8r (mrS (Ac c) l l.length) (Nat.le_trans (Qr (C9 q1) hs (by have:=ofq q2; omega)).c.dl (by decide))) (.g hq1 (.t2 hq2 (.c (ir 3 33) (A34 (mrS (Ac c) l l.length) (Nat.le_trans (Qr (C9 q1) hs (by have:=ofq q2; omega)).sl (by decide))) (.g hq1 (.t hq2 (.g hq1 .nil))))))))))) (fun hq2=>(.c (ir 3 33) (A6u (mrS (Ac c) l l.length) (Nat.le_trans (Qr (C9 q1) hs (by have:=ofq q2; omega)).il (by decide)) ((Qr (C9 q1) hs (by have:=ofq q2; omega)).c.d.d.md)) (.g hq1 (.g hq1 (.c (ir 3 33) (A8r (mrS (Ac c) l l.length) (Nat.le_trans (Qr (C9 q1) hs (by have:=ofq q2; omega)).c.dl (by decide))) (.g hq1 (.t2 hq2 (.g hq1 (.t hq2 (.g hq1 .nil)))))))))) .nil)) (fun hq1=>(.c (ir 3 33) (A6u (mrS (Ac c) l l.length) (Nat.le_trans (Qr (C9 q1) hs (by have:=ofq q2; omega)).il (by decide)) ((Qr (C9 q1) hs (by have:=ofq q2; omega)).c.d.d.md)) (.g hq1 (.g hq1 (.g hq1 (.g hq1 (.g hq1 .nil))))))) .nil)))))))
 ·rw [A1 q1] at d0
  subst d0
  exact so Tryz.f13 3 [.id 0] (.c [] (Ld) (.n (.c [] (Yu c q1) (.y4 (.y .nil)))))
theorem Apb {c:Cfg} {l:List Stp} (hs:∀ x ∈ l,StpOk x):On c l=true:=by
 unfold On
 cases h:Bu c with
 | false=>rfl
 | true =>
   cases q:decide (160 < (l.length:Int)) with
   | true=>rfl
   | false =>
     cases hw:I0 (mrS (Ac c) l l.length) with
     | false=>rfl
     | true =>
       have q:=ofq q
       obtain ⟨a,b⟩:=Apc (C9 h) hs (by omega) hw
       simp only [cond_true,cond_false,a,b]
