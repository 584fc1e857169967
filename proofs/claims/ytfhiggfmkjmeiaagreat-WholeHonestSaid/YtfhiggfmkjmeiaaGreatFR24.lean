import Derived.Test.YtfhiggfmkjmeiaaGreatFRun
set_option linter.unusedVariables false
set_option linter.unusedSimpArgs false
set_option linter.unusedSectionVars false
namespace Go.Proofs.YtfhiggfmkjmeiaaGreat
open Go Go.RowKit
set_option maxRecDepth 100000
def rpow8_v0 (n:Int):Bool:=bif decide (n=1) then true else (bif decide (n=2) then true else (bif decide (n=4) then true else (bif decide (n=8) then true else false)))
theorem rpow8 (n:Int) :Sp P 113 [vi n,vn 8] [] (vt (rpow8_v0 n)) []:=by
 generalize d0:rpow8_v0 n=yd0
 unfold rpow8_v0 at d0
 rcases bft (decide (n=1)) with q1 | q1
 ·rw [cpos q1] at d0
  subst d0
  exact so Tryz.f113 3 [] (.lu 0 (.y (.t q1 .nil)))
 ·rw [cneg q1] at d0
  rcases bft (decide (n=2)) with q2 | q2
  ·rw [cpos q2] at d0
   subst d0
   exact so Tryz.f113 3 [] (.lu 1 (.y (.t q1 (.y (.t q2 .nil)))))
  ·rw [cneg q2] at d0
   rcases bft (decide (n=4)) with q3 | q3
   ·rw [cpos q3] at d0
    subst d0
    exact so Tryz.f113 3 [] (.lu 2 (.y (.t q1 (.y (.t q2 (.y (.t q3 .nil)))))))
   ·rw [cneg q3] at d0
    rcases bft (decide (n=8)) with q4 | q4
    ·rw [cpos q4] at d0
     subst d0
     exact so Tryz.f113 3 [] (.lu 3 (.y (.t q1 (.y (.t q2 (.y (.t q3 (.y (.t q4 .nil)))))))))
    ·rw [cneg q4] at d0
     subst d0
     exact so Tryz.f113 3 [] (.lu 4 (.y (.t q1 (.y (.t q2 (.y (.t q3 (.y (.t q4 (.n .nil))))))))))
def rpow16_v0 (n:Int):Bool:=bif decide (n=1) then true else (bif decide (n=2) then true else (bif decide (n=4) then true else (bif decide (n=8) then true else (bif decide (n=16) then true else false))))
theorem rpow16 (n:Int) :Sp P 113 [vi n,vn 16] [] (vt (rpow16_v0 n)) []:=by
 generalize d0:rpow16_v0 n=yd0
 unfold rpow16_v0 at d0
 rcases bft (decide (n=1)) with q1 | q1
 ·rw [cpos q1] at d0
  subst d0
  exact so Tryz.f113 3 [] (.lu 0 (.y (.t q1 .nil)))
 ·rw [cneg q1] at d0
  rcases bft (decide (n=2)) with q2 | q2
  ·rw [cpos q2] at d0
   subst d0
   exact so Tryz.f113 3 [] (.lu 1 (.y (.t q1 (.y (.t q2 .nil)))))
  ·rw [cneg q2] at d0
   rcases bft (decide (n=4)) with q3 | q3
   ·rw [cpos q3] at d0
    subst d0
    exact so Tryz.f113 3 [] (.lu 2 (.y (.t q1 (.y (.t q2 (.y (.t q3 .nil)))))))
   ·rw [cneg q3] at d0
    rcases bft (decide (n=8)) with q4 | q4
    ·rw [cpos q4] at d0
     subst d0
     exact so Tryz.f113 3 [] (.lu 3 (.y (.t q1 (.y (.t q2 (.y (.t q3 (.y (.t q4 .nil)))))))))
    ·rw [cneg q4] at d0
     rcases bft (decide (n=16)) with q5 | q5
     ·rw [cpos q5] at d0
      subst d0
      exact so Tryz.f113 3 [] (.lu 4 (.y (.t q1 (.y (.t q2 (.y (.t q3 (.y (.t q4 (.y (.t q5 .nil)))))))))))
     ·rw [cneg q5] at d0
      subst d0
      exact so Tryz.f113 3 [] (.lu 5 (.y (.t q1 (.y (.t q2 (.y (.t q3 (.y (.t q4 (.y (.t q5 (.n .nil))))))))))))
def rpow1024_v0 (n:Int):Bool:=bif decide (n=1) then true else (bif decide (n=2) then true else (bif decide (n=4) then true else (bif decide (n=8) then true else (bif decide (n=16) then true else (bif decide (n=32) then true else (bif decide (n=64) then true else (bif decide (n=128) then true else (bif decide (n=256) then true else (bif decide (n=512) then true else (bif decide (n=1024) then true else false))))))))))
theorem rpow1024 (n : Int)  : Sp P 113 [vi n, vn 1024] [] (vt (rpow1024_v0 n)) [] := by
 generalize d0:rpow1024_v0 n=yd0
 unfold rpow1024_v0 at d0
 rcases bft (decide (n=1)) with q1 | q1
 ·rw [cpos q1] at d0
  subst d0
  exact so Tryz.f113 3 [] (.lu 0 (.y (.t q1 .nil)))
 ·rw [cneg q1] at d0
  rcases bft (decide (n=2)) with q2 | q2
  ·rw [cpos q2] at d0
   subst d0
   exact so Tryz.f113 3 [] (.lu 1 (.y (.t q1 (.y (.t q2 .nil)))))
  ·rw [cneg q2] at d0
   rcases bft (decide (n=4)) with q3 | q3
   ·rw [cpos q3] at d0
    subst d0
    exact so Tryz.f113 3 [] (.lu 2 (.y (.t q1 (.y (.t q2 (.y (.t q3 .nil)))))))
   ·rw [cneg q3] at d0
    rcases bft (decide (n=8)) with q4 | q4
    ·rw [cpos q4] at d0
     subst d0
     exact so Tryz.f113 3 [] (.lu 3 (.y (.t q1 (.y (.t q2 (.y (.t q3 (.y (.t q4 .nil)))))))))
    ·rw [cneg q4] at d0
     rcases bft (decide (n=16)) with q5 | q5
     ·rw [cpos q5] at d0
      subst d0
      exact so Tryz.f113 3 [] (.lu 4 (.y (.t q1 (.y (.t q2 (.y (.t q3 (.y (.t q4 (.y (.t q5 .nil)))))))))))
     ·rw [cneg q5] at d0
      rcases bft (decide (n=32)) with q6 | q6
      ·rw [cpos q6] at d0
       subst d0
       exact so Tryz.f113 3 [] (.lu 5 (.y (.t q1 (.y (.t q2 (.y (.t q3 (.y (.t q4 (.y (.t q5 (.y (.t q6 .nil)))))))))))))
      ·rw [cneg q6] at d0
       rcases bft (decide (n=64)) with q7 | q7
       ·rw [cpos q7] at d0
        subst d0
        exact so Tryz.f113 3 [] (.lu 6 (.y (.t q1 (.y (.t q2 (.y (.t q3 (.y (.t q4 (.y (.t q5 (.y (.t q6 (.y (.t q7 .nil)))))))))))))))
       ·rw [cneg q7] at d0
        rcases bft (decide (n=128)) with q8 | q8
        ·rw [cpos q8] at d0
         subst d0
         exact so Tryz.f113 3 [] (.lu 7 (.y (.t q1 (.y (.t q2 (.y (.t q3 (.y (.t q4 (.y (.t q5 (.y (.t q6 (.y (.t q7 (.y (.t q8 .nil)))))))))))))))))
        ·rw [cneg q8] at d0
         rcases bft (decide (n=256)) with q9 | q9
         ·rw [cpos q9] at d0
          subst d0
          exact so Tryz.f113 3 [] (.lu 8 (.y (.t q1 (.y (.t q2 (.y (.t q3 (.y (.t q4 (.y (.t q5 (.y (.t q6 (.y (.t q7 (.y (.t q8 (.y (.t q9 .nil)))))))))))))))))))
         ·rw [cneg q9] at d0
          rcases bft (decide (n=512)) with q10 | q10
          ·rw [cpos q10] at d0
           subst d0
           exact so Tryz.f113 3 [] (.lu 9 (.y (.t q1 (.y (.t q2 (.y (.t q3 (.y (.t q4 (.y (.t q5 (.y (.t q6 (.y (.t q7 (.y (.t q8 (.y (.t q9 (.y (.t q10 .nil)))))))))))))))))))))
          ·rw [cneg q10] at d0
           rcases bft (decide (n=1024)) with q11 | q11
           ·rw [cpos q11] at d0
            subst d0
            exact so Tryz.f113 3 [] (.lu 10 (.y (.t q1 (.y (.t q2 (.y (.t q3 (.y (.t q4 (.y (.t q5 (.y (.t q6 (.y (.t q7 (.y (.t q8 (.y (.t q9 (.y (.t q10 (.y (.t q11 .nil)))))))))))))))))))))))
           ·rw [cneg q11] at d0
            subst d0
            exact so Tryz.f113 3 [] (.lu 11 (.y (.t q1 (.y (.t q2 (.y (.t q3 (.y (.t q4 (.y (.t q5 (.y (.t q6 (.y (.t q7 (.y (.t q8 (.y (.t q9 (.y (.t q10 (.y (.t q11 (.n .nil))))))))))))))))))))))))
def rpow64_v0 (n:Int):Bool:=bif decide (n=1) then true else (bif decide (n=2) then true else (bif decide (n=4) then true else (bif decide (n=8) then true else (bif decide (n=16) then true else (bif decide (n=32) then true else (bif decide (n=64) then true else false))))))
theorem rpow64 (n : Int)  : Sp P 113 [vi n, vn 64] [] (vt (rpow64_v0 n)) [] := by
 generalize d0:rpow64_v0 n=yd0
 unfold rpow64_v0 at d0
 rcases bft (decide (n=1)) with q1 | q1
 ·rw [cpos q1] at d0
  subst d0
  exact so Tryz.f113 3 [] (.lu 0 (.y (.t q1 .nil)))
 ·rw [cneg q1] at d0
  rcases bft (decide (n=2)) with q2 | q2
  ·rw [cpos q2] at d0
   subst d0
   exact so Tryz.f113 3 [] (.lu 1 (.y (.t q1 (.y (.t q2 .nil)))))
  ·rw [cneg q2] at d0
   rcases bft (decide (n=4)) with q3 | q3
   ·rw [cpos q3] at d0
    subst d0
    exact so Tryz.f113 3 [] (.lu 2 (.y (.t q1 (.y (.t q2 (.y (.t q3 .nil)))))))
   ·rw [cneg q3] at d0
    rcases bft (decide (n=8)) with q4 | q4
    ·rw [cpos q4] at d0
     subst d0
     exact so Tryz.f113 3 [] (.lu 3 (.y (.t q1 (.y (.t q2 (.y (.t q3 (.y (.t q4 .nil)))))))))
    ·rw [cneg q4] at d0
     rcases bft (decide (n=16)) with q5 | q5
     ·rw [cpos q5] at d0
      subst d0
      exact so Tryz.f113 3 [] (.lu 4 (.y (.t q1 (.y (.t q2 (.y (.t q3 (.y (.t q4 (.y (.t q5 .nil)))))))))))
     ·rw [cneg q5] at d0
      rcases bft (decide (n=32)) with q6 | q6
      ·rw [cpos q6] at d0
       subst d0
       exact so Tryz.f113 3 [] (.lu 5 (.y (.t q1 (.y (.t q2 (.y (.t q3 (.y (.t q4 (.y (.t q5 (.y (.t q6 .nil)))))))))))))
      ·rw [cneg q6] at d0
       rcases bft (decide (n=64)) with q7 | q7
       ·rw [cpos q7] at d0
        subst d0
        exact so Tryz.f113 3 [] (.lu 6 (.y (.t q1 (.y (.t q2 (.y (.t q3 (.y (.t q4 (.y (.t q5 (.y (.t q6 (.y (.t q7 .nil)))))))))))))))
       ·rw [cneg q7] at d0
        subst d0
        exact so Tryz.f113 3 [] (.lu 7 (.y (.t q1 (.y (.t q2 (.y (.t q3 (.y (.t q4 (.y (.t q5 (.y (.t q6 (.y (.t q7 (.n .nil))))))))))))))))
def refG_v0 (g:Gm):Bool:=bif (rpow8_v0 g.ranks) then (bif (rpow16_v0 g.banks) then (bif (rpow1024_v0 g.rows) then (bif (rpow64_v0 g.cols) then (bif decide (g.spares < 0) then false else (bif decide (IntKind.i64.wrap (8 - g.ranks) < g.spares) then false else (decide (IntKind.i64.wrap ((IntKind.i64.wrap ((IntKind.i64.wrap ((IntKind.i64.wrap (g.ranks + g.spares)) * g.banks)) * g.rows)) * g.cols)<=4096)))) else false) else false) else false) else false
theorem refG (g:Gm) :Sp P 44 [.ag [vi g.ranks,vi g.spares,vi g.banks,vi g.rows,vi g.cols]] [] (vt (refG_v0 g)) []:=by
 generalize d0:refG_v0 g=yd0
 unfold refG_v0 at d0
 rcases bft (rpow8_v0 g.ranks) with q1 | q1
 ·rw [cpos q1] at d0
  rcases bft (rpow16_v0 g.banks) with q2 | q2
  ·rw [cpos q2] at d0
   rcases bft (rpow1024_v0 g.rows) with q3 | q3
   ·rw [cpos q3] at d0
    rcases bft (rpow64_v0 g.cols) with q4 | q4
    ·rw [cpos q4] at d0
     rcases bft (decide (g.spares < 0)) with q5 | q5
     ·rw [cpos q5] at d0
      subst d0
      exact so Tryz.f44 3 [] (.c [] (rpow8 g.ranks) (.g2 q1 (.g q1 (.c [] (rpow16 g.banks) (.g2 q1 (.g2 q2 (.g q2 (.c [] (rpow1024 g.rows) (.g2 q2 (.g2 q3 (.g q3 (.c [] (rpow64 g.cols) (.g2 q3 (.g4 q4 (.t4 q5 (.t2 q5 (.t q5 (.y .nil))))))))))))))))))
     ·rw [cneg q5] at d0
      rcases bft (decide (IntKind.i64.wrap (8 - g.ranks) < g.spares)) with q6 | q6
      ·rw [cpos q6] at d0
       subst d0
       exact so Tryz.f44 3 [] (.c [] (rpow8 g.ranks) (.g2 q1 (.g q1 (.c [] (rpow16 g.banks) (.g2 q1 (.g2 q2 (.g q2 (.c [] (rpow1024 g.rows) (.g2 q2 (.g2 q3 (.g q3 (.c [] (rpow64 g.cols) (.g2 q3 (.g4 q4 (.t4 q5 (.t2 q5 (.t q5 (.t q6 .nil))))))))))))))))))
      ·rw [cneg q6] at d0
       subst d0
       exact so Tryz.f44 3 [] (.c [] (rpow8 g.ranks) (.g2 q1 (.g q1 (.c [] (rpow16 g.banks) (.g2 q1 (.g2 q2 (.g q2 (.c [] (rpow1024 g.rows) (.g2 q2 (.g2 q3 (.g q3 (.c [] (rpow64 g.cols) (.g2 q3 (.g4 q4 (.t4 q5 (.t2 q5 (.t q5 (.t q6 .nil))))))))))))))))))
    ·rw [cneg q4] at d0
     subst d0
     exact so Tryz.f44 3 [] (.c [] (rpow8 g.ranks) (.g2 q1 (.g q1 (.c [] (rpow16 g.banks) (.g2 q1 (.g2 q2 (.g q2 (.c [] (rpow1024 g.rows) (.g2 q2 (.g2 q3 (.g q3 (.c [] (rpow64 g.cols) (.g2 q3 (.g4 q4 (.y4 (.y4 .nil))))))))))))))))
   ·rw [cneg q3] at d0
    subst d0
    exact so Tryz.f44 3 [] (.c [] (rpow8 g.ranks) (.g2 q1 (.g q1 (.c [] (rpow16 g.banks) (.g2 q1 (.g2 q2 (.g q2 (.c [] (rpow1024 g.rows) (.g2 q2 (.g4 q3 (.g q3 (.y4 (.y4 (.y4 .nil))))))))))))))
  ·rw [cneg q2] at d0
   subst d0
   exact so Tryz.f44 3 [] (.c [] (rpow8 g.ranks) (.g2 q1 (.g q1 (.c [] (rpow16 g.banks) (.g2 q1 (.g4 q2 (.g q2 (.y4 (.y4 (.y4 (.y4 (.y .nil))))))))))))
 ·rw [cneg q1] at d0
  subst d0
  exact so Tryz.f44 3 [] (.c [] (rpow8 g.ranks) (.g4 q1 (.g q1 (.y4 (.y4 (.y4 (.y4 (.y4 (.y2 .nil)))))))))
def fillA (v:Nat):Nat->Nat->Int
 | 0=>fun _=>0
 | i + 1=>upI (fillA v i) i ((v:Nat):Int)
theorem fillA_eq (v:Nat):∀ i j,fillA v i j=if j < i then ((v:Nat):Int) else 0
 | 0,j=>rfl
 | i + 1,j=>by
   show upI (fillA v i) i _ j=_
   unfold upI
   rw [fillA_eq v i j]
   split
   ·rename_i e; rw [if_pos (by omega)]
   ·rename_i e
    by_cases hj:j < i
    ·rw [if_pos hj,if_pos (by omega)]
    ·rw [if_neg hj,if_neg (by omega)]
theorem fill_raw (v:Nat) :Sp P 91 [vb v] [] (.ar .u8 64 (fillA v 64)) [] :=
 so Tryz.f91 4 [] (.lp 64 3 [] [] (fun i=>[(5,vn i)]) (fun i=>[(2,.blk [.ar .u8 64 (fillA v i)] 43)]) (fun i hi=>(.t (show (decide (((i:Nat):Int) < 64))=true from decide_eq_true (by omega)) (.ix (i:=i) (m:=64) (by omega) (.lt (i:=i) (n:=64) (by omega) (.e 11 (aAdd (a:=((i:Nat):Int)) (b:=1) (c:=((i + 1:Nat):Int)) (by omega)) .nil))))) (.n .nil))
theorem fill (v:Nat):Sp P 91 [vb v] [] (.ar .u8 64 (nf (fun _=>v))) []:=(fill_raw v).resE (ar_den fun j hj=>by rw [fillA_eq,if_pos hj]; rfl) rfl rfl rfl
theorem mNewM_ok {c:Cfg} (h:cfgRight_v0 c=true):MchOk 8388608 (mNewM_s c):=by
 have hc:=cfg_t h
 have hg:=Gm.rt (ly_rt hc.1).1
 have hn:CtlOk 8388608 (ctlN c):=(nwR_ok (ctl0_ok h) (by show c.ly.g.cols.toNat<=64; omega) (by show c.ly.g.rows.toNat<=1024; omega) (by show c.ly.g.banks.toNat<=16; omega) (cRk c)).mono (by unfold cRk; omega)
 refine ⟨hn,fun _ _=>(by decide:(0:Nat) < 256),Nat.zero_le _,Nat.zero_le _,?_⟩
 show lyRight_v0 (ctlN c).le.c.ly=true
 have h1:∀ s r b w k,(nwC s r b w k).le.c=s.le.c:=fun s r b w k=>by induction k with | zero=>rfl | succ k ih=>exact (cput_c _ _ _ _).trans ih
 have h2:∀ s r b C w,(nwW s r b C w).le.c=s.le.c:=fun s r b C w=>by induction w with | zero=>rfl | succ w ih=>exact (h1 _ _ _ _ _).trans ih
 have h3:∀ s r W C b,(nwB s r W C b).le.c=s.le.c:=fun s r W C b=>by induction b with | zero=>rfl | succ b ih=>exact (h2 _ _ _ _ _).trans ih
 have h4:∀ s B W C r,(nwR s B W C r).le.c=s.le.c:=fun s B W C r=>by induction r with | zero=>rfl | succ r ih=>exact (h3 _ _ _ _ _).trans ih
 rw [show (ctlN c).le.c=(ctl0 c).le.c from h4 _ _ _ _ _]
 exact hc.1
def lreq_v0 (c:Cfg) (x:Stp):Bool:=bif (stpRight x) then (bif (decide (x.kind<=3)) then (bif (decide (0<=x.line)) then (bif (decide (x.line < IntKind.i64.wrap ((lySeen_v0 c.ly) * c.ly.g.cols))) then (bif (decide (x.kind=3)) then (!(decide (((x.mask:Nat):Int)=0))) else true) else false) else false) else false) else false
end Go.Proofs.YtfhiggfmkjmeiaaGreat
