import Derived.Test.YtoflmffbkdekcaaGreatFRun
namespace Go.Proofs.YtoflmffbkdekcaaGreat
open Go Go.RowKit
set_option linter.unusedVariables false
set_option linter.unusedSimpArgs false
set_option maxRecDepth 100000
def rpow8_v0 (n:Int):Bool:=bif decide (n=1) then true else (bif decide (n=2) then true else (bif decide (n=4) then true else (bif decide (n=8) then true else false)))
theorem rpow8 (n:Int) :Sp P 126 [vi n,vn 8] [] (vt (rpow8_v0 n)) []:=by
 generalize d0:rpow8_v0 n=yd0
 unfold rpow8_v0 at d0
 rcases bft (decide (n=1)) with q1 | q1
 ·rw [cpos q1] at d0
  subst d0
  exact so Tryz.f126 3 [] (.lu 0 (.y (.t q1 .nil)))
 ·rw [cneg q1] at d0
  rcases bft (decide (n=2)) with q2 | q2
  ·rw [cpos q2] at d0
   subst d0
   exact so Tryz.f126 3 [] (.lu 1 (.y (.t q1 (.y (.t q2 .nil)))))
  ·rw [cneg q2] at d0
   rcases bft (decide (n=4)) with q3 | q3
   ·rw [cpos q3] at d0
    subst d0
    exact so Tryz.f126 3 [] (.lu 2 (.y (.t q1 (.y (.t q2 (.y (.t q3 .nil)))))))
   ·rw [cneg q3] at d0
    rcases bft (decide (n=8)) with q4 | q4
    ·rw [cpos q4] at d0
     subst d0
     exact so Tryz.f126 3 [] (.lu 3 (.y (.t q1 (.y (.t q2 (.y (.t q3 (.y (.t q4 .nil)))))))))
    ·rw [cneg q4] at d0
     subst d0
     exact so Tryz.f126 3 [] (.lu 4 (.y (.t q1 (.y (.t q2 (.y (.t q3 (.y (.t q4 (.n .nil))))))))))
def rpow16_v0 (n:Int):Bool:=bif decide (n=1) then true else (bif decide (n=2) then true else (bif decide (n=4) then true else (bif decide (n=8) then true else (bif decide (n=16) then true else false))))
theorem rpow16 (n:Int) :Sp P 126 [vi n,vn 16] [] (vt (rpow16_v0 n)) []:=by
 generalize d0:rpow16_v0 n=yd0
 unfold rpow16_v0 at d0
 rcases bft (decide (n=1)) with q1 | q1
 ·rw [cpos q1] at d0
  subst d0
  exact so Tryz.f126 3 [] (.lu 0 (.y (.t q1 .nil)))
 ·rw [cneg q1] at d0
  rcases bft (decide (n=2)) with q2 | q2
  ·rw [cpos q2] at d0
   subst d0
   exact so Tryz.f126 3 [] (.lu 1 (.y (.t q1 (.y (.t q2 .nil)))))
  ·rw [cneg q2] at d0
   rcases bft (decide (n=4)) with q3 | q3
   ·rw [cpos q3] at d0
    subst d0
    exact so Tryz.f126 3 [] (.lu 2 (.y (.t q1 (.y (.t q2 (.y (.t q3 .nil)))))))
   ·rw [cneg q3] at d0
    rcases bft (decide (n=8)) with q4 | q4
    ·rw [cpos q4] at d0
     subst d0
     exact so Tryz.f126 3 [] (.lu 3 (.y (.t q1 (.y (.t q2 (.y (.t q3 (.y (.t q4 .nil)))))))))
    ·rw [cneg q4] at d0
     rcases bft (decide (n=16)) with q5 | q5
     ·rw [cpos q5] at d0
      subst d0
      exact so Tryz.f126 3 [] (.lu 4 (.y (.t q1 (.y (.t q2 (.y (.t q3 (.y (.t q4 (.y (.t q5 .nil)))))))))))
     ·rw [cneg q5] at d0
      subst d0
      exact so Tryz.f126 3 [] (.lu 5 (.y (.t q1 (.y (.t q2 (.y (.t q3 (.y (.t q4 (.y (.t q5 (.n .nil))))))))))))
def rpow1024_v0 (n:Int):Bool:=bif decide (n=1) then true else (bif decide (n=2) then true else (bif decide (n=4) then true else (bif decide (n=8) then true else (bif decide (n=16) then true else (bif decide (n=32) then true else (bif decide (n=64) then true else (bif decide (n=128) then true else (bif decide (n=256) then true else (bif decide (n=512) then true else (bif decide (n=1024) then true else false))))))))))
theorem rpow1024 (n : Int)  : Sp P 126 [vi n, vn 1024] [] (vt (rpow1024_v0 n)) [] := by
 generalize d0:rpow1024_v0 n=yd0
 unfold rpow1024_v0 at d0
 rcases bft (decide (n=1)) with q1 | q1
 ·rw [cpos q1] at d0
  subst d0
  exact so Tryz.f126 3 [] (.lu 0 (.y (.t q1 .nil)))
 ·rw [cneg q1] at d0
  rcases bft (decide (n=2)) with q2 | q2
  ·rw [cpos q2] at d0
   subst d0
   exact so Tryz.f126 3 [] (.lu 1 (.y (.t q1 (.y (.t q2 .nil)))))
  ·rw [cneg q2] at d0
   rcases bft (decide (n=4)) with q3 | q3
   ·rw [cpos q3] at d0
    subst d0
    exact so Tryz.f126 3 [] (.lu 2 (.y (.t q1 (.y (.t q2 (.y (.t q3 .nil)))))))
   ·rw [cneg q3] at d0
    rcases bft (decide (n=8)) with q4 | q4
    ·rw [cpos q4] at d0
     subst d0
     exact so Tryz.f126 3 [] (.lu 3 (.y (.t q1 (.y (.t q2 (.y (.t q3 (.y (.t q4 .nil)))))))))
    ·rw [cneg q4] at d0
     rcases bft (decide (n=16)) with q5 | q5
     ·rw [cpos q5] at d0
      subst d0
      exact so Tryz.f126 3 [] (.lu 4 (.y (.t q1 (.y (.t q2 (.y (.t q3 (.y (.t q4 (.y (.t q5 .nil)))))))))))
     ·rw [cneg q5] at d0
      rcases bft (decide (n=32)) with q6 | q6
      ·rw [cpos q6] at d0
       subst d0
       exact so Tryz.f126 3 [] (.lu 5 (.y (.t q1 (.y (.t q2 (.y (.t q3 (.y (.t q4 (.y (.t q5 (.y (.t q6 .nil)))))))))))))
      ·rw [cneg q6] at d0
       rcases bft (decide (n=64)) with q7 | q7
       ·rw [cpos q7] at d0
        subst d0
        exact so Tryz.f126 3 [] (.lu 6 (.y (.t q1 (.y (.t q2 (.y (.t q3 (.y (.t q4 (.y (.t q5 (.y (.t q6 (.y (.t q7 .nil)))))))))))))))
       ·rw [cneg q7] at d0
        rcases bft (decide (n=128)) with q8 | q8
        ·rw [cpos q8] at d0
         subst d0
         exact so Tryz.f126 3 [] (.lu 7 (.y (.t q1 (.y (.t q2 (.y (.t q3 (.y (.t q4 (.y (.t q5 (.y (.t q6 (.y (.t q7 (.y (.t q8 .nil)))))))))))))))))
        ·rw [cneg q8] at d0
         rcases bft (decide (n=256)) with q9 | q9
         ·rw [cpos q9] at d0
          subst d0
          exact so Tryz.f126 3 [] (.lu 8 (.y (.t q1 (.y (.t q2 (.y (.t q3 (.y (.t q4 (.y (.t q5 (.y (.t q6 (.y (.t q7 (.y (.t q8 (.y (.t q9 .nil)))))))))))))))))))
         ·rw [cneg q9] at d0
          rcases bft (decide (n=512)) with q10 | q10
          ·rw [cpos q10] at d0
           subst d0
           exact so Tryz.f126 3 [] (.lu 9 (.y (.t q1 (.y (.t q2 (.y (.t q3 (.y (.t q4 (.y (.t q5 (.y (.t q6 (.y (.t q7 (.y (.t q8 (.y (.t q9 (.y (.t q10 .nil)))))))))))))))))))))
          ·rw [cneg q10] at d0
           rcases bft (decide (n=1024)) with q11 | q11
           ·rw [cpos q11] at d0
            subst d0
            exact so Tryz.f126 3 [] (.lu 10 (.y (.t q1 (.y (.t q2 (.y (.t q3 (.y (.t q4 (.y (.t q5 (.y (.t q6 (.y (.t q7 (.y (.t q8 (.y (.t q9 (.y (.t q10 (.y (.t q11 .nil)))))))))))))))))))))))
           ·rw [cneg q11] at d0
            subst d0
            exact so Tryz.f126 3 [] (.lu 11 (.y (.t q1 (.y (.t q2 (.y (.t q3 (.y (.t q4 (.y (.t q5 (.y (.t q6 (.y (.t q7 (.y (.t q8 (.y (.t q9 (.y (.t q10 (.y (.t q11 (.n .nil))))))))))))))))))))))))
def rpow64_v0 (n:Int):Bool:=bif decide (n=1) then true else (bif decide (n=2) then true else (bif decide (n=4) then true else (bif decide (n=8) then true else (bif decide (n=16) then true else (bif decide (n=32) then true else (bif decide (n=64) then true else false))))))
theorem rpow64 (n : Int)  : Sp P 126 [vi n, vn 64] [] (vt (rpow64_v0 n)) [] := by
 generalize d0:rpow64_v0 n=yd0
 unfold rpow64_v0 at d0
 rcases bft (decide (n=1)) with q1 | q1
 ·rw [cpos q1] at d0
  subst d0
  exact so Tryz.f126 3 [] (.lu 0 (.y (.t q1 .nil)))
 ·rw [cneg q1] at d0
  rcases bft (decide (n=2)) with q2 | q2
  ·rw [cpos q2] at d0
   subst d0
   exact so Tryz.f126 3 [] (.lu 1 (.y (.t q1 (.y (.t q2 .nil)))))
  ·rw [cneg q2] at d0
   rcases bft (decide (n=4)) with q3 | q3
   ·rw [cpos q3] at d0
    subst d0
    exact so Tryz.f126 3 [] (.lu 2 (.y (.t q1 (.y (.t q2 (.y (.t q3 .nil)))))))
   ·rw [cneg q3] at d0
    rcases bft (decide (n=8)) with q4 | q4
    ·rw [cpos q4] at d0
     subst d0
     exact so Tryz.f126 3 [] (.lu 3 (.y (.t q1 (.y (.t q2 (.y (.t q3 (.y (.t q4 .nil)))))))))
    ·rw [cneg q4] at d0
     rcases bft (decide (n=16)) with q5 | q5
     ·rw [cpos q5] at d0
      subst d0
      exact so Tryz.f126 3 [] (.lu 4 (.y (.t q1 (.y (.t q2 (.y (.t q3 (.y (.t q4 (.y (.t q5 .nil)))))))))))
     ·rw [cneg q5] at d0
      rcases bft (decide (n=32)) with q6 | q6
      ·rw [cpos q6] at d0
       subst d0
       exact so Tryz.f126 3 [] (.lu 5 (.y (.t q1 (.y (.t q2 (.y (.t q3 (.y (.t q4 (.y (.t q5 (.y (.t q6 .nil)))))))))))))
      ·rw [cneg q6] at d0
       rcases bft (decide (n=64)) with q7 | q7
       ·rw [cpos q7] at d0
        subst d0
        exact so Tryz.f126 3 [] (.lu 6 (.y (.t q1 (.y (.t q2 (.y (.t q3 (.y (.t q4 (.y (.t q5 (.y (.t q6 (.y (.t q7 .nil)))))))))))))))
       ·rw [cneg q7] at d0
        subst d0
        exact so Tryz.f126 3 [] (.lu 7 (.y (.t q1 (.y (.t q2 (.y (.t q3 (.y (.t q4 (.y (.t q5 (.y (.t q6 (.y (.t q7 (.n .nil))))))))))))))))
def refG_v0 (g:Gm):Bool:=bif (rpow8_v0 g.ranks) then (bif (rpow16_v0 g.banks) then (bif (rpow1024_v0 g.rows) then (bif (rpow64_v0 g.cols) then (bif decide (g.spares < 0) then false else (bif decide (IntKind.i64.wrap (8 - g.ranks) < g.spares) then false else (decide (IntKind.i64.wrap ((IntKind.i64.wrap ((IntKind.i64.wrap ((IntKind.i64.wrap (g.ranks + g.spares)) * g.banks)) * g.rows)) * g.cols)≤4096)))) else false) else false) else false) else false
theorem refG (g:Gm) :Sp P 73 [.ag [vi g.ranks,vi g.spares,vi g.banks,vi g.rows,vi g.cols]] [] (vt (refG_v0 g)) []:=by
 generalize d0:refG_v0 g=yd0
 unfold refG_v0 at d0
 rcases bft (rpow8_v0 g.ranks) with q1 | q1
 ·rw [cpos q1] at d0
  rcases bft (rpow16_v0 g.banks) with q2 | q2
  ·rw [cpos q2] at d0
   rcases bft (rpow1024_v0 g.rows) with q3 | q3
   ·rw [cpos q3] at d0
    rcases bft (rpow64_v0 g.cols) with q4 | q4
    ·rw [cpos q4] at d0
     rcases bft (decide (g.spares < 0)) with q5 | q5
     ·rw [cpos q5] at d0
      subst d0
      exact so Tryz.f73 3 [] (.c [] (rpow8 g.ranks) (.g q1 (.g q1 (.g q1 (.c [] (rpow16 g.banks) (.g q1 (.g q1 (.g q2 (.g q2 (.g q2 (.c [] (rpow1024 g.rows) (.g q2 (.g q2 (.g q3 (.g q3 (.g q3 (.c [] (rpow64 g.cols) (.g q3 (.g q3 (.g q4 (.g q4 (.g q4 (.g q4 (.t q5 (.t q5 (.t q5 (.t q5 (.t q5 (.t q5 (.t q5 (.y .nil)))))))))))))))))))))))))))))))
     ·rw [cneg q5] at d0
      rcases bft (decide (IntKind.i64.wrap (8 - g.ranks) < g.spares)) with q6 | q6
      ·rw [cpos q6] at d0
       subst d0
       exact so Tryz.f73 3 [] (.c [] (rpow8 g.ranks) (.g q1 (.g q1 (.g q1 (.c [] (rpow16 g.banks) (.g q1 (.g q1 (.g q2 (.g q2 (.g q2 (.c [] (rpow1024 g.rows) (.g q2 (.g q2 (.g q3 (.g q3 (.g q3 (.c [] (rpow64 g.cols) (.g q3 (.g q3 (.g q4 (.g q4 (.g q4 (.g q4 (.t q5 (.t q5 (.t q5 (.t q5 (.t q5 (.t q5 (.t q5 (.t q6 .nil)))))))))))))))))))))))))))))))
      ·rw [cneg q6] at d0
       subst d0
       exact so Tryz.f73 3 [] (.c [] (rpow8 g.ranks) (.g q1 (.g q1 (.g q1 (.c [] (rpow16 g.banks) (.g q1 (.g q1 (.g q2 (.g q2 (.g q2 (.c [] (rpow1024 g.rows) (.g q2 (.g q2 (.g q3 (.g q3 (.g q3 (.c [] (rpow64 g.cols) (.g q3 (.g q3 (.g q4 (.g q4 (.g q4 (.g q4 (.t q5 (.t q5 (.t q5 (.t q5 (.t q5 (.t q5 (.t q5 (.t q6 .nil)))))))))))))))))))))))))))))))
    ·rw [cneg q4] at d0
     subst d0
     exact so Tryz.f73 3 [] (.c [] (rpow8 g.ranks) (.g q1 (.g q1 (.g q1 (.c [] (rpow16 g.banks) (.g q1 (.g q1 (.g q2 (.g q2 (.g q2 (.c [] (rpow1024 g.rows) (.g q2 (.g q2 (.g q3 (.g q3 (.g q3 (.c [] (rpow64 g.cols) (.g q3 (.g q3 (.g q4 (.g q4 (.g q4 (.g q4 (.y (.y (.y (.y (.y (.y (.y (.y .nil)))))))))))))))))))))))))))))))
   ·rw [cneg q3] at d0
    subst d0
    exact so Tryz.f73 3 [] (.c [] (rpow8 g.ranks) (.g q1 (.g q1 (.g q1 (.c [] (rpow16 g.banks) (.g q1 (.g q1 (.g q2 (.g q2 (.g q2 (.c [] (rpow1024 g.rows) (.g q2 (.g q2 (.g q3 (.g q3 (.g q3 (.g q3 (.g q3 (.y (.y (.y (.y (.y (.y (.y (.y (.y (.y (.y (.y .nil))))))))))))))))))))))))))))))
  ·rw [cneg q2] at d0
   subst d0
   exact so Tryz.f73 3 [] (.c [] (rpow8 g.ranks) (.g q1 (.g q1 (.g q1 (.c [] (rpow16 g.banks) (.g q1 (.g q1 (.g q2 (.g q2 (.g q2 (.g q2 (.g q2 (.y (.y (.y (.y (.y (.y (.y (.y (.y (.y (.y (.y (.y (.y (.y (.y (.y .nil)))))))))))))))))))))))))))))
 ·rw [cneg q1] at d0
  subst d0
  exact so Tryz.f73 3 [] (.c [] (rpow8 g.ranks) (.g q1 (.g q1 (.g q1 (.g q1 (.g q1 (.y (.y (.y (.y (.y (.y (.y (.y (.y (.y (.y (.y (.y (.y (.y (.y (.y (.y (.y (.y (.y (.y .nil))))))))))))))))))))))))))))
def small24_v0 (c:Cfg):Bool:=bif (refG_v0 c.ly.g) then (decide (IntKind.i64.wrap ((IntKind.i64.wrap ((IntKind.i64.wrap ((IntKind.i64.wrap (c.ly.g.ranks + c.ly.g.spares)) * c.ly.g.banks)) * c.ly.g.rows)) * c.ly.g.cols)≤100)) else true
theorem small24 (c:Cfg) :Sp P 31 [.ag [vi c.ly.g.ranks,vi c.ly.g.spares,vi c.ly.g.banks,vi c.ly.g.rows,vi c.ly.g.cols,vi c.ly.way,vi c.ly.res,vi c.mode,vi c.rules.rank.limit,vi c.rules.rank.every,vi c.rules.page.limit,vi c.rules.page.every,vi c.rules.room,vi c.rules.heavy,vi c.log,vt c.back]] [] (vt (small24_v0 c)) []:=by
 generalize d0:small24_v0 c=yd0
 unfold small24_v0 at d0
 rcases bft (refG_v0 c.ly.g) with q1 | q1
 ·rw [cpos q1] at d0
  subst d0
  exact so Tryz.f31 4 [] (.c [] (refG c.ly.g) (.g q1 (.g q1 (.g q1 (.g q1 (.g q1 (.g q1 (.g q1 (.g q1 (.g q1 (.g q1 (.g q1 (.g q1 (.g q1 (.g q1 (.g q1 (.g q1 .nil)))))))))))))))))
 ·rw [cneg q1] at d0
  subst d0
  exact so Tryz.f31 4 [] (.c [] (refG c.ly.g) (.g q1 (.g q1 (.g q1 (.g q1 (.g q1 (.g q1 (.g q1 (.g q1 (.g q1 (.g q1 (.g q1 (.g q1 (.g q1 (.g q1 (.g q1 (.g q1 .nil)))))))))))))))))
def right24_v0 (c:Cfg):Bool:=bif (cfgRight_v0 c) then (small24_v0 c) else false
theorem right24 (c:Cfg) :Sp P 23 [.ag [vi c.ly.g.ranks,vi c.ly.g.spares,vi c.ly.g.banks,vi c.ly.g.rows,vi c.ly.g.cols,vi c.ly.way,vi c.ly.res,vi c.mode,vi c.rules.rank.limit,vi c.rules.rank.every,vi c.rules.page.limit,vi c.rules.page.every,vi c.rules.room,vi c.rules.heavy,vi c.log,vt c.back]] [] (vt (right24_v0 c)) []:=by
 generalize d0:right24_v0 c=yd0
 unfold right24_v0 at d0
 rcases bft (cfgRight_v0 c) with q1 | q1
 ·rw [cpos q1] at d0
  subst d0
  exact so Tryz.f23 3 [] (.c [] (cfgRight c) (.t q1 (.t q1 (.c [] (small24 c) (.t q1 .nil)))))
 ·rw [cneg q1] at d0
  subst d0
  exact so Tryz.f23 3 [] (.c [] (cfgRight c) (.t q1 (.t q1 (.t q1 .nil))))
theorem right24_t {c:Cfg} (h:right24_v0 c=true):cfgRight_v0 c=true:=by
 unfold right24_v0 at h
 revert h; cases cfgRight_v0 c <;> simp
def fillA (v:Nat):Nat→Nat→Int
 | 0=>fun _=>0
 | i + 1=>upI (fillA v i) i ((v:Nat):Int)
theorem fillA_eq (v:Nat):∀ i j,fillA v i j=if j < i then ((v:Nat):Int) else 0
 | 0,j=>rfl
 | i + 1,j=>by
  show upI (fillA v i) i _ j=_
  unfold upI
  rw [fillA_eq v i j]
  split
  ·rename_i e; rw [if_pos (by omega)]
  ·rename_i e
   by_cases hj:j < i
   ·rw [if_pos hj,if_pos (by omega)]
   ·rw [if_neg hj,if_neg (by omega)]
theorem fill_raw (v:Nat) :Sp P 60 [vb v] [] (.ar .u8 64 (fillA v 64)) [] :=
 so Tryz.f60 4 [] (.lp 64 3 [] [] (fun i=>[(5,vn i)]) (fun i=>[(2,.blk [.ar .u8 64 (fillA v i)] 37)]) (fun i hi=>(.t (show (decide (((i:Nat):Int) < 64))=true from decide_eq_true (by omega)) (.ix (i:=i) (m:=64) (by omega) (.lt (i:=i) (n:=64) (by omega) (.e 11 (aAdd (a:=((i:Nat):Int)) (b:=1) (c:=((i + 1:Nat):Int)) (by omega)) .nil))))) (.n .nil))
theorem fill (v:Nat):Sp P 60 [vb v] [] (.ar .u8 64 (nf (fun _=>v))) []:=(fill_raw v).resE (ar_den fun j hj=>by rw [fillA_eq,if_pos hj]; rfl) rfl rfl rfl
theorem built24 (c:Cfg) (hcf:cfgRight_v0 c=true):Sp P 24 [.ag [vi c.ly.g.ranks,vi c.ly.g.spares,vi c.ly.g.banks,vi c.ly.g.rows,vi c.ly.g.cols,vi c.ly.way,vi c.ly.res,vi c.mode,vi c.rules.rank.limit,vi c.rules.rank.every,vi c.rules.page.limit,vi c.rules.page.every,vi c.rules.room,vi c.rules.heavy,vi c.log,vt c.back]] [] (.pt 0 0) ([.blk [.pt 16 0,.pt 1 0,.mp 30,.sl 31,.sl 32,vi (mNewM_s c).scrubs,vi (mNewM_s c).steps] 122] ++ bCtl (mNewM_s c).c 1 ++ bCode 25 ++ [.mp (.ar .u8 64 (nf (fun _=>0))) (mpC (mNewM_s c).ideal),.row eInj (mNewM_s c).inj,.row eSrv (mNewM_s c).srv]) :=
 so Tryz.f24 36 (ir 2 33) (.c [] (mNewM c (by first | assumption | omega)) (.n .nil))
theorem mNewM_ok {c:Cfg} (h:cfgRight_v0 c=true):MchOk 8388608 (mNewM_s c):=by
 have hc:=cfg_t h
 have hg:=Gm.rt (ly_rt hc.1).1
 have hn:CtlOk 8388608 (ctlN c):=(nwR_ok (ctl0_ok h) (by show c.ly.g.cols.toNat≤64; omega) (by show c.ly.g.rows.toNat≤1024; omega) (by show c.ly.g.banks.toNat≤16; omega) (cRk c)).mono (by unfold cRk; omega)
 refine ⟨hn,fun _ _=>(by decide:(0:Nat) < 256),Nat.zero_le _,Nat.zero_le _,?_⟩
 show lyRight_v0 (ctlN c).le.c.ly=true
 have h1:∀ s r b w k,(nwC s r b w k).le.c=s.le.c:=fun s r b w k=>by induction k with | zero=>rfl | succ k ih=>exact (cput_c _ _ _ _).trans ih
 have h2:∀ s r b C w,(nwW s r b C w).le.c=s.le.c:=fun s r b C w=>by induction w with | zero=>rfl | succ w ih=>exact (h1 _ _ _ _ _).trans ih
 have h3:∀ s r W C b,(nwB s r W C b).le.c=s.le.c:=fun s r W C b=>by induction b with | zero=>rfl | succ b ih=>exact (h2 _ _ _ _ _).trans ih
 have h4:∀ s B W C r,(nwR s B W C r).le.c=s.le.c:=fun s B W C r=>by induction r with | zero=>rfl | succ r ih=>exact (h3 _ _ _ _ _).trans ih
 rw [show (ctlN c).le.c=(ctl0 c).le.c from h4 _ _ _ _ _]
 exact hc.1
theorem stp3 {f:Flt}:∀ x ∈ ([⟨2,1,fun _=>3,0,f⟩,⟨1,1,fun _=>0,0,f⟩,⟨1,2,fun _=>0,0,f⟩]:List Stp),StpOk x:=by
 intro x hx
 simp only [List.mem_cons,List.not_mem_nil,or_false] at hx
 rcases hx with rfl | rfl | rfl <;> exact ⟨fun j=>by first | exact (by decide:(3:Nat) < 256) | exact (by decide:(0:Nat) < 256),(by decide:(0:Nat) < 18446744073709551616)⟩
def cfg24:Cfg:=(⟨(⟨(⟨1,0,1,1,2⟩:Gm),0,0⟩:Ly),2,(⟨(⟨2,2⟩:Rl),(⟨2,2⟩:Rl),1,1⟩:Rls),1,false⟩:Cfg)
def stp24:List Stp:=[(⟨2,1,fun _=>3,0,(⟨0,0,0,0,0,0,0,0⟩:Flt)⟩:Stp),(⟨1,1,fun _=>0,0,(⟨0,0,0,0,0,0,0,0⟩:Flt)⟩:Stp),(⟨1,2,fun _=>0,0,(⟨0,0,0,0,0,0,0,0⟩:Flt)⟩:Stp)]
theorem an24_1:(decide ((((mrA (mNewM_s cfg24) stp24 stp24.length).length:Nat):Int)=3))=true:=by decide +kernel
theorem an24_2:((decide (((mrA (mNewM_s cfg24) stp24 stp24.length).getD 0 eAns0).e=0)) && ((decide (((mrA (mNewM_s cfg24) stp24 stp24.length).getD 0 eAns0).n=0)) && ((eqA (nf ((mrA (mNewM_s cfg24) stp24 stp24.length).getD 0 eAns0).line) (fun _=>0) 64 0) && true)))=true:=by decide +kernel
theorem an24_3:((decide (((mrA (mNewM_s cfg24) stp24 stp24.length).getD 1 eAns0).e=0)) && ((decide (((mrA (mNewM_s cfg24) stp24 stp24.length).getD 1 eAns0).n=0)) && ((eqA (nf ((mrA (mNewM_s cfg24) stp24 stp24.length).getD 1 eAns0).line) (nf (fun _=>3)) 64 0) && true)))=true:=by decide +kernel
theorem an24_4:((decide (((mrA (mNewM_s cfg24) stp24 stp24.length).getD 2 eAns0).e=30)) && ((decide (((mrA (mNewM_s cfg24) stp24 stp24.length).getD 2 eAns0).n=0)) && ((eqA (nf ((mrA (mNewM_s cfg24) stp24 stp24.length).getD 2 eAns0).line) (fun _=>0) 64 0) && true)))=true:=by decide +kernel
def anc24_v0 :Bool:=eqA (nf ((mrS (mNewM_s cfg24) stp24 stp24.length).ideal 1)) (nf (fun _=>3)) 64 0
theorem anc24  :Sp P 22 [] [] (vt (anc24_v0)) [] :=
 so Tryz.f22 41 [] (.c [] (mNewM cfg24 (by decide +kernel)) (.n (.n (.n (.n (.c [] (fill 3) (.c (ir 2 33 ++ .sg 35 0 75 3 :: []) (mRun (mNewM_s cfg24) stp24 (MchOk.mono (mNewM_ok (by decide +kernel)) (by decide)) stp3 (by decide)) (.t (show (decide ((((mrA (mNewM_s cfg24) stp24 stp24.length).length:Nat):Int)=3))=true from an24_1) (.t (show (decide ((((mrA (mNewM_s cfg24) stp24 stp24.length).length:Nat):Int)=3))=true from an24_1) (.ix (i:=0) (m:=(mrA (mNewM_s cfg24) stp24 stp24.length).length) (by rw [mrA_len]; decide) (.t (show (decide ((((mrA (mNewM_s cfg24) stp24 stp24.length).length:Nat):Int)=3))=true from an24_1) (.el (e:=eAns) (gDx (l:=(mrA (mNewM_s cfg24) stp24 stp24.length)) (i:=0) eAns0 (by rw [mrA_len]; decide)) (.t (show (decide ((((mrA (mNewM_s cfg24) stp24 stp24.length).length:Nat):Int)=3))=true from an24_1) (.t (show (decide ((((mrA (mNewM_s cfg24) stp24 stp24.length).length:Nat):Int)=3))=true from an24_1) (.t (show (decide ((((mrA (mNewM_s cfg24) stp24 stp24.length).length:Nat):Int)=3))=true from an24_1) (.t (show ((decide (((mrA (mNewM_s cfg24) stp24 stp24.length).getD 0 eAns0).e=0)) && ((decide (((mrA (mNewM_s cfg24) stp24 stp24.length).getD 0 eAns0).n=0)) && ((eqA (nf ((mrA (mNewM_s cfg24) stp24 stp24.length).getD 0 eAns0).line) (fun _=>0) 64 0) && true)))=true from an24_2) (.t (show ((decide (((mrA (mNewM_s cfg24) stp24 stp24.length).getD 0 eAns0).e=0)) && ((decide (((mrA (mNewM_s cfg24) stp24 stp24.length).getD 0 eAns0).n=0)) && ((eqA (nf ((mrA (mNewM_s cfg24) stp24 stp24.length).getD 0 eAns0).line) (fun _=>0) 64 0) && true)))=true from an24_2) (.ix (i:=1) (m:=(mrA (mNewM_s cfg24) stp24 stp24.length).length) (by rw [mrA_len]; decide) (.t (show ((decide (((mrA (mNewM_s cfg24) stp24 stp24.length).getD 0 eAns0).e=0)) && ((decide (((mrA (mNewM_s cfg24) stp24 stp24.length).getD 0 eAns0).n=0)) && ((eqA (nf ((mrA (mNewM_s cfg24) stp24 stp24.length).getD 0 eAns0).line) (fun _=>0) 64 0) && true)))=true from an24_2) (.el (e:=eAns) (gDx (l:=(mrA (mNewM_s cfg24) stp24 stp24.length)) (i:=1) eAns0 (by rw [mrA_len]; decide)) (.t (show ((decide (((mrA (mNewM_s cfg24) stp24 stp24.length).getD 0 eAns0).e=0)) && ((decide (((mrA (mNewM_s cfg24) stp24 stp24.length).getD 0 eAns0).n=0)) && ((eqA (nf ((mrA (mNewM_s cfg24) stp24 stp24.length).getD 0 eAns0).line) (fun _=>0) 64 0) && true)))=true from an24_2) (.c [] (fill 3) (.t (show ((decide (((mrA (mNewM_s cfg24) stp24 stp24.length).getD 0 eAns0).e=0)) && ((decide (((mrA (mNewM_s cfg24) stp24 stp24.length).getD 0 eAns0).n=0)) && ((eqA (nf ((mrA (mNewM_s cfg24) stp24 stp24.length).getD 0 eAns0).line) (fun _=>0) 64 0) && true)))=true from an24_2) (.t (show ((decide (((mrA (mNewM_s cfg24) stp24 stp24.length).getD 0 eAns0).e=0)) && ((decide (((mrA (mNewM_s cfg24) stp24 stp24.length).getD 0 eAns0).n=0)) && ((eqA (nf ((mrA (mNewM_s cfg24) stp24 stp24.length).getD 0 eAns0).line) (fun _=>0) 64 0) && true)))=true from an24_2) (.t (show ((decide (((mrA (mNewM_s cfg24) stp24 stp24.length).getD 0 eAns0).e=0)) && ((decide (((mrA (mNewM_s cfg24) stp24 stp24.length).getD 0 eAns0).n=0)) && ((eqA (nf ((mrA (mNewM_s cfg24) stp24 stp24.length).getD 0 eAns0).line) (fun _=>0) 64 0) && true)))=true from an24_2) (.t (show ((decide (((mrA (mNewM_s cfg24) stp24 stp24.length).getD 1 eAns0).e=0)) && ((decide (((mrA (mNewM_s cfg24) stp24 stp24.length).getD 1 eAns0).n=0)) && ((eqA (nf ((mrA (mNewM_s cfg24) stp24 stp24.length).getD 1 eAns0).line) (nf (fun _=>3)) 64 0) && true)))=true from an24_3) (.t (show ((decide (((mrA (mNewM_s cfg24) stp24 stp24.length).getD 1 eAns0).e=0)) && ((decide (((mrA (mNewM_s cfg24) stp24 stp24.length).getD 1 eAns0).n=0)) && ((eqA (nf ((mrA (mNewM_s cfg24) stp24 stp24.length).getD 1 eAns0).line) (nf (fun _=>3)) 64 0) && true)))=true from an24_3) (.ix (i:=2) (m:=(mrA (mNewM_s cfg24) stp24 stp24.length).length) (by rw [mrA_len]; decide) (.t (show ((decide (((mrA (mNewM_s cfg24) stp24 stp24.length).getD 1 eAns0).e=0)) && ((decide (((mrA (mNewM_s cfg24) stp24 stp24.length).getD 1 eAns0).n=0)) && ((eqA (nf ((mrA (mNewM_s cfg24) stp24 stp24.length).getD 1 eAns0).line) (nf (fun _=>3)) 64 0) && true)))=true from an24_3) (.el (e:=eAns) (gDx (l:=(mrA (mNewM_s cfg24) stp24 stp24.length)) (i:=2) eAns0 (by rw [mrA_len]; decide)) (.t (show ((decide (((mrA (mNewM_s cfg24) stp24 stp24.length).getD 1 eAns0).e=0)) && ((decide (((mrA (mNewM_s cfg24) stp24 stp24.length).getD 1 eAns0).n=0)) && ((eqA (nf ((mrA (mNewM_s cfg24) stp24 stp24.length).getD 1 eAns0).line) (nf (fun _=>3)) 64 0) && true)))=true from an24_3) (.t (show ((decide (((mrA (mNewM_s cfg24) stp24 stp24.length).getD 1 eAns0).e=0)) && ((decide (((mrA (mNewM_s cfg24) stp24 stp24.length).getD 1 eAns0).n=0)) && ((eqA (nf ((mrA (mNewM_s cfg24) stp24 stp24.length).getD 1 eAns0).line) (nf (fun _=>3)) 64 0) && true)))=true from an24_3) (.t (show ((decide (((mrA (mNewM_s cfg24) stp24 stp24.length).getD 1 eAns0).e=0)) && ((decide (((mrA (mNewM_s cfg24) stp24 stp24.length).getD 1 eAns0).n=0)) && ((eqA (nf ((mrA (mNewM_s cfg24) stp24 stp24.length).getD 1 eAns0).line) (nf (fun _=>3)) 64 0) && true)))=true from an24_3) (.t (show ((decide (((mrA (mNewM_s cfg24) stp24 stp24.length).getD 2 eAns0).e=30)) && ((decide (((mrA (mNewM_s cfg24) stp24 stp24.length).getD 2 eAns0).n=0)) && ((eqA (nf ((mrA (mNewM_s cfg24) stp24 stp24.length).getD 2 eAns0).line) (fun _=>0) 64 0) && true)))=true from an24_4) (.t (show ((decide (((mrA (mNewM_s cfg24) stp24 stp24.length).getD 2 eAns0).e=30)) && ((decide (((mrA (mNewM_s cfg24) stp24 stp24.length).getD 2 eAns0).n=0)) && ((eqA (nf ((mrA (mNewM_s cfg24) stp24 stp24.length).getD 2 eAns0).line) (fun _=>0) 64 0) && true)))=true from an24_4) (.c (ir 2 33) (gIdeal (mrS (mNewM_s cfg24) stp24 stp24.length) 1) (.t (show ((decide (((mrA (mNewM_s cfg24) stp24 stp24.length).getD 2 eAns0).e=30)) && ((decide (((mrA (mNewM_s cfg24) stp24 stp24.length).getD 2 eAns0).n=0)) && ((eqA (nf ((mrA (mNewM_s cfg24) stp24 stp24.length).getD 2 eAns0).line) (fun _=>0) 64 0) && true)))=true from an24_4) (.c [] (fill 3) (.t (show ((decide (((mrA (mNewM_s cfg24) stp24 stp24.length).getD 2 eAns0).e=30)) && ((decide (((mrA (mNewM_s cfg24) stp24 stp24.length).getD 2 eAns0).n=0)) && ((eqA (nf ((mrA (mNewM_s cfg24) stp24 stp24.length).getD 2 eAns0).line) (fun _=>0) 64 0) && true)))=true from an24_4) (.t (show ((decide (((mrA (mNewM_s cfg24) stp24 stp24.length).getD 2 eAns0).e=30)) && ((decide (((mrA (mNewM_s cfg24) stp24 stp24.length).getD 2 eAns0).n=0)) && ((eqA (nf ((mrA (mNewM_s cfg24) stp24 stp24.length).getD 2 eAns0).line) (fun _=>0) 64 0) && true)))=true from an24_4) .nil))))))))))))))))))))))))))))))))))))))))
theorem anc24_t:Sp P 22 [] [] (vt true) []:=by
 have h:=anc24
 rw [show anc24_v0=true by decide +kernel] at h
 exact h
end Go.Proofs.YtoflmffbkdekcaaGreat
