import Derived.Test.YtfhiggfmkjmeiaaGreatFRun
set_option linter.all false
namespace Go.Proofs.YtfhiggfmkjmeiaaGreat
open Go Go.RowKit
set_option maxRecDepth 100000
def R5 (n:Int):Bool:=bif decide (n=1) then true else (bif decide (n=2) then true else (bif decide (n=4) then true else (bif decide (n=8) then true else false)))
theorem A18 (n:Int) :Sp P 113 [vi n,vn 8] [] (vt (R5 n)) []:=by
 generalize d0:R5 n=yd0
 unfold R5 at d0
 rcases bft (decide (n=1)) with q1 | q1
 ·rw [A2 q1] at d0
  subst d0
  exact so Tryz.f113 3 [] (.lu 0 (.y (.t q1 .nil)))
 ·rw [A1 q1] at d0
  rcases bft (decide (n=2)) with q2 | q2
  ·rw [A2 q2] at d0
   subst d0
   exact so Tryz.f113 3 [] (.lu 1 (.y (.t q1 (.y (.t q2 .nil)))))
  ·rw [A1 q2] at d0
   rcases bft (decide (n=4)) with q3 | q3
   ·rw [A2 q3] at d0
    subst d0
    exact so Tryz.f113 3 [] (.lu 2 (.y (.t q1 (.y (.t q2 (.y (.t q3 .nil)))))))
   ·rw [A1 q3] at d0
    rcases bft (decide (n=8)) with q4 | q4
    ·rw [A2 q4] at d0
     subst d0
     exact so Tryz.f113 3 [] (.lu 3 (.y (.t q1 (.y (.t q2 (.y (.t q3 (.y (.t q4 .nil)))))))))
    ·rw [A1 q4] at d0
     subst d0
     exact so Tryz.f113 3 [] (.lu 4 (.y (.t q1 (.y (.t q2 (.y (.t q3 (.y (.t q4 (.n .nil))))))))))
def Oj (n:Int):Bool:=bif decide (n=1) then true else (bif decide (n=2) then true else (bif decide (n=4) then true else (bif decide (n=8) then true else (bif decide (n=16) then true else false))))
theorem Wl (n:Int) :Sp P 113 [vi n,vn 16] [] (vt (Oj n)) []:=by
 generalize d0:Oj n=yd0
 unfold Oj at d0
 rcases bft (decide (n=1)) with q1 | q1
 ·rw [A2 q1] at d0
  subst d0
  exact so Tryz.f113 3 [] (.lu 0 (.y (.t q1 .nil)))
 ·rw [A1 q1] at d0
  rcases bft (decide (n=2)) with q2 | q2
  ·rw [A2 q2] at d0
   subst d0
   exact so Tryz.f113 3 [] (.lu 1 (.y (.t q1 (.y (.t q2 .nil)))))
  ·rw [A1 q2] at d0
   rcases bft (decide (n=4)) with q3 | q3
   ·rw [A2 q3] at d0
    subst d0
    exact so Tryz.f113 3 [] (.lu 2 (.y (.t q1 (.y (.t q2 (.y (.t q3 .nil)))))))
   ·rw [A1 q3] at d0
    rcases bft (decide (n=8)) with q4 | q4
    ·rw [A2 q4] at d0
     subst d0
     exact so Tryz.f113 3 [] (.lu 3 (.y (.t q1 (.y (.t q2 (.y (.t q3 (.y (.t q4 .nil)))))))))
    ·rw [A1 q4] at d0
     rcases bft (decide (n=16)) with q5 | q5
     ·rw [A2 q5] at d0
      subst d0
      exact so Tryz.f113 3 [] (.lu 4 (.y (.t q1 (.y (.t q2 (.y (.t q3 (.y (.t q4 (.y (.t q5 .nil)))))))))))
     ·rw [A1 q5] at d0
      subst d0
      exact so Tryz.f113 3 [] (.lu 5 (.y (.t q1 (.y (.t q2 (.y (.t q3 (.y (.t q4 (.y (.t q5 (.n .nil))))))))))))
def L1 (n:Int):Bool:=bif decide (n=1) then true else (bif decide (n=2) then true else (bif decide (n=4) then true else (bif decide (n=8) then true else (bif decide (n=16) then true else (bif decide (n=32) then true else (bif decide (n=64) then true else (bif decide (n=128) then true else (bif decide (n=256) then true else (bif decide (n=512) then true else (bif decide (n=1024) then true else false))))))))))
theorem R4 (n : Int)  : Sp P 113 [vi n, vn 1024] [] (vt (L1 n)) [] := by
 generalize d0:L1 n=yd0
 unfold L1 at d0
 rcases bft (decide (n=1)) with q1 | q1
 ·rw [A2 q1] at d0
  subst d0
  exact so Tryz.f113 3 [] (.lu 0 (.y (.t q1 .nil)))
 ·rw [A1 q1] at d0
  rcases bft (decide (n=2)) with q2 | q2
  ·rw [A2 q2] at d0
   subst d0
   exact so Tryz.f113 3 [] (.lu 1 (.y (.t q1 (.y (.t q2 .nil)))))
  ·rw [A1 q2] at d0
   rcases bft (decide (n=4)) with q3 | q3
   ·rw [A2 q3] at d0
    subst d0
    exact so Tryz.f113 3 [] (.lu 2 (.y (.t q1 (.y (.t q2 (.y (.t q3 .nil)))))))
   ·rw [A1 q3] at d0
    rcases bft (decide (n=8)) with q4 | q4
    ·rw [A2 q4] at d0
     subst d0
     exact so Tryz.f113 3 [] (.lu 3 (.y (.t q1 (.y (.t q2 (.y (.t q3 (.y (.t q4 .nil)))))))))
    ·rw [A1 q4] at d0
     rcases bft (decide (n=16)) with q5 | q5
     ·rw [A2 q5] at d0
      subst d0
      exact so Tryz.f113 3 [] (.lu 4 (.y (.t q1 (.y (.t q2 (.y (.t q3 (.y (.t q4 (.y (.t q5 .nil)))))))))))
     ·rw [A1 q5] at d0
      rcases bft (decide (n=32)) with q6 | q6
      ·rw [A2 q6] at d0
       subst d0
       exact so Tryz.f113 3 [] (.lu 5 (.y (.t q1 (.y (.t q2 (.y (.t q3 (.y (.t q4 (.y (.t q5 (.y (.t q6 .nil)))))))))))))
      ·rw [A1 q6] at d0
       rcases bft (decide (n=64)) with q7 | q7
       ·rw [A2 q7] at d0
        subst d0
        exact so Tryz.f113 3 [] (.lu 6 (.y (.t q1 (.y (.t q2 (.y (.t q3 (.y (.t q4 (.y (.t q5 (.y (.t q6 (.y (.t q7 .nil)))))))))))))))
       ·rw [A1 q7] at d0
        rcases bft (decide (n=128)) with q8 | q8
        ·rw [A2 q8] at d0
         subst d0
         exact so Tryz.f113 3 [] (.lu 7 (.y (.t q1 (.y (.t q2 (.y (.t q3 (.y (.t q4 (.y (.t q5 (.y (.t q6 (.y (.t q7 (.y (.t q8 .nil)))))))))))))))))
        ·rw [A1 q8] at d0
         rcases bft (decide (n=256)) with q9 | q9
         ·rw [A2 q9] at d0
          subst d0
          exact so Tryz.f113 3 [] (.lu 8 (.y (.t q1 (.y (.t q2 (.y (.t q3 (.y (.t q4 (.y (.t q5 (.y (.t q6 (.y (.t q7 (.y (.t q8 (.y (.t q9 .nil)))))))))))))))))))
         ·rw [A1 q9] at d0
          rcases bft (decide (n=512)) with q10 | q10
          ·rw [A2 q10] at d0
           subst d0
           exact so Tryz.f113 3 [] (.lu 9 (.y (.t q1 (.y (.t q2 (.y (.t q3 (.y (.t q4 (.y (.t q5 (.y (.t q6 (.y (.t q7 (.y (.t q8 (.y (.t q9 (.y (.t q10 .nil)))))))))))))))))))))
          ·rw [A1 q10] at d0
           rcases bft (decide (n=1024)) with q11 | q11
           ·rw [A2 q11] at d0
            subst d0
            exact so Tryz.f113 3 [] (.lu 10 (.y (.t q1 (.y (.t q2 (.y (.t q3 (.y (.t q4 (.y (.t q5 (.y (.t q6 (.y (.t q7 (.y (.t q8 (.y (.t q9 (.y (.t q10 (.y (.t q11 .nil)))))))))))))))))))))))
           ·rw [A1 q11] at d0
            subst d0
            exact so Tryz.f113 3 [] (.lu 11 (.y (.t q1 (.y (.t q2 (.y (.t q3 (.y (.t q4 (.y (.t q5 (.y (.t q6 (.y (.t q7 (.y (.t q8 (.y (.t q9 (.y (.t q10 (.y (.t q11 (.n .nil))))))))))))))))))))))))
def Ok (n:Int):Bool:=bif decide (n=1) then true else (bif decide (n=2) then true else (bif decide (n=4) then true else (bif decide (n=8) then true else (bif decide (n=16) then true else (bif decide (n=32) then true else (bif decide (n=64) then true else false))))))
theorem A6j (n : Int)  : Sp P 113 [vi n, vn 64] [] (vt (Ok n)) [] := by
 generalize d0:Ok n=yd0
 unfold Ok at d0
 rcases bft (decide (n=1)) with q1 | q1
 ·rw [A2 q1] at d0
  subst d0
  exact so Tryz.f113 3 [] (.lu 0 (.y (.t q1 .nil)))
 ·rw [A1 q1] at d0
  rcases bft (decide (n=2)) with q2 | q2
  ·rw [A2 q2] at d0
   subst d0
   exact so Tryz.f113 3 [] (.lu 1 (.y (.t q1 (.y (.t q2 .nil)))))
  ·rw [A1 q2] at d0
   rcases bft (decide (n=4)) with q3 | q3
   ·rw [A2 q3] at d0
    subst d0
    exact so Tryz.f113 3 [] (.lu 2 (.y (.t q1 (.y (.t q2 (.y (.t q3 .nil)))))))
   ·rw [A1 q3] at d0
    rcases bft (decide (n=8)) with q4 | q4
    ·rw [A2 q4] at d0
     subst d0
     exact so Tryz.f113 3 [] (.lu 3 (.y (.t q1 (.y (.t q2 (.y (.t q3 (.y (.t q4 .nil)))))))))
    ·rw [A1 q4] at d0
     rcases bft (decide (n=16)) with q5 | q5
     ·rw [A2 q5] at d0
      subst d0
      exact so Tryz.f113 3 [] (.lu 4 (.y (.t q1 (.y (.t q2 (.y (.t q3 (.y (.t q4 (.y (.t q5 .nil)))))))))))
     ·rw [A1 q5] at d0
      rcases bft (decide (n=32)) with q6 | q6
      ·rw [A2 q6] at d0
       subst d0
       exact so Tryz.f113 3 [] (.lu 5 (.y (.t q1 (.y (.t q2 (.y (.t q3 (.y (.t q4 (.y (.t q5 (.y (.t q6 .nil)))))))))))))
      ·rw [A1 q6] at d0
       rcases bft (decide (n=64)) with q7 | q7
       ·rw [A2 q7] at d0
        subst d0
        exact so Tryz.f113 3 [] (.lu 6 (.y (.t q1 (.y (.t q2 (.y (.t q3 (.y (.t q4 (.y (.t q5 (.y (.t q6 (.y (.t q7 .nil)))))))))))))))
       ·rw [A1 q7] at d0
        subst d0
        exact so Tryz.f113 3 [] (.lu 7 (.y (.t q1 (.y (.t q2 (.y (.t q3 (.y (.t q4 (.y (.t q5 (.y (.t q6 (.y (.t q7 (.n .nil))))))))))))))))
def Uq (g:Gm):Bool:=bif (R5 g.ranks) then (bif (Oj g.banks) then (bif (L1 g.rows) then (bif (Ok g.cols) then (bif decide (g.spares < 0) then false else (bif decide (IntKind.i64.wrap (8 - g.ranks) < g.spares) then false else (decide (IntKind.i64.wrap ((IntKind.i64.wrap ((IntKind.i64.wrap ((IntKind.i64.wrap (g.ranks + g.spares)) * g.banks)) * g.rows)) * g.cols)<=4096)))) else false) else false) else false) else false
theorem B0t (g:Gm) :Sp P 44 [.ag [vi g.ranks,vi g.spares,vi g.banks,vi g.rows,vi g.cols]] [] (vt (Uq g)) []:=by
 generalize d0:Uq g=yd0
 unfold Uq at d0
 rcases bft (R5 g.ranks) with q1 | q1
 ·rw [A2 q1] at d0
  rcases bft (Oj g.banks) with q2 | q2
  ·rw [A2 q2] at d0
   rcases bft (L1 g.rows) with q3 | q3
   ·rw [A2 q3] at d0
    rcases bft (Ok g.cols) with q4 | q4
    ·rw [A2 q4] at d0
     rcases bft (decide (g.spares < 0)) with q5 | q5
     ·rw [A2 q5] at d0
      subst d0
      exact so Tryz.f44 3 [] (.c [] (A18 g.ranks) (.g2 q1 (.g q1 (.c [] (Wl g.banks) (.g2 q1 (.g2 q2 (.g q2 (.c [] (R4 g.rows) (.g2 q2 (.g2 q3 (.g q3 (.c [] (A6j g.cols) (.g2 q3 (.g4 q4 (.t4 q5 (.t2 q5 (.t q5 (.y .nil))))))))))))))))))
     ·rw [A1 q5] at d0
      rcases bft (decide (IntKind.i64.wrap (8 - g.ranks) < g.spares)) with q6 | q6
      ·rw [A2 q6] at d0
       subst d0
       exact so Tryz.f44 3 [] (.c [] (A18 g.ranks) (.g2 q1 (.g q1 (.c [] (Wl g.banks) (.g2 q1 (.g2 q2 (.g q2 (.c [] (R4 g.rows) (.g2 q2 (.g2 q3 (.g q3 (.c [] (A6j g.cols) (.g2 q3 (.g4 q4 (.t4 q5 (.t2 q5 (.t q5 (.t q6 .nil))))))))))))))))))
      ·rw [A1 q6] at d0
       subst d0
       exact so Tryz.f44 3 [] (.c [] (A18 g.ranks) (.g2 q1 (.g q1 (.c [] (Wl g.banks) (.g2 q1 (.g2 q2 (.g q2 (.c [] (R4 g.rows) (.g2 q2 (.g2 q3 (.g q3 (.c [] (A6j g.cols) (.g2 q3 (.g4 q4 (.t4 q5 (.t2 q5 (.t q5 (.t q6 .nil))))))))))))))))))
    ·rw [A1 q4] at d0
     subst d0
     exact so Tryz.f44 3 [] (.c [] (A18 g.ranks) (.g2 q1 (.g q1 (.c [] (Wl g.banks) (.g2 q1 (.g2 q2 (.g q2 (.c [] (R4 g.rows) (.g2 q2 (.g2 q3 (.g q3 (.c [] (A6j g.cols) (.g2 q3 (.g4 q4 (.y4 (.y4 .nil))))))))))))))))
   ·rw [A1 q3] at d0
    subst d0
    exact so Tryz.f44 3 [] (.c [] (A18 g.ranks) (.g2 q1 (.g q1 (.c [] (Wl g.banks) (.g2 q1 (.g2 q2 (.g q2 (.c [] (R4 g.rows) (.g2 q2 (.g4 q3 (.g q3 (.y4 (.y4 (.y4 .nil))))))))))))))
  ·rw [A1 q2] at d0
   subst d0
   exact so Tryz.f44 3 [] (.c [] (A18 g.ranks) (.g2 q1 (.g q1 (.c [] (Wl g.banks) (.g2 q1 (.g4 q2 (.g q2 (.y4 (.y4 (.y4 (.y4 (.y .nil))))))))))))
 ·rw [A1 q1] at d0
  subst d0
  exact so Tryz.f44 3 [] (.c [] (A18 g.ranks) (.g4 q1 (.g q1 (.y4 (.y4 (.y4 (.y4 (.y4 (.y2 .nil)))))))))
def A85 (v:Nat):Nat->Nat->Int
 | 0=>fun _=>0
 | i + 1=>upI (A85 v i) i (v:Int)
theorem A86 (v:Nat):∀ i j,A85 v i j=if j < i then (v:Int) else 0
 | 0,j=>rfl
 | i + 1,j=>by
   show upI (A85 v i) i _ j=_
   unfold upI
   rw [A86 v i j]
   split
   ·rename_i e; rw [if_pos (by omega)]
   ·rename_i e
    by_cases hj:j < i
    ·rw [if_pos hj,if_pos (by omega)]
    ·rw [if_neg hj,if_neg (by omega)]
theorem Alu (v:Nat) :Sp P 91 [vb v] [] (.ar .u8 64 (A85 v 64)) [] :=
 so Tryz.f91 4 [] (.lp 64 3 [] [] (fun i=>[(5,vn i)]) (fun i=>[(2,.blk [.ar .u8 64 (A85 v i)] 43)]) (fun i hi=>(.t (sQT ((i:Int) < 64) (by omega)) (.ix (i:=i) (m:=64) (by omega) (.lt (i:=i) (n:=64) (by omega) (.e 11 (Ck (a:=(i:Int)) (b:=1) (c:=((i + 1:Nat):Int)) (by omega)) .nil))))) (.n .nil))
theorem fill (v:Nat):Sp P 91 [vb v] [] (.ar .u8 64 (nf (fun _=>v))) []:=(Alu v).resE (K4 fun j hj=>by rw [A86,if_pos hj]; rfl) rfl rfl rfl
theorem Kx {c:Cfg} (h:A8 c=true):MchOk 8388608 (Ac c):=by
 have hc:=Ho h
 have hg:=Gm.rt (C0 hc.1).1
 have hn:CtlOk 8388608 (Lh c):=(Acv (Aeb h) (by show c.ly.g.cols.toNat<=64; omega) (by show c.ly.g.rows.toNat<=1024; omega) (by show c.ly.g.banks.toNat<=16; omega) (cRk c)).mono (by unfold cRk; omega)
 refine ⟨hn,fun _ _=>(by decide:(0:Nat) < 256),Nat.zero_le _,Nat.zero_le _,?_⟩
 show Bc (Lh c).le.c.ly=true
 have h1:∀ s r b w k,(nwC s r b w k).le.c=s.le.c:=fun s r b w k=>by induction k with | zero=>rfl | succ k ih=>exact (Sx _ _ _ _).trans ih
 have h2:∀ s r b C w,(nwW s r b C w).le.c=s.le.c:=fun s r b C w=>by induction w with | zero=>rfl | succ w ih=>exact (h1 _ _ _ _ _).trans ih
 have h3:∀ s r W C b,(nwB s r W C b).le.c=s.le.c:=fun s r W C b=>by induction b with | zero=>rfl | succ b ih=>exact (h2 _ _ _ _ _).trans ih
 have h4:∀ s B W C r,(nwR s B W C r).le.c=s.le.c:=fun s B W C r=>by induction r with | zero=>rfl | succ r ih=>exact (h3 _ _ _ _ _).trans ih
 rw [show (Lh c).le.c=(Mh c).le.c from h4 _ _ _ _ _]
 exact hc.1
def Lr (c:Cfg) (x:Stp):Bool:=bif (Br x) then (bif (decide (x.kind<=3)) then (bif (decide (0<=x.line)) then (bif (decide (x.line < IntKind.i64.wrap ((A0 c.ly) * c.ly.g.cols))) then (bif (decide (x.kind=3)) then (!(decide ((x.mask:Int)=0))) else true) else false) else false) else false) else false
