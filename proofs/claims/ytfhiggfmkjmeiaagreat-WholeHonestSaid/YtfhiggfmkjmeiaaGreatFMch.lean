import Derived.Test.YtfhiggfmkjmeiaaGreatFxX
import Derived.Test.YtfhiggfmkjmeiaaGreatFCtl
set_option linter.unusedVariables false
set_option linter.unusedSimpArgs false
set_option linter.unusedSectionVars false
namespace Go.Proofs.YtfhiggfmkjmeiaaGreat
open Go Go.RowKit
set_option maxRecDepth 100000
def sbare_v0 (k:Int) (ln:Int) (d:Nat->Nat) (m:Nat) (f0:Int) (f1:Int) (f2:Int) (f3:Int) (f4:Int) (f5:Int) (f6:Int) (f7:Int):Int:=bif decide (k=1) then ln else (bif decide (k=2) then ln else (bif decide (k=3) then ln else 0))
def sbare_v1 (k:Int) (ln:Int) (d:Nat->Nat) (m:Nat) (f0:Int) (f1:Int) (f2:Int) (f3:Int) (f4:Int) (f5:Int) (f6:Int) (f7:Int):Nat->Nat:=bif decide (k=1) then (fun _=>0) else (bif decide (k=2) then d else (bif decide (k=3) then d else (fun _=>0)))
def sbare_v2 (k:Int) (ln:Int) (d:Nat->Nat) (m:Nat) (f0:Int) (f1:Int) (f2:Int) (f3:Int) (f4:Int) (f5:Int) (f6:Int) (f7:Int):Nat:=bif decide (k=1) then 0 else (bif decide (k=2) then 0 else (bif decide (k=3) then m else 0))
theorem sbare (k:Int) (ln:Int) (d:Nat->Nat) (m:Nat) (f0:Int) (f1:Int) (f2:Int) (f3:Int) (f4:Int) (f5:Int) (f6:Int) (f7:Int) (h8:decide (k=8)=false):Sp P 135 [.ag [vi k,vi ln,.ar .u8 64 (nf d),vu m,vi f0,vi f1,vi f2,vi f3,vi f4,vi f5,vi f6,vi f7]] [] (.ag [vi k,vi (sbare_v0 k ln d m f0 f1 f2 f3 f4 f5 f6 f7),.ar .u8 64 (nf (sbare_v1 k ln d m f0 f1 f2 f3 f4 f5 f6 f7)),vu (sbare_v2 k ln d m f0 f1 f2 f3 f4 f5 f6 f7),vn 0,vn 0,vn 0,vn 0,vn 0,vn 0,vn 0,vn 0]) []:=by
 generalize d0:sbare_v0 k ln d m f0 f1 f2 f3 f4 f5 f6 f7=yd0
 unfold sbare_v0 at d0
 generalize d1:sbare_v1 k ln d m f0 f1 f2 f3 f4 f5 f6 f7=yd1
 unfold sbare_v1 at d1
 generalize d2:sbare_v2 k ln d m f0 f1 f2 f3 f4 f5 f6 f7=yd2
 unfold sbare_v2 at d2
 rcases bft (decide (k=1)) with q1 | q1
 ·rw [cpos q1] at d0
  rw [cpos q1] at d1
  rw [cpos q1] at d2
  subst d0 d1 d2
  exact so Tryz.f135 5 [] (.t q1 .nil)
 ·rw [cneg q1] at d0
  rw [cneg q1] at d1
  rw [cneg q1] at d2
  rcases bft (decide (k=2)) with q2 | q2
  ·rw [cpos q2] at d0
   rw [cpos q2] at d1
   rw [cpos q2] at d2
   subst d0 d1 d2
   exact so Tryz.f135 5 [] (.t q1 (.t q2 .nil))
  ·rw [cneg q2] at d0
   rw [cneg q2] at d1
   rw [cneg q2] at d2
   rcases bft (decide (k=3)) with q3 | q3
   ·rw [cpos q3] at d0
    rw [cpos q3] at d1
    rw [cpos q3] at d2
    subst d0 d1 d2
    exact so Tryz.f135 5 [] (.t q1 (.t q2 (.t q3 .nil)))
   ·rw [cneg q3] at d0
    rw [cneg q3] at d1
    rw [cneg q3] at d2
    subst d0 d1 d2
    exact so Tryz.f135 5 [] (.t q1 (.t q2 (.t q3 (.t h8 .nil))))
theorem numbers8_1 (k:Int) (ln:Int) (d:Nat->Nat) (m:Nat) (f1:Int) (f2:Int) (f3:Int) (f4:Int) (f5:Int) (f6:Int) (f7:Int) :Sp P 207 [.pt 0 67] [.blk [vi k,vi ln,.ar .u8 64 (nf d),vu m,vn 1,vi f1,vi f2,vi f3,vi f4,vi f5,vi f6,vi f7] 50] (.sg 1 0 1 5) [.blk [vi k,vi ln,.ar .u8 64 (nf d),vu m,vn 1,vi f1,vi f2,vi f3,vi f4,vi f5,vi f6,vi f7] 50,.blk [.pt 0 68,.pt 0 69,.pt 0 70,.pt 0 71,.pt 0 73] 331] :=
 so Tryz.f207 3 [.id 0,.id 2] (.y .nil)
theorem numbers8_2 (k:Int) (ln:Int) (d:Nat->Nat) (m:Nat) (f1:Int) (f2:Int) (f3:Int) (f4:Int) (f5:Int) (f6:Int) (f7:Int) :Sp P 207 [.pt 0 67] [.blk [vi k,vi ln,.ar .u8 64 (nf d),vu m,vn 2,vi f1,vi f2,vi f3,vi f4,vi f5,vi f6,vi f7] 50] (.sg 1 0 1 6) [.blk [vi k,vi ln,.ar .u8 64 (nf d),vu m,vn 2,vi f1,vi f2,vi f3,vi f4,vi f5,vi f6,vi f7] 50,.blk [.pt 0 68,.pt 0 69,.pt 0 70,.pt 0 71,.pt 0 73,.pt 0 74] 331] :=
 so Tryz.f207 3 [.id 0,.id 2] (.n (.y .nil))
theorem numbers8_3 (k:Int) (ln:Int) (d:Nat->Nat) (m:Nat) (f1:Int) (f2:Int) (f3:Int) (f4:Int) (f5:Int) (f6:Int) (f7:Int) :Sp P 207 [.pt 0 67] [.blk [vi k,vi ln,.ar .u8 64 (nf d),vu m,vn 3,vi f1,vi f2,vi f3,vi f4,vi f5,vi f6,vi f7] 50] (.sg 1 0 1 5) [.blk [vi k,vi ln,.ar .u8 64 (nf d),vu m,vn 3,vi f1,vi f2,vi f3,vi f4,vi f5,vi f6,vi f7] 50,.blk [.pt 0 68,.pt 0 69,.pt 0 70,.pt 0 72,.pt 0 74] 331] :=
 so Tryz.f207 3 [.id 0,.id 2] (.n2 (.y .nil))
theorem numbers8_4 (k:Int) (ln:Int) (d:Nat->Nat) (m:Nat) (f1:Int) (f2:Int) (f3:Int) (f4:Int) (f5:Int) (f6:Int) (f7:Int) :Sp P 207 [.pt 0 67] [.blk [vi k,vi ln,.ar .u8 64 (nf d),vu m,vn 4,vi f1,vi f2,vi f3,vi f4,vi f5,vi f6,vi f7] 50] (.sg 1 0 1 5) [.blk [vi k,vi ln,.ar .u8 64 (nf d),vu m,vn 4,vi f1,vi f2,vi f3,vi f4,vi f5,vi f6,vi f7] 50,.blk [.pt 0 68,.pt 0 69,.pt 0 71,.pt 0 72,.pt 0 74] 331] :=
 so Tryz.f207 3 [.id 0,.id 2] (.n2 (.n (.y .nil)))
theorem numbers8_5 (k:Int) (ln:Int) (d:Nat->Nat) (m:Nat) (f1:Int) (f2:Int) (f3:Int) (f4:Int) (f5:Int) (f6:Int) (f7:Int) :Sp P 207 [.pt 0 67] [.blk [vi k,vi ln,.ar .u8 64 (nf d),vu m,vn 5,vi f1,vi f2,vi f3,vi f4,vi f5,vi f6,vi f7] 50] (.sg 1 0 1 3) [.blk [vi k,vi ln,.ar .u8 64 (nf d),vu m,vn 5,vi f1,vi f2,vi f3,vi f4,vi f5,vi f6,vi f7] 50,.blk [.pt 0 68,.pt 0 72,.pt 0 74] 331] :=
 so Tryz.f207 3 [.id 0,.id 2] (.n4 (.y .nil))
theorem numbers8_6 (k:Int) (ln:Int) (d:Nat->Nat) (m:Nat) (f1:Int) (f2:Int) (f3:Int) (f4:Int) (f5:Int) (f6:Int) (f7:Int) :Sp P 207 [.pt 0 67] [.blk [vi k,vi ln,.ar .u8 64 (nf d),vu m,vn 6,vi f1,vi f2,vi f3,vi f4,vi f5,vi f6,vi f7] 50] (.sg 1 0 1 4) [.blk [vi k,vi ln,.ar .u8 64 (nf d),vu m,vn 6,vi f1,vi f2,vi f3,vi f4,vi f5,vi f6,vi f7] 50,.blk [.pt 0 68,.pt 0 69,.pt 0 70,.pt 0 71] 331] :=
 so Tryz.f207 3 [.id 0,.id 2] (.n4 (.n (.y .nil)))
theorem numbers8_7 (k:Int) (ln:Int) (d:Nat->Nat) (m:Nat) (f1:Int) (f2:Int) (f3:Int) (f4:Int) (f5:Int) (f6:Int) (f7:Int) :Sp P 207 [.pt 0 67] [.blk [vi k,vi ln,.ar .u8 64 (nf d),vu m,vn 7,vi f1,vi f2,vi f3,vi f4,vi f5,vi f6,vi f7] 50] (nilS) [.blk [vi k,vi ln,.ar .u8 64 (nf d),vu m,vn 7,vi f1,vi f2,vi f3,vi f4,vi f5,vi f6,vi f7] 50] :=
 so Tryz.f207 3 [.id 0] (.n4 (.n2 .nil))
theorem sbare8_1 (ln:Int) (d:Nat->Nat) (m:Nat) (f1:Int) (f2:Int) (f3:Int) (f4:Int) (f5:Int) (f6:Int) (f7:Int) :Sp P 135 [.ag [vn 8,vi ln,.ar .u8 64 (nf d),vu m,vn 1,vi f1,vi f2,vi f3,vi f4,vi f5,vi f6,vi f7]] [] (.ag [vi 8,vi 0,.ar .u8 64 (nf (fun _=>0)),vu 0,vn 1,vi f1,vi f2,vi f3,vi f4,vi 0,vi f6,vi 0]) [] :=
 so Tryz.f135 12 [] (.n2 (.n (.y (.c [.id 3] (numbers8_1 8 0 (fun _=>0) 0 0 0 0 0 0 0 0) (.c [.id 1] (numbers8_1 8 ln d m f1 f2 f3 f4 f5 f6 f7) (.lu 5 (.y (.ix (i:=0) (m:=5) (by decide) (.ix (i:=0) (m:=5) (by decide) (.y (.ix (i:=1) (m:=5) (by decide) (.ix (i:=1) (m:=5) (by decide) (.y (.ix (i:=2) (m:=5) (by decide) (.ix (i:=2) (m:=5) (by decide) (.y (.ix (i:=3) (m:=5) (by decide) (.ix (i:=3) (m:=5) (by decide) (.y (.ix (i:=4) (m:=5) (by decide) (.ix (i:=4) (m:=5) (by decide) (.n .nil))))))))))))))))))))))
theorem sbare8_2 (ln:Int) (d:Nat->Nat) (m:Nat) (f1:Int) (f2:Int) (f3:Int) (f4:Int) (f5:Int) (f6:Int) (f7:Int) :Sp P 135 [.ag [vn 8,vi ln,.ar .u8 64 (nf d),vu m,vn 2,vi f1,vi f2,vi f3,vi f4,vi f5,vi f6,vi f7]] [] (.ag [vi 8,vi 0,.ar .u8 64 (nf (fun _=>0)),vu 0,vn 2,vi f1,vi f2,vi f3,vi f4,vi 0,vi f6,vi f7]) [] :=
 so Tryz.f135 13 [] (.n2 (.n (.y (.c [.id 3] (numbers8_2 8 0 (fun _=>0) 0 0 0 0 0 0 0 0) (.c [.id 1] (numbers8_2 8 ln d m f1 f2 f3 f4 f5 f6 f7) (.lu 6 (.y (.ix (i:=0) (m:=6) (by decide) (.ix (i:=0) (m:=6) (by decide) (.y (.ix (i:=1) (m:=6) (by decide) (.ix (i:=1) (m:=6) (by decide) (.y (.ix (i:=2) (m:=6) (by decide) (.ix (i:=2) (m:=6) (by decide) (.y (.ix (i:=3) (m:=6) (by decide) (.ix (i:=3) (m:=6) (by decide) (.y (.ix (i:=4) (m:=6) (by decide) (.ix (i:=4) (m:=6) (by decide) (.y (.ix (i:=5) (m:=6) (by decide) (.ix (i:=5) (m:=6) (by decide) (.n .nil)))))))))))))))))))))))))
theorem sbare8_3 (ln:Int) (d:Nat->Nat) (m:Nat) (f1:Int) (f2:Int) (f3:Int) (f4:Int) (f5:Int) (f6:Int) (f7:Int) :Sp P 135 [.ag [vn 8,vi ln,.ar .u8 64 (nf d),vu m,vn 3,vi f1,vi f2,vi f3,vi f4,vi f5,vi f6,vi f7]] [] (.ag [vi 8,vi 0,.ar .u8 64 (nf (fun _=>0)),vu 0,vn 3,vi f1,vi f2,vi f3,vi 0,vi f5,vi 0,vi f7]) [] :=
 so Tryz.f135 12 [] (.n2 (.n (.y (.c [.id 3] (numbers8_3 8 0 (fun _=>0) 0 0 0 0 0 0 0 0) (.c [.id 1] (numbers8_3 8 ln d m f1 f2 f3 f4 f5 f6 f7) (.lu 5 (.y (.ix (i:=0) (m:=5) (by decide) (.ix (i:=0) (m:=5) (by decide) (.y (.ix (i:=1) (m:=5) (by decide) (.ix (i:=1) (m:=5) (by decide) (.y (.ix (i:=2) (m:=5) (by decide) (.ix (i:=2) (m:=5) (by decide) (.y (.ix (i:=3) (m:=5) (by decide) (.ix (i:=3) (m:=5) (by decide) (.y (.ix (i:=4) (m:=5) (by decide) (.ix (i:=4) (m:=5) (by decide) (.n .nil))))))))))))))))))))))
theorem sbare8_4 (ln:Int) (d:Nat->Nat) (m:Nat) (f1:Int) (f2:Int) (f3:Int) (f4:Int) (f5:Int) (f6:Int) (f7:Int) :Sp P 135 [.ag [vn 8,vi ln,.ar .u8 64 (nf d),vu m,vn 4,vi f1,vi f2,vi f3,vi f4,vi f5,vi f6,vi f7]] [] (.ag [vi 8,vi 0,.ar .u8 64 (nf (fun _=>0)),vu 0,vn 4,vi f1,vi f2,vi 0,vi f4,vi f5,vi 0,vi f7]) [] :=
 so Tryz.f135 12 [] (.n2 (.n (.y (.c [.id 3] (numbers8_4 8 0 (fun _=>0) 0 0 0 0 0 0 0 0) (.c [.id 1] (numbers8_4 8 ln d m f1 f2 f3 f4 f5 f6 f7) (.lu 5 (.y (.ix (i:=0) (m:=5) (by decide) (.ix (i:=0) (m:=5) (by decide) (.y (.ix (i:=1) (m:=5) (by decide) (.ix (i:=1) (m:=5) (by decide) (.y (.ix (i:=2) (m:=5) (by decide) (.ix (i:=2) (m:=5) (by decide) (.y (.ix (i:=3) (m:=5) (by decide) (.ix (i:=3) (m:=5) (by decide) (.y (.ix (i:=4) (m:=5) (by decide) (.ix (i:=4) (m:=5) (by decide) (.n .nil))))))))))))))))))))))
theorem sbare8_5 (ln:Int) (d:Nat->Nat) (m:Nat) (f1:Int) (f2:Int) (f3:Int) (f4:Int) (f5:Int) (f6:Int) (f7:Int) :Sp P 135 [.ag [vn 8,vi ln,.ar .u8 64 (nf d),vu m,vn 5,vi f1,vi f2,vi f3,vi f4,vi f5,vi f6,vi f7]] [] (.ag [vi 8,vi 0,.ar .u8 64 (nf (fun _=>0)),vu 0,vn 5,vi f1,vi 0,vi 0,vi 0,vi f5,vi 0,vi f7]) [] :=
 so Tryz.f135 10 [] (.n2 (.n (.y (.c [.id 3] (numbers8_5 8 0 (fun _=>0) 0 0 0 0 0 0 0 0) (.c [.id 1] (numbers8_5 8 ln d m f1 f2 f3 f4 f5 f6 f7) (.lu 3 (.y (.ix (i:=0) (m:=3) (by decide) (.ix (i:=0) (m:=3) (by decide) (.y (.ix (i:=1) (m:=3) (by decide) (.ix (i:=1) (m:=3) (by decide) (.y (.ix (i:=2) (m:=3) (by decide) (.ix (i:=2) (m:=3) (by decide) (.n .nil))))))))))))))))
theorem sbare8_6 (ln:Int) (d:Nat->Nat) (m:Nat) (f1:Int) (f2:Int) (f3:Int) (f4:Int) (f5:Int) (f6:Int) (f7:Int) :Sp P 135 [.ag [vn 8,vi ln,.ar .u8 64 (nf d),vu m,vn 6,vi f1,vi f2,vi f3,vi f4,vi f5,vi f6,vi f7]] [] (.ag [vi 8,vi 0,.ar .u8 64 (nf (fun _=>0)),vu 0,vn 6,vi f1,vi f2,vi f3,vi f4,vi 0,vi 0,vi 0]) [] :=
 so Tryz.f135 11 [] (.n2 (.n (.y (.c [.id 3] (numbers8_6 8 0 (fun _=>0) 0 0 0 0 0 0 0 0) (.c [.id 1] (numbers8_6 8 ln d m f1 f2 f3 f4 f5 f6 f7) (.lu 4 (.y (.ix (i:=0) (m:=4) (by decide) (.ix (i:=0) (m:=4) (by decide) (.y (.ix (i:=1) (m:=4) (by decide) (.ix (i:=1) (m:=4) (by decide) (.y (.ix (i:=2) (m:=4) (by decide) (.ix (i:=2) (m:=4) (by decide) (.y (.ix (i:=3) (m:=4) (by decide) (.ix (i:=3) (m:=4) (by decide) (.n .nil)))))))))))))))))))
theorem sbare8_7 (ln:Int) (d:Nat->Nat) (m:Nat) (f1:Int) (f2:Int) (f3:Int) (f4:Int) (f5:Int) (f6:Int) (f7:Int) :Sp P 135 [.ag [vn 8,vi ln,.ar .u8 64 (nf d),vu m,vn 7,vi f1,vi f2,vi f3,vi f4,vi f5,vi f6,vi f7]] [] (.ag [vi 8,vi 0,.ar .u8 64 (nf (fun _=>0)),vu 0,vn 7,vi 0,vi 0,vi 0,vi 0,vi 0,vi 0,vi 0]) [] :=
 so Tryz.f135 5 [] (.n2 (.n (.y (.c [.id 3] (numbers8_7 8 0 (fun _=>0) 0 0 0 0 0 0 0 0) (.c [.id 1] (numbers8_7 8 ln d m f1 f2 f3 f4 f5 f6 f7) (.lu 0 (.n .nil)))))))
def sright_c0 (k:Int) (ln:Int) (d:Nat->Nat) (m:Nat) (f0:Int) (f1:Int) (f2:Int) (f3:Int) (f4:Int) (f5:Int) (f6:Int) (f7:Int):=((decide (k=k)) && ((decide (ln=(sbare_v0 k ln d m f0 f1 f2 f3 f4 f5 f6 f7))) && ((eqA (nf d) (nf (sbare_v1 k ln d m f0 f1 f2 f3 f4 f5 f6 f7)) 64 0) && ((decide (((m:Nat):Int)=(((sbare_v2 k ln d m f0 f1 f2 f3 f4 f5 f6 f7):Nat):Int))) && (((decide (f0=0)) && (((decide (f1=0)) && ((decide (f2=0)) && ((decide (f3=0)) && ((decide (f4=0)) && true)))) && ((decide (f5=0)) && ((decide (f6=0)) && ((decide (f7=0)) && true))))) && true)))))
def sright_v0 (k:Int) (ln:Int) (d:Nat->Nat) (m:Nat) (f0:Int) (f1:Int) (f2:Int) (f3:Int) (f4:Int) (f5:Int) (f6:Int) (f7:Int):Bool:=bif decide (k < 1) then false else (bif decide (8 < k) then false else (bif (sright_c0 k ln d m f0 f1 f2 f3 f4 f5 f6 f7) then true else false))
theorem sright (k:Int) (ln:Int) (d:Nat->Nat) (m:Nat) (f0:Int) (f1:Int) (f2:Int) (f3:Int) (f4:Int) (f5:Int) (f6:Int) (f7:Int) (h8:decide (k=8)=false):Sp P 66 [.ag [vi k,vi ln,.ar .u8 64 (nf d),vu m,vi f0,vi f1,vi f2,vi f3,vi f4,vi f5,vi f6,vi f7]] [] (vt (sright_v0 k ln d m f0 f1 f2 f3 f4 f5 f6 f7)) []:=by
 generalize d0:sright_v0 k ln d m f0 f1 f2 f3 f4 f5 f6 f7=yd0
 unfold sright_v0 at d0
 rcases bft (decide (k < 1)) with q1 | q1
 ·rw [cpos q1] at d0
  subst d0
  exact so Tryz.f66 3 [] (.t4 q1 (.y4 (.y2 .nil)))
 ·rw [cneg q1] at d0
  have q1':=of_decide_eq_false q1
  rcases bft (decide (8 < k)) with q2 | q2
  ·rw [cpos q2] at d0
   subst d0
   exact so Tryz.f66 3 [] (.t4 q1 (.t4 q2 (.t q2 (.y .nil))))
  ·rw [cneg q2] at d0
   have q2':=of_decide_eq_false q2
   rcases bft (sright_c0 k ln d m f0 f1 f2 f3 f4 f5 f6 f7) with q3 | q3
   ·rw [cpos q3] at d0
    subst d0
    exact so Tryz.f66 4 [] (.t4 q1 (.t2 q2 (.t q2 (.c [] (sbare k ln d m f0 f1 f2 f3 f4 f5 f6 f7 (by first | assumption | omega)) (.t2 q2 (.g q3 (.g h8 (.g h8 (.g h8 (.g h8 (.g h8 (.g h8 (.g h8 .nil)))))))))))))
   ·rw [cneg q3] at d0
    subst d0
    exact so Tryz.f66 4 [] (.t4 q1 (.t2 q2 (.t q2 (.c [] (sbare k ln d m f0 f1 f2 f3 f4 f5 f6 f7 (by first | assumption | omega)) (.t2 q2 (.g q3 .nil))))))
def sright8_1_c0 (ln:Int) (d:Nat->Nat) (m:Nat) (f1:Int) (f2:Int) (f3:Int) (f4:Int) (f5:Int) (f6:Int) (f7:Int):=(true && ((decide (ln=0)) && ((eqA (nf d) (nf (fun _=>0)) 64 0) && ((decide (((m:Nat):Int)=0)) && ((true && (((decide (f1=f1)) && ((decide (f2=f2)) && ((decide (f3=f3)) && ((decide (f4=f4)) && true)))) && ((decide (f5=0)) && ((decide (f6=f6)) && ((decide (f7=0)) && true))))) && true)))))
def sright8_1_v0 (ln:Int) (d:Nat->Nat) (m:Nat) (f1:Int) (f2:Int) (f3:Int) (f4:Int) (f5:Int) (f6:Int) (f7:Int):Bool:=bif (sright8_1_c0 ln d m f1 f2 f3 f4 f5 f6 f7) then true else false
theorem sright8_1 (ln:Int) (d:Nat->Nat) (m:Nat) (f1:Int) (f2:Int) (f3:Int) (f4:Int) (f5:Int) (f6:Int) (f7:Int) :Sp P 66 [.ag [vn 8,vi ln,.ar .u8 64 (nf d),vu m,vn 1,vi f1,vi f2,vi f3,vi f4,vi f5,vi f6,vi f7]] [] (vt (sright8_1_v0 ln d m f1 f2 f3 f4 f5 f6 f7)) []:=by
 generalize d0:sright8_1_v0 ln d m f1 f2 f3 f4 f5 f6 f7=yd0
 unfold sright8_1_v0 at d0
 rcases bft (sright8_1_c0 ln d m f1 f2 f3 f4 f5 f6 f7) with q1 | q1
 ·rw [cpos q1] at d0
  subst d0
  exact so Tryz.f66 4 [] (.n4 (.n2 (.n (.c [] (sbare8_1 ln d m f1 f2 f3 f4 f5 f6 f7) (.n2 (.g q1 (.n4 (.n (.y4 (.n (.y (.n .nil))))))))))))
 ·rw [cneg q1] at d0
  subst d0
  exact so Tryz.f66 4 [] (.n4 (.n2 (.n (.c [] (sbare8_1 ln d m f1 f2 f3 f4 f5 f6 f7) (.n2 (.g q1 .nil))))))
def sright8_2_c0 (ln:Int) (d:Nat->Nat) (m:Nat) (f1:Int) (f2:Int) (f3:Int) (f4:Int) (f5:Int) (f6:Int) (f7:Int):=(true && ((decide (ln=0)) && ((eqA (nf d) (nf (fun _=>0)) 64 0) && ((decide (((m:Nat):Int)=0)) && ((true && (((decide (f1=f1)) && ((decide (f2=f2)) && ((decide (f3=f3)) && ((decide (f4=f4)) && true)))) && ((decide (f5=0)) && ((decide (f6=f6)) && ((decide (f7=f7)) && true))))) && true)))))
def sright8_2_v0 (ln:Int) (d:Nat->Nat) (m:Nat) (f1:Int) (f2:Int) (f3:Int) (f4:Int) (f5:Int) (f6:Int) (f7:Int):Bool:=bif (sright8_2_c0 ln d m f1 f2 f3 f4 f5 f6 f7) then true else false
theorem sright8_2 (ln:Int) (d:Nat->Nat) (m:Nat) (f1:Int) (f2:Int) (f3:Int) (f4:Int) (f5:Int) (f6:Int) (f7:Int) :Sp P 66 [.ag [vn 8,vi ln,.ar .u8 64 (nf d),vu m,vn 2,vi f1,vi f2,vi f3,vi f4,vi f5,vi f6,vi f7]] [] (vt (sright8_2_v0 ln d m f1 f2 f3 f4 f5 f6 f7)) []:=by
 generalize d0:sright8_2_v0 ln d m f1 f2 f3 f4 f5 f6 f7=yd0
 unfold sright8_2_v0 at d0
 rcases bft (sright8_2_c0 ln d m f1 f2 f3 f4 f5 f6 f7) with q1 | q1
 ·rw [cpos q1] at d0
  subst d0
  exact so Tryz.f66 4 [] (.n4 (.n2 (.n (.c [] (sbare8_2 ln d m f1 f2 f3 f4 f5 f6 f7) (.n2 (.g q1 (.n4 (.n (.y4 (.n (.y (.n .nil))))))))))))
 ·rw [cneg q1] at d0
  subst d0
  exact so Tryz.f66 4 [] (.n4 (.n2 (.n (.c [] (sbare8_2 ln d m f1 f2 f3 f4 f5 f6 f7) (.n2 (.g q1 .nil))))))
def sright8_3_c0 (ln:Int) (d:Nat->Nat) (m:Nat) (f1:Int) (f2:Int) (f3:Int) (f4:Int) (f5:Int) (f6:Int) (f7:Int):=(true && ((decide (ln=0)) && ((eqA (nf d) (nf (fun _=>0)) 64 0) && ((decide (((m:Nat):Int)=0)) && ((true && (((decide (f1=f1)) && ((decide (f2=f2)) && ((decide (f3=f3)) && ((decide (f4=0)) && true)))) && ((decide (f5=f5)) && ((decide (f6=0)) && ((decide (f7=f7)) && true))))) && true)))))
def sright8_3_v0 (ln:Int) (d:Nat->Nat) (m:Nat) (f1:Int) (f2:Int) (f3:Int) (f4:Int) (f5:Int) (f6:Int) (f7:Int):Bool:=bif (sright8_3_c0 ln d m f1 f2 f3 f4 f5 f6 f7) then true else false
theorem sright8_3 (ln:Int) (d:Nat->Nat) (m:Nat) (f1:Int) (f2:Int) (f3:Int) (f4:Int) (f5:Int) (f6:Int) (f7:Int) :Sp P 66 [.ag [vn 8,vi ln,.ar .u8 64 (nf d),vu m,vn 3,vi f1,vi f2,vi f3,vi f4,vi f5,vi f6,vi f7]] [] (vt (sright8_3_v0 ln d m f1 f2 f3 f4 f5 f6 f7)) []:=by
 generalize d0:sright8_3_v0 ln d m f1 f2 f3 f4 f5 f6 f7=yd0
 unfold sright8_3_v0 at d0
 rcases bft (sright8_3_c0 ln d m f1 f2 f3 f4 f5 f6 f7) with q1 | q1
 ·rw [cpos q1] at d0
  subst d0
  exact so Tryz.f66 4 [] (.n4 (.n2 (.n (.c [] (sbare8_3 ln d m f1 f2 f3 f4 f5 f6 f7) (.n2 (.g q1 (.n4 (.n (.y4 (.n (.y (.n .nil))))))))))))
 ·rw [cneg q1] at d0
  subst d0
  exact so Tryz.f66 4 [] (.n4 (.n2 (.n (.c [] (sbare8_3 ln d m f1 f2 f3 f4 f5 f6 f7) (.n2 (.g q1 .nil))))))
def sright8_4_c0 (ln:Int) (d:Nat->Nat) (m:Nat) (f1:Int) (f2:Int) (f3:Int) (f4:Int) (f5:Int) (f6:Int) (f7:Int):=(true && ((decide (ln=0)) && ((eqA (nf d) (nf (fun _=>0)) 64 0) && ((decide (((m:Nat):Int)=0)) && ((true && (((decide (f1=f1)) && ((decide (f2=f2)) && ((decide (f3=0)) && ((decide (f4=f4)) && true)))) && ((decide (f5=f5)) && ((decide (f6=0)) && ((decide (f7=f7)) && true))))) && true)))))
def sright8_4_v0 (ln:Int) (d:Nat->Nat) (m:Nat) (f1:Int) (f2:Int) (f3:Int) (f4:Int) (f5:Int) (f6:Int) (f7:Int):Bool:=bif (sright8_4_c0 ln d m f1 f2 f3 f4 f5 f6 f7) then true else false
theorem sright8_4 (ln:Int) (d:Nat->Nat) (m:Nat) (f1:Int) (f2:Int) (f3:Int) (f4:Int) (f5:Int) (f6:Int) (f7:Int) :Sp P 66 [.ag [vn 8,vi ln,.ar .u8 64 (nf d),vu m,vn 4,vi f1,vi f2,vi f3,vi f4,vi f5,vi f6,vi f7]] [] (vt (sright8_4_v0 ln d m f1 f2 f3 f4 f5 f6 f7)) []:=by
 generalize d0:sright8_4_v0 ln d m f1 f2 f3 f4 f5 f6 f7=yd0
 unfold sright8_4_v0 at d0
 rcases bft (sright8_4_c0 ln d m f1 f2 f3 f4 f5 f6 f7) with q1 | q1
 ·rw [cpos q1] at d0
  subst d0
  exact so Tryz.f66 4 [] (.n4 (.n2 (.n (.c [] (sbare8_4 ln d m f1 f2 f3 f4 f5 f6 f7) (.n2 (.g q1 (.n4 (.n (.y4 (.n (.y (.n .nil))))))))))))
 ·rw [cneg q1] at d0
  subst d0
  exact so Tryz.f66 4 [] (.n4 (.n2 (.n (.c [] (sbare8_4 ln d m f1 f2 f3 f4 f5 f6 f7) (.n2 (.g q1 .nil))))))
def sright8_5_c0 (ln:Int) (d:Nat->Nat) (m:Nat) (f1:Int) (f2:Int) (f3:Int) (f4:Int) (f5:Int) (f6:Int) (f7:Int):=(true && ((decide (ln=0)) && ((eqA (nf d) (nf (fun _=>0)) 64 0) && ((decide (((m:Nat):Int)=0)) && ((true && (((decide (f1=f1)) && ((decide (f2=0)) && ((decide (f3=0)) && ((decide (f4=0)) && true)))) && ((decide (f5=f5)) && ((decide (f6=0)) && ((decide (f7=f7)) && true))))) && true)))))
def sright8_5_v0 (ln:Int) (d:Nat->Nat) (m:Nat) (f1:Int) (f2:Int) (f3:Int) (f4:Int) (f5:Int) (f6:Int) (f7:Int):Bool:=bif (sright8_5_c0 ln d m f1 f2 f3 f4 f5 f6 f7) then true else false
theorem sright8_5 (ln:Int) (d:Nat->Nat) (m:Nat) (f1:Int) (f2:Int) (f3:Int) (f4:Int) (f5:Int) (f6:Int) (f7:Int) :Sp P 66 [.ag [vn 8,vi ln,.ar .u8 64 (nf d),vu m,vn 5,vi f1,vi f2,vi f3,vi f4,vi f5,vi f6,vi f7]] [] (vt (sright8_5_v0 ln d m f1 f2 f3 f4 f5 f6 f7)) []:=by
 generalize d0:sright8_5_v0 ln d m f1 f2 f3 f4 f5 f6 f7=yd0
 unfold sright8_5_v0 at d0
 rcases bft (sright8_5_c0 ln d m f1 f2 f3 f4 f5 f6 f7) with q1 | q1
 ·rw [cpos q1] at d0
  subst d0
  exact so Tryz.f66 4 [] (.n4 (.n2 (.n (.c [] (sbare8_5 ln d m f1 f2 f3 f4 f5 f6 f7) (.n2 (.g q1 (.n4 (.n (.y4 (.n (.y (.n .nil))))))))))))
 ·rw [cneg q1] at d0
  subst d0
  exact so Tryz.f66 4 [] (.n4 (.n2 (.n (.c [] (sbare8_5 ln d m f1 f2 f3 f4 f5 f6 f7) (.n2 (.g q1 .nil))))))
def sright8_6_c0 (ln:Int) (d:Nat->Nat) (m:Nat) (f1:Int) (f2:Int) (f3:Int) (f4:Int) (f5:Int) (f6:Int) (f7:Int):=(true && ((decide (ln=0)) && ((eqA (nf d) (nf (fun _=>0)) 64 0) && ((decide (((m:Nat):Int)=0)) && ((true && (((decide (f1=f1)) && ((decide (f2=f2)) && ((decide (f3=f3)) && ((decide (f4=f4)) && true)))) && ((decide (f5=0)) && ((decide (f6=0)) && ((decide (f7=0)) && true))))) && true)))))
def sright8_6_v0 (ln:Int) (d:Nat->Nat) (m:Nat) (f1:Int) (f2:Int) (f3:Int) (f4:Int) (f5:Int) (f6:Int) (f7:Int):Bool:=bif (sright8_6_c0 ln d m f1 f2 f3 f4 f5 f6 f7) then true else false
theorem sright8_6 (ln:Int) (d:Nat->Nat) (m:Nat) (f1:Int) (f2:Int) (f3:Int) (f4:Int) (f5:Int) (f6:Int) (f7:Int) :Sp P 66 [.ag [vn 8,vi ln,.ar .u8 64 (nf d),vu m,vn 6,vi f1,vi f2,vi f3,vi f4,vi f5,vi f6,vi f7]] [] (vt (sright8_6_v0 ln d m f1 f2 f3 f4 f5 f6 f7)) []:=by
 generalize d0:sright8_6_v0 ln d m f1 f2 f3 f4 f5 f6 f7=yd0
 unfold sright8_6_v0 at d0
 rcases bft (sright8_6_c0 ln d m f1 f2 f3 f4 f5 f6 f7) with q1 | q1
 ·rw [cpos q1] at d0
  subst d0
  exact so Tryz.f66 4 [] (.n4 (.n2 (.n (.c [] (sbare8_6 ln d m f1 f2 f3 f4 f5 f6 f7) (.n2 (.g q1 (.n4 (.n (.y4 (.n (.y (.n .nil))))))))))))
 ·rw [cneg q1] at d0
  subst d0
  exact so Tryz.f66 4 [] (.n4 (.n2 (.n (.c [] (sbare8_6 ln d m f1 f2 f3 f4 f5 f6 f7) (.n2 (.g q1 .nil))))))
def sright8_7_c0 (ln:Int) (d:Nat->Nat) (m:Nat) (f1:Int) (f2:Int) (f3:Int) (f4:Int) (f5:Int) (f6:Int) (f7:Int):=(true && ((decide (ln=0)) && ((eqA (nf d) (nf (fun _=>0)) 64 0) && ((decide (((m:Nat):Int)=0)) && ((true && (((decide (f1=0)) && ((decide (f2=0)) && ((decide (f3=0)) && ((decide (f4=0)) && true)))) && ((decide (f5=0)) && ((decide (f6=0)) && ((decide (f7=0)) && true))))) && true)))))
def sright8_7_v0 (ln:Int) (d:Nat->Nat) (m:Nat) (f1:Int) (f2:Int) (f3:Int) (f4:Int) (f5:Int) (f6:Int) (f7:Int):Bool:=bif (sright8_7_c0 ln d m f1 f2 f3 f4 f5 f6 f7) then true else false
theorem sright8_7 (ln:Int) (d:Nat->Nat) (m:Nat) (f1:Int) (f2:Int) (f3:Int) (f4:Int) (f5:Int) (f6:Int) (f7:Int) :Sp P 66 [.ag [vn 8,vi ln,.ar .u8 64 (nf d),vu m,vn 7,vi f1,vi f2,vi f3,vi f4,vi f5,vi f6,vi f7]] [] (vt (sright8_7_v0 ln d m f1 f2 f3 f4 f5 f6 f7)) []:=by
 generalize d0:sright8_7_v0 ln d m f1 f2 f3 f4 f5 f6 f7=yd0
 unfold sright8_7_v0 at d0
 rcases bft (sright8_7_c0 ln d m f1 f2 f3 f4 f5 f6 f7) with q1 | q1
 ·rw [cpos q1] at d0
  subst d0
  exact so Tryz.f66 4 [] (.n4 (.n2 (.n (.c [] (sbare8_7 ln d m f1 f2 f3 f4 f5 f6 f7) (.n2 (.g q1 (.n4 (.n (.y4 (.n (.y (.n .nil))))))))))))
 ·rw [cneg q1] at d0
  subst d0
  exact so Tryz.f66 4 [] (.n4 (.n2 (.n (.c [] (sbare8_7 ln d m f1 f2 f3 f4 f5 f6 f7) (.n2 (.g q1 .nil))))))
theorem numbers8_o (ln:Int) (d:Nat->Nat) (m:Nat) (f0:Int) (f1:Int) (f2:Int) (f3:Int) (f4:Int) (f5:Int) (f6:Int) (f7:Int) (n1:decide (f0=1)=false) (n2:decide (f0=2)=false) (n3:decide (f0=3)=false) (n4:decide (f0=4)=false) (n5:decide (f0=5)=false) (n6:decide (f0=6)=false) (n7:decide (f0=7)=false):Sp P 207 [.pt 0 67] [.blk [vn 8,vi ln,.ar .u8 64 (nf d),vu m,vi f0,vi f1,vi f2,vi f3,vi f4,vi f5,vi f6,vi f7] 50] (nilS) [.blk [vn 8,vi ln,.ar .u8 64 (nf d),vu m,vi f0,vi f1,vi f2,vi f3,vi f4,vi f5,vi f6,vi f7] 50] :=
 so Tryz.f207 3 [.id 0] (.t n1 (.t n2 (.t n3 (.t n4 (.t n5 (.t n6 .nil))))))
theorem sbare8_o (ln:Int) (d:Nat->Nat) (m:Nat) (f0:Int) (f1:Int) (f2:Int) (f3:Int) (f4:Int) (f5:Int) (f6:Int) (f7:Int) (n1:decide (f0=1)=false) (n2:decide (f0=2)=false) (n3:decide (f0=3)=false) (n4:decide (f0=4)=false) (n5:decide (f0=5)=false) (n6:decide (f0=6)=false) (n7:decide (f0=7)=false):Sp P 135 [.ag [vn 8,vi ln,.ar .u8 64 (nf d),vu m,vi f0,vi f1,vi f2,vi f3,vi f4,vi f5,vi f6,vi f7]] [] (.ag [vn 8,vi 0,.ar .u8 64 (nf (fun _=>0)),vu 0,vi f0,vi 0,vi 0,vi 0,vi 0,vi 0,vi 0,vi 0]) [] :=
 so Tryz.f135 5 [] (.n2 (.n (.y (.c [.id 3] (numbers8_o 0 (fun _=>0) 0 f0 0 0 0 0 0 0 0 (by first | assumption | omega) (by first | assumption | omega) (by first | assumption | omega) (by first | assumption | omega) (by first | assumption | omega) (by first | assumption | omega) (by first | assumption | omega)) (.c [.id 1] (numbers8_o ln d m f0 f1 f2 f3 f4 f5 f6 f7 (by first | assumption | omega) (by first | assumption | omega) (by first | assumption | omega) (by first | assumption | omega) (by first | assumption | omega) (by first | assumption | omega) (by first | assumption | omega)) (.lu 0 (.n .nil)))))))
def sright8_o_c0 (ln:Int) (d:Nat->Nat) (m:Nat) (f0:Int) (f1:Int) (f2:Int) (f3:Int) (f4:Int) (f5:Int) (f6:Int) (f7:Int):=(true && ((decide (ln=0)) && ((eqA (nf d) (nf (fun _=>0)) 64 0) && ((decide (((m:Nat):Int)=0)) && (((decide (f0=f0)) && (((decide (f1=0)) && ((decide (f2=0)) && ((decide (f3=0)) && ((decide (f4=0)) && true)))) && ((decide (f5=0)) && ((decide (f6=0)) && ((decide (f7=0)) && true))))) && true)))))
def sright8_o_v0 (ln:Int) (d:Nat->Nat) (m:Nat) (f0:Int) (f1:Int) (f2:Int) (f3:Int) (f4:Int) (f5:Int) (f6:Int) (f7:Int):Bool:=bif (sright8_o_c0 ln d m f0 f1 f2 f3 f4 f5 f6 f7) then (bif decide (1<=f0) then (decide (f0<=7)) else false) else false
theorem sright8_o (ln:Int) (d:Nat->Nat) (m:Nat) (f0:Int) (f1:Int) (f2:Int) (f3:Int) (f4:Int) (f5:Int) (f6:Int) (f7:Int) (n1:decide (f0=1)=false) (n2:decide (f0=2)=false) (n3:decide (f0=3)=false) (n4:decide (f0=4)=false) (n5:decide (f0=5)=false) (n6:decide (f0=6)=false) (n7:decide (f0=7)=false):Sp P 66 [.ag [vn 8,vi ln,.ar .u8 64 (nf d),vu m,vi f0,vi f1,vi f2,vi f3,vi f4,vi f5,vi f6,vi f7]] [] (vt (sright8_o_v0 ln d m f0 f1 f2 f3 f4 f5 f6 f7)) []:=by
 generalize d0:sright8_o_v0 ln d m f0 f1 f2 f3 f4 f5 f6 f7=yd0
 unfold sright8_o_v0 at d0
 rcases bft (sright8_o_c0 ln d m f0 f1 f2 f3 f4 f5 f6 f7) with q1 | q1
 ·rw [cpos q1] at d0
  rcases bft (decide (1<=f0)) with q2 | q2
  ·rw [cpos q2] at d0
   have q2':=of_decide_eq_true q2
   subst d0
   exact so Tryz.f66 4 [] (.n4 (.n2 (.n (.c [] (sbare8_o ln d m f0 f1 f2 f3 f4 f5 f6 f7 (by first | assumption | omega) (by first | assumption | omega) (by first | assumption | omega) (by first | assumption | omega) (by first | assumption | omega) (by first | assumption | omega) (by first | assumption | omega)) (.n2 (.g q1 (.n4 (.n (.t4 q2 (.n (.t q2 (.n .nil))))))))))))
  ·rw [cneg q2] at d0
   have q2':=of_decide_eq_false q2
   subst d0
   exact so Tryz.f66 4 [] (.n4 (.n2 (.n (.c [] (sbare8_o ln d m f0 f1 f2 f3 f4 f5 f6 f7 (by first | assumption | omega) (by first | assumption | omega) (by first | assumption | omega) (by first | assumption | omega) (by first | assumption | omega) (by first | assumption | omega) (by first | assumption | omega)) (.n2 (.g q1 (.n4 (.n (.t4 q2 (.n (.t q2 (.n .nil))))))))))))
 ·rw [cneg q1] at d0
  subst d0
  exact so Tryz.f66 4 [] (.n4 (.n2 (.n (.c [] (sbare8_o ln d m f0 f1 f2 f3 f4 f5 f6 f7 (by first | assumption | omega) (by first | assumption | omega) (by first | assumption | omega) (by first | assumption | omega) (by first | assumption | omega) (by first | assumption | omega) (by first | assumption | omega)) (.n2 (.g q1 .nil))))))
def stpRight (x:Stp):Bool:=bif decide (x.kind=8) then (bif decide (x.f.kind=1) then sright8_1_v0 x.line x.data x.mask x.f.rank x.f.bank x.f.row x.f.col x.f.chip x.f.bit x.f.value else (bif decide (x.f.kind=2) then sright8_2_v0 x.line x.data x.mask x.f.rank x.f.bank x.f.row x.f.col x.f.chip x.f.bit x.f.value else (bif decide (x.f.kind=3) then sright8_3_v0 x.line x.data x.mask x.f.rank x.f.bank x.f.row x.f.col x.f.chip x.f.bit x.f.value else (bif decide (x.f.kind=4) then sright8_4_v0 x.line x.data x.mask x.f.rank x.f.bank x.f.row x.f.col x.f.chip x.f.bit x.f.value else (bif decide (x.f.kind=5) then sright8_5_v0 x.line x.data x.mask x.f.rank x.f.bank x.f.row x.f.col x.f.chip x.f.bit x.f.value else (bif decide (x.f.kind=6) then sright8_6_v0 x.line x.data x.mask x.f.rank x.f.bank x.f.row x.f.col x.f.chip x.f.bit x.f.value else (bif decide (x.f.kind=7) then sright8_7_v0 x.line x.data x.mask x.f.rank x.f.bank x.f.row x.f.col x.f.chip x.f.bit x.f.value else (sright8_o_v0 x.line x.data x.mask x.f.kind x.f.rank x.f.bank x.f.row x.f.col x.f.chip x.f.bit x.f.value)))))))) else sright_v0 x.kind x.line x.data x.mask x.f.kind x.f.rank x.f.bank x.f.row x.f.col x.f.chip x.f.bit x.f.value
theorem sRight (x : Stp) : Sp P 66 [.ag [vi x.kind, vi x.line, .ar .u8 64 (nf x.data), vu x.mask, vi x.f.kind, vi x.f.rank, vi x.f.bank, vi x.f.row, vi x.f.col, vi x.f.chip, vi x.f.bit, vi x.f.value]] [] (vt (stpRight x)) [] := by
 unfold stpRight
 obtain ⟨k,ln,d,m,⟨f0,f1,f2,f3,f4,f5,f6,f7⟩⟩:=x
 dsimp only
 rcases bft (decide (k=8)) with h | h
 ·rw [cpos h]; have e := of_decide_eq_true h; subst e
  rcases bft (decide (f0=1)) with n1 | n1
  ·rw [cpos n1]; have e:=of_decide_eq_true n1; subst e; exact sright8_1 ln d m f1 f2 f3 f4 f5 f6 f7
  ·rw [cneg n1]
   rcases bft (decide (f0=2)) with n2 | n2
   ·rw [cpos n2]; have e:=of_decide_eq_true n2; subst e; exact sright8_2 ln d m f1 f2 f3 f4 f5 f6 f7
   ·rw [cneg n2]
    rcases bft (decide (f0=3)) with n3 | n3
    ·rw [cpos n3]; have e:=of_decide_eq_true n3; subst e; exact sright8_3 ln d m f1 f2 f3 f4 f5 f6 f7
    ·rw [cneg n3]
     rcases bft (decide (f0=4)) with n4 | n4
     ·rw [cpos n4]; have e:=of_decide_eq_true n4; subst e; exact sright8_4 ln d m f1 f2 f3 f4 f5 f6 f7
     ·rw [cneg n4]
      rcases bft (decide (f0=5)) with n5 | n5
      ·rw [cpos n5]; have e:=of_decide_eq_true n5; subst e; exact sright8_5 ln d m f1 f2 f3 f4 f5 f6 f7
      ·rw [cneg n5]
       rcases bft (decide (f0=6)) with n6 | n6
       ·rw [cpos n6]; have e:=of_decide_eq_true n6; subst e; exact sright8_6 ln d m f1 f2 f3 f4 f5 f6 f7
       ·rw [cneg n6]
        rcases bft (decide (f0=7)) with n7 | n7
        ·rw [cpos n7]; have e:=of_decide_eq_true n7; subst e; exact sright8_7 ln d m f1 f2 f3 f4 f5 f6 f7
        ·rw [cneg n7]
         exact sright8_o ln d m f0 f1 f2 f3 f4 f5 f6 f7 n1 n2 n3 n4 n5 n6 n7
 ·rw [cneg h]; exact sright k ln d m f0 f1 f2 f3 f4 f5 f6 f7 h
structure StpOk (x:Stp):Prop where
 d:∀ j,x.data j < 256
 m:x.mask < 18446744073709551616
structure MchOk (n:Nat) (s:MchS):Prop where
 c:CtlOk n s.c
 id:∀ k j,s.ideal k j < 256
 il:s.inj.length<=n
 sl:s.srv.length<=n
 ly:lyRight_v0 s.c.le.c.ly=true
theorem MchOk.mono {n m:Nat} {s:MchS} (h:MchOk n s) (hm:n<=m):MchOk m s:=⟨h.c.mono hm,h.id,Nat.le_trans h.il hm,Nat.le_trans h.sl hm,h.ly⟩
def mInject_s (s:MchS) (f:Flt):MchS:=bif decide ((dInject_v0 s.c.d.d f)=0) then { s with c:={ s.c with d:=(vInject_s s.c.d f) },inj:=s.inj ++ [(⟨f,s.scrubs,((s.c.d.l.length:Nat):Int)⟩:Inj)] } else { s with c:={ s.c with d:=(vInject_s s.c.d f) } }
theorem mInject (s:MchS) (f:Flt) (ok:MchOk 96000000 s):Sp P 98 [.pt 0 0,.ag [vi f.kind,vi f.rank,vi f.bank,vi f.row,vi f.col,vi f.chip,vi f.bit,vi f.value]] ([.blk [.pt 16 0,.pt 1 0,.mp 30,.sl 31,.sl 32,vi s.scrubs,vi s.steps] 171] ++ bCtl s.c 1 ++ ros (bCode 25) ++ [.mp (.ar .u8 64 (nf (fun _=>0))) (mpC s.ideal),.row eInj s.inj,.row eSrv s.srv]) (.ag [vi (dInject_v0 s.c.d.d f),vn 0,.ar .u8 64 (fun _=>0)]) ([.blk [.pt 16 0,.pt 1 0,.mp 30,.sl 31,.sl 32,vi (mInject_s s f).scrubs,vi (mInject_s s f).steps] 171] ++ bCtl (mInject_s s f).c 1 ++ ros (bCode 25) ++ [.mp (.ar .u8 64 (nf (fun _=>0))) (mpC (mInject_s s f).ideal),.row eInj (mInject_s s f).inj,.row eSrv (mInject_s s f).srv]):=by
 generalize d0:mInject_s s f=yd0
 unfold mInject_s at d0
 rcases bft (decide ((dInject_v0 s.c.d.d f)=0)) with q1 | q1
 ·rw [cpos q1] at d0
  have q1':=of_decide_eq_true q1
  subst d0
  exact so Tryz.f98 11 (ir 0 31 ++ .id 41 :: .id 32 :: []) (.c (ir 16 8) (vCount s.c.d) (.c (ir 16 8) (vInject s.c.d f ok.c.d) (.t q1 (.ap (e:=eInj) (l:=s.inj) (l':=[(⟨f,s.scrubs,((s.c.d.l.length:Nat):Int)⟩:Inj)]) .row (.flat [vi f.kind,vi f.rank,vi f.bank,vi f.row,vi f.col,vi f.chip,vi f.bit,vi f.value,vi s.scrubs,vn s.c.d.l.length] [(⟨f,s.scrubs,((s.c.d.l.length:Nat):Int)⟩:Inj)] rfl) (by have:=ok.il; have:=ok.sl; simp only [List.length_cons,List.length_nil]; omega) .nil))))
 ·rw [cneg q1] at d0
  subst d0
  exact so Tryz.f98 8 (ir 0 33) (.c (ir 16 8) (vCount s.c.d) (.c (ir 16 8) (vInject s.c.d f ok.c.d) (.t q1 .nil)))
def mRequest_s (s:MchS) (x:Stp):MchS:=bif decide (x.kind=1) then (bif decide ((((cread_v1 s.c x.line s.c.le.c.back):Nat):Int)=30) then { s with c:=(cread_s s.c x.line s.c.le.c.back) } else { s with c:=(cread_s s.c x.line s.c.le.c.back),srv:=s.srv ++ [(⟨x,(⟨(((cread_v1 s.c x.line s.c.le.c.back):Nat):Int),0,cread_v0 s.c x.line s.c.le.c.back⟩:Ans),s.ideal x.line,((s.c.d.l.length:Nat):Int),(((cread_s s.c x.line s.c.le.c.back).d.l.length:Nat):Int)⟩:Srv)] }) else (bif decide (x.kind=2) then (bif decide ((((cMasked_v0 s.c x.line (arL x.data 64 0) 18446744073709551615):Nat):Int)=30) then { s with c:=(cWrite_s s.c x.line (arL x.data 64 0)) } else (⟨(cWrite_s s.c x.line (arL x.data 64 0)),upZ s.ideal x.line (mgF (s.ideal x.line) x.data 18446744073709551615),s.inj,(s.srv ++ [(⟨x,(⟨(((cMasked_v0 s.c x.line (arL x.data 64 0) 18446744073709551615):Nat):Int),0,fun _=>0⟩:Ans),s.ideal x.line,((s.c.d.l.length:Nat):Int),(((cWrite_s s.c x.line (arL x.data 64 0)).d.l.length:Nat):Int)⟩:Srv)]),s.scrubs,s.steps⟩:MchS)) else (bif decide ((((cMasked_v0 s.c x.line (arL x.data 64 0) x.mask):Nat):Int)=30) then { s with c:=(cMasked_s s.c x.line (arL x.data 64 0) x.mask) } else (⟨(cMasked_s s.c x.line (arL x.data 64 0) x.mask),upZ s.ideal x.line (mgF (s.ideal x.line) x.data x.mask),s.inj,(s.srv ++ [(⟨x,(⟨(((cMasked_v0 s.c x.line (arL x.data 64 0) x.mask):Nat):Int),0,fun _=>0⟩:Ans),s.ideal x.line,((s.c.d.l.length:Nat):Int),(((cMasked_s s.c x.line (arL x.data 64 0) x.mask).d.l.length:Nat):Int)⟩:Srv)]),s.scrubs,s.steps⟩:MchS)))
def mRequest_v0 (s:MchS) (x:Stp):Nat:=bif decide (x.kind=1) then (cread_v1 s.c x.line s.c.le.c.back) else (bif decide (x.kind=2) then (cMasked_v0 s.c x.line (arL x.data 64 0) 18446744073709551615) else (cMasked_v0 s.c x.line (arL x.data 64 0) x.mask))
def mRequest_v1 (s:MchS) (x:Stp):Nat->Nat:=bif decide (x.kind=1) then (cread_v0 s.c x.line s.c.le.c.back) else (fun _=>0)
theorem mRequest (s:MchS) (x:Stp) (ok:MchOk 96000000 s) (sk:StpOk x):Sp P 99 [.pt 0 0,.ag [vi x.kind,vi x.line,.ar .u8 64 (nf x.data),vu x.mask,vi x.f.kind,vi x.f.rank,vi x.f.bank,vi x.f.row,vi x.f.col,vi x.f.chip,vi x.f.bit,vi x.f.value]] ([.blk [.pt 16 0,.pt 1 0,.mp 30,.sl 31,.sl 32,vi s.scrubs,vi s.steps] 171] ++ bCtl s.c 1 ++ ros (bCode 25) ++ [.mp (.ar .u8 64 (nf (fun _=>0))) (mpC s.ideal),.row eInj s.inj,.row eSrv s.srv]) (.ag [vn (mRequest_v0 s x),vn 0,.ar .u8 64 (nf (mRequest_v1 s x))]) ([.blk [.pt 16 0,.pt 1 0,.mp 30,.sl 31,.sl 32,vi (mRequest_s s x).scrubs,vi (mRequest_s s x).steps] 171] ++ bCtl (mRequest_s s x).c 1 ++ ros (bCode 25) ++ [.mp (.ar .u8 64 (nf (fun _=>0))) (mpC (mRequest_s s x).ideal),.row eInj (mRequest_s s x).inj,.row eSrv (mRequest_s s x).srv]):=by
 generalize d0:mRequest_s s x=yd0
 unfold mRequest_s at d0
 generalize d1:mRequest_v0 s x=yd1
 unfold mRequest_v0 at d1
 generalize d2:mRequest_v1 s x=yd2
 unfold mRequest_v1 at d2
 rcases bft (decide (x.kind=1)) with q1 | q1
 ·rw [cpos q1] at d0
  rw [cpos q1] at d1
  rw [cpos q1] at d2
  have q1':=of_decide_eq_true q1
  rcases bft (decide ((((cread_v1 s.c x.line s.c.le.c.back):Nat):Int)=30)) with q2 | q2
  ·rw [cpos q2] at d0
   subst d0 d1 d2
   exact so Tryz.f99 10 (ir 0 33) (.c (ir 16 8) (vCount s.c.d) (.t q1 (.c (ir 1 29) (cRead s.c x.line (ok.c.mono (by decide))) (.t q2 .nil))))
  ·rw [cneg q2] at d0
   have q2':=of_decide_eq_false q2
   subst d0 d1 d2
   exact so Tryz.f99 13 (ir 0 32 ++ .id 43 :: []) (.c (ir 16 8) (vCount s.c.d) (.t q1 (.c (ir 1 29) (cRead s.c x.line (ok.c.mono (by decide))) (.t q2 (.g q1 (.c (ir 16 8) (vCount (cread_s s.c x.line s.c.le.c.back).d) (.ap (e:=eSrv) (l:=s.srv) (l':=[(⟨x,(⟨(((cread_v1 s.c x.line s.c.le.c.back):Nat):Int),0,cread_v0 s.c x.line s.c.le.c.back⟩:Ans),s.ideal x.line,((s.c.d.l.length:Nat):Int),(((cread_s s.c x.line s.c.le.c.back).d.l.length:Nat):Int)⟩:Srv)]) .row (.flat [vi x.kind,vi x.line,.ar .u8 64 (nf x.data),vu x.mask,vi x.f.kind,vi x.f.rank,vi x.f.bank,vi x.f.row,vi x.f.col,vi x.f.chip,vi x.f.bit,vi x.f.value,vn (cread_v1 s.c x.line s.c.le.c.back),vn 0,.ar .u8 64 (nf (cread_v0 s.c x.line s.c.le.c.back)),.ar .u8 64 (nf (s.ideal x.line)),vn s.c.d.l.length,vn (cread_s s.c x.line s.c.le.c.back).d.l.length] [(⟨x,(⟨(((cread_v1 s.c x.line s.c.le.c.back):Nat):Int),0,cread_v0 s.c x.line s.c.le.c.back⟩:Ans),s.ideal x.line,((s.c.d.l.length:Nat):Int),(((cread_s s.c x.line s.c.le.c.back).d.l.length:Nat):Int)⟩:Srv)] rfl) (by have:=ok.il; have:=ok.sl; simp only [List.length_cons,List.length_nil]; omega) .nil)))))))
 ·rw [cneg q1] at d0
  rw [cneg q1] at d1
  rw [cneg q1] at d2
  have q1':=of_decide_eq_false q1
  rcases bft (decide (x.kind=2)) with q2 | q2
  ·rw [cpos q2] at d0
   rw [cpos q2] at d1
   have q2':=of_decide_eq_true q2
   rcases bft (decide ((((cMasked_v0 s.c x.line (arL x.data 64 0) 18446744073709551615):Nat):Int)=30)) with q3 | q3
   ·rw [cpos q3] at d0
    subst d0 d1 d2
    exact so Tryz.f99 9 (ir 0 33) (.c (ir 16 8) (vCount s.c.d) (.t q1 (.t q2 (.c (ir 1 29 ++ .sg 34 2 1 64 :: []) (cWrite s.c x.line (arL x.data 64 0) (ok.c.mono (by decide)) (arL_len _ _ _) (arL_B8 sk.d _ _)) (.t q3 .nil)))))
   ·rw [cneg q3] at d0
    have q3':=of_decide_eq_false q3
    subst d0 d1 d2
    exact so Tryz.f99 14 (ir 0 32 ++ .id 44 :: []) (.c (ir 16 8) (vCount s.c.d) (.t q1 (.t q2 (.c (ir 1 29 ++ .sg 34 2 1 64 :: []) (cWrite s.c x.line (arL x.data 64 0) (ok.c.mono (by decide)) (arL_len _ _ _) (arL_B8 sk.d _ _)) (.t q3 (.g q1 (.c [] (merge_sp (s.ideal x.line) x.data 18446744073709551615 (by decide)) (.mu (mpC_up s.ideal x.line (mgF (s.ideal x.line) x.data 18446744073709551615)) (.c (ir 16 8) (vCount (cWrite_s s.c x.line (arL x.data 64 0)).d) (.ap (e:=eSrv) (l:=s.srv) (l':=[(⟨x,(⟨(((cMasked_v0 s.c x.line (arL x.data 64 0) 18446744073709551615):Nat):Int),0,fun _=>0⟩:Ans),s.ideal x.line,((s.c.d.l.length:Nat):Int),(((cWrite_s s.c x.line (arL x.data 64 0)).d.l.length:Nat):Int)⟩:Srv)]) .row (.flat [vi x.kind,vi x.line,.ar .u8 64 (nf x.data),vu x.mask,vi x.f.kind,vi x.f.rank,vi x.f.bank,vi x.f.row,vi x.f.col,vi x.f.chip,vi x.f.bit,vi x.f.value,vn (cMasked_v0 s.c x.line (arL x.data 64 0) 18446744073709551615),vn 0,.ar .u8 64 (fun _=>0),.ar .u8 64 (nf (s.ideal x.line)),vn s.c.d.l.length,vn (cWrite_s s.c x.line (arL x.data 64 0)).d.l.length] [(⟨x,(⟨(((cMasked_v0 s.c x.line (arL x.data 64 0) 18446744073709551615):Nat):Int),0,fun _=>0⟩:Ans),s.ideal x.line,((s.c.d.l.length:Nat):Int),(((cWrite_s s.c x.line (arL x.data 64 0)).d.l.length:Nat):Int)⟩:Srv)] rfl) (by have:=ok.il; have:=ok.sl; simp only [List.length_cons,List.length_nil]; omega) .nil))))))))))
  ·rw [cneg q2] at d0
   rw [cneg q2] at d1
   have q2':=of_decide_eq_false q2
   rcases bft (decide ((((cMasked_v0 s.c x.line (arL x.data 64 0) x.mask):Nat):Int)=30)) with q3 | q3
   ·rw [cpos q3] at d0
    subst d0 d1 d2
    exact so Tryz.f99 9 (ir 0 33) (.c (ir 16 8) (vCount s.c.d) (.t q1 (.t q2 (.c (ir 1 29 ++ .sg 34 2 1 64 :: []) (cMasked s.c x.line (arL x.data 64 0) x.mask (ok.c.mono (by decide)) (arL_len _ _ _) (arL_B8 sk.d _ _) sk.m) (.t q3 .nil)))))
   ·rw [cneg q3] at d0
    have q3':=of_decide_eq_false q3
    subst d0 d1 d2
    exact so Tryz.f99 14 (ir 0 32 ++ .id 44 :: []) (.c (ir 16 8) (vCount s.c.d) (.t q1 (.t q2 (.c (ir 1 29 ++ .sg 34 2 1 64 :: []) (cMasked s.c x.line (arL x.data 64 0) x.mask (ok.c.mono (by decide)) (arL_len _ _ _) (arL_B8 sk.d _ _) sk.m) (.t q3 (.g q1 (.c [] (merge_sp (s.ideal x.line) x.data x.mask sk.m) (.mu (mpC_up s.ideal x.line (mgF (s.ideal x.line) x.data x.mask)) (.c (ir 16 8) (vCount (cMasked_s s.c x.line (arL x.data 64 0) x.mask).d) (.ap (e:=eSrv) (l:=s.srv) (l':=[(⟨x,(⟨(((cMasked_v0 s.c x.line (arL x.data 64 0) x.mask):Nat):Int),0,fun _=>0⟩:Ans),s.ideal x.line,((s.c.d.l.length:Nat):Int),(((cMasked_s s.c x.line (arL x.data 64 0) x.mask).d.l.length:Nat):Int)⟩:Srv)]) .row (.flat [vi x.kind,vi x.line,.ar .u8 64 (nf x.data),vu x.mask,vi x.f.kind,vi x.f.rank,vi x.f.bank,vi x.f.row,vi x.f.col,vi x.f.chip,vi x.f.bit,vi x.f.value,vn (cMasked_v0 s.c x.line (arL x.data 64 0) x.mask),vn 0,.ar .u8 64 (fun _=>0),.ar .u8 64 (nf (s.ideal x.line)),vn s.c.d.l.length,vn (cMasked_s s.c x.line (arL x.data 64 0) x.mask).d.l.length] [(⟨x,(⟨(((cMasked_v0 s.c x.line (arL x.data 64 0) x.mask):Nat):Int),0,fun _=>0⟩:Ans),s.ideal x.line,((s.c.d.l.length:Nat):Int),(((cMasked_s s.c x.line (arL x.data 64 0) x.mask).d.l.length:Nat):Int)⟩:Srv)] rfl) (by have:=ok.il; have:=ok.sl; simp only [List.length_cons,List.length_nil]; omega) .nil))))))))))
def mDo_s (s:MchS) (x:Stp):MchS:=bif (stpRight x) then (bif decide (x.kind=4) then (⟨(cScrub_s s.c),s.ideal,s.inj,s.srv,IntKind.i64.wrap (s.scrubs + 1),IntKind.i64.wrap (s.steps + 1)⟩:MchS) else (bif decide (x.kind=5) then { s with c:=(cCopy_s s.c),steps:=IntKind.i64.wrap (s.steps + 1) } else (bif decide (x.kind=6) then { s with c:=(cTick_s s.c),steps:=IntKind.i64.wrap (s.steps + 1) } else (bif decide (x.kind=7) then { s with c:=(cClear_s s.c),steps:=IntKind.i64.wrap (s.steps + 1) } else (bif decide (x.kind=8) then (mInject_s { s with steps:=IntKind.i64.wrap (s.steps + 1) } x.f) else (mRequest_s { s with steps:=IntKind.i64.wrap (s.steps + 1) } x)))))) else s
def mDo_v0 (s:MchS) (x:Stp):Int:=bif (stpRight x) then (bif decide (x.kind=4) then (((cScrub_v0 s.c):Nat):Int) else (bif decide (x.kind=5) then (cCopy_v0 s.c) else (bif decide (x.kind=6) then (((cTick_v0 s.c):Nat):Int) else (bif decide (x.kind=7) then 0 else (bif decide (x.kind=8) then (dInject_v0 s.c.d.d x.f) else (((mRequest_v0 { s with steps:=IntKind.i64.wrap (s.steps + 1) } x):Nat):Int)))))) else 60
def mDo_v1 (s:MchS) (x:Stp):Int:=bif (stpRight x) then (bif decide (x.kind=4) then s.c.cur else (bif decide (x.kind=5) then 0 else (bif decide (x.kind=6) then 0 else (bif decide (x.kind=7) then ((s.c.le.log.l.length:Nat):Int) else 0)))) else 0
def mDo_v2 (s:MchS) (x:Stp):Nat->Nat:=bif (stpRight x) then (bif decide (x.kind=4) then (fun _=>0) else (bif decide (x.kind=5) then (fun _=>0) else (bif decide (x.kind=6) then (fun _=>0) else (bif decide (x.kind=7) then (fun _=>0) else (bif decide (x.kind=8) then (fun _=>0) else (mRequest_v1 { s with steps:=IntKind.i64.wrap (s.steps + 1) } x)))))) else (fun _=>0)
theorem mDo (s:MchS) (x:Stp) (ok:MchOk 96000000 s) (sk:StpOk x):Sp P 25 [.pt 0 0,.ag [vi x.kind,vi x.line,.ar .u8 64 (nf x.data),vu x.mask,vi x.f.kind,vi x.f.rank,vi x.f.bank,vi x.f.row,vi x.f.col,vi x.f.chip,vi x.f.bit,vi x.f.value]] ([.blk [.pt 16 0,.pt 1 0,.mp 30,.sl 31,.sl 32,vi s.scrubs,vi s.steps] 171] ++ bCtl s.c 1 ++ ros (bCode 25) ++ [.mp (.ar .u8 64 (nf (fun _=>0))) (mpC s.ideal),.row eInj s.inj,.row eSrv s.srv]) (.ag [vi (mDo_v0 s x),vi (mDo_v1 s x),.ar .u8 64 (nf (mDo_v2 s x))]) ([.blk [.pt 16 0,.pt 1 0,.mp 30,.sl 31,.sl 32,vi (mDo_s s x).scrubs,vi (mDo_s s x).steps] 171] ++ bCtl (mDo_s s x).c 1 ++ ros (bCode 25) ++ [.mp (.ar .u8 64 (nf (fun _=>0))) (mpC (mDo_s s x).ideal),.row eInj (mDo_s s x).inj,.row eSrv (mDo_s s x).srv]):=by
 generalize d0:mDo_s s x=yd0
 unfold mDo_s at d0
 generalize d1:mDo_v0 s x=yd1
 unfold mDo_v0 at d1
 generalize d2:mDo_v1 s x=yd2
 unfold mDo_v1 at d2
 generalize d3:mDo_v2 s x=yd3
 unfold mDo_v2 at d3
 rcases bft (stpRight x) with q1 | q1
 ·rw [cpos q1] at d0
  rw [cpos q1] at d1
  rw [cpos q1] at d2
  rw [cpos q1] at d3
  rcases bft (decide (x.kind=4)) with q2 | q2
  ·rw [cpos q2] at d0
   rw [cpos q2] at d1
   rw [cpos q2] at d2
   rw [cpos q2] at d3
   subst d0 d1 d2 d3
   exact so Tryz.f25 4 (ir 0 33) (.c [] (sRight x) (.g q1 (.t q2 (.c (ir 1 29) (cScrub s.c (ok.c.mono (by decide)) (lines_ne ok.ly)) .nil))))
  ·rw [cneg q2] at d0
   rw [cneg q2] at d1
   rw [cneg q2] at d2
   rw [cneg q2] at d3
   rcases bft (decide (x.kind=5)) with q3 | q3
   ·rw [cpos q3] at d0
    rw [cpos q3] at d1
    rw [cpos q3] at d2
    rw [cpos q3] at d3
    subst d0 d1 d2 d3
    exact so Tryz.f25 4 (ir 0 33) (.c [] (sRight x) (.g q1 (.t q2 (.t q3 (.c (ir 1 29) (cCopy s.c (ok.c.mono (by decide))) .nil)))))
   ·rw [cneg q3] at d0
    rw [cneg q3] at d1
    rw [cneg q3] at d2
    rw [cneg q3] at d3
    rcases bft (decide (x.kind=6)) with q4 | q4
    ·rw [cpos q4] at d0
     rw [cpos q4] at d1
     rw [cpos q4] at d2
     rw [cpos q4] at d3
     subst d0 d1 d2 d3
     exact so Tryz.f25 4 (ir 0 33) (.c [] (sRight x) (.g q1 (.t q2 (.t q3 (.t q4 (.c (ir 1 29) (cTick s.c (ok.c.mono (by decide))) .nil))))))
    ·rw [cneg q4] at d0
     rw [cneg q4] at d1
     rw [cneg q4] at d2
     rw [cneg q4] at d3
     rcases bft (decide (x.kind=7)) with q5 | q5
     ·rw [cpos q5] at d0
      rw [cpos q5] at d1
      rw [cpos q5] at d2
      rw [cpos q5] at d3
      subst d0 d1 d2 d3
      exact so Tryz.f25 4 (ir 0 33) (.c [] (sRight x) (.g q1 (.t q2 (.t q3 (.t q4 (.t q5 (.c (ir 1 29) (cClear s.c (ok.c.mono (by decide))) .nil)))))))
     ·rw [cneg q5] at d0
      rw [cneg q5] at d1
      rw [cneg q5] at d2
      rw [cneg q5] at d3
      rcases bft (decide (x.kind=8)) with q6 | q6
      ·rw [cpos q6] at d0
       rw [cpos q6] at d1
       rw [cpos q6] at d3
       subst d0 d1 d2 d3
       exact so Tryz.f25 4 (ir 0 33) (.c [] (sRight x) (.g q1 (.t q2 (.t q3 (.t q4 (.t q5 (.t q6 (.c (ir 0 33) (mInject { s with steps:=IntKind.i64.wrap (s.steps + 1) } x.f (⟨ok.c,ok.id,ok.il,ok.sl,ok.ly⟩)) .nil))))))))
      ·rw [cneg q6] at d0
       rw [cneg q6] at d1
       rw [cneg q6] at d3
       subst d0 d1 d2 d3
       exact so Tryz.f25 4 (ir 0 33) (.c [] (sRight x) (.g q1 (.t q2 (.t q3 (.t q4 (.t q5 (.t q6 (.c (ir 0 33) (mRequest { s with steps:=IntKind.i64.wrap (s.steps + 1) } x (⟨ok.c,ok.id,ok.il,ok.sl,ok.ly⟩) sk) .nil))))))))
 ·rw [cneg q1] at d0
  rw [cneg q1] at d1
  rw [cneg q1] at d2
  rw [cneg q1] at d3
  subst d0 d1 d2 d3
  exact so Tryz.f25 4 (ir 0 33) (.c [] (sRight x) (.g q1 .nil))
end Go.Proofs.YtfhiggfmkjmeiaaGreat
