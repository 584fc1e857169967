import Derived.Test.YtfhiggfmkjmeiaaGreatFxX
import Derived.Test.YtfhiggfmkjmeiaaGreatFCtl
set_option linter.all false
namespace Go.Proofs.YtfhiggfmkjmeiaaGreat
open Go Go.RowKit
set_option maxRecDepth 100000
def Uz (k:Int) (ln:Int) (d:Nat->Nat) (m:Nat) (f0:Int) (f1:Int) (f2:Int) (f3:Int) (f4:Int) (f5:Int) (f6:Int) (f7:Int):Int:=bif decide (k=1) then ln else (bif decide (k=2) then ln else (bif decide (k=3) then ln else 0))
def V0 (k:Int) (ln:Int) (d:Nat->Nat) (m:Nat) (f0:Int) (f1:Int) (f2:Int) (f3:Int) (f4:Int) (f5:Int) (f6:Int) (f7:Int):Nat->Nat:=bif decide (k=1) then (fun _=>0) else (bif decide (k=2) then d else (bif decide (k=3) then d else (fun _=>0)))
def V1 (k:Int) (ln:Int) (d:Nat->Nat) (m:Nat) (f0:Int) (f1:Int) (f2:Int) (f3:Int) (f4:Int) (f5:Int) (f6:Int) (f7:Int):Nat:=bif decide (k=1) then 0 else (bif decide (k=2) then 0 else (bif decide (k=3) then m else 0))
theorem Avg (k:Int) (ln:Int) (d:Nat->Nat) (m:Nat) (f0:Int) (f1:Int) (f2:Int) (f3:Int) (f4:Int) (f5:Int) (f6:Int) (f7:Int) (h8:decide (k=8)=false):Sp P 135 [.ag [vi k,vi ln,.ar .u8 64 (nf d),vu m,vi f0,vi f1,vi f2,vi f3,vi f4,vi f5,vi f6,vi f7]] [] (.ag [vi k,vi (Uz k ln d m f0 f1 f2 f3 f4 f5 f6 f7),.ar .u8 64 (nf (V0 k ln d m f0 f1 f2 f3 f4 f5 f6 f7)),vu (V1 k ln d m f0 f1 f2 f3 f4 f5 f6 f7),vn 0,vn 0,vn 0,vn 0,vn 0,vn 0,vn 0,vn 0]) []:=by
 generalize d0:Uz k ln d m f0 f1 f2 f3 f4 f5 f6 f7=yd0
 unfold Uz at d0
 generalize d1:V0 k ln d m f0 f1 f2 f3 f4 f5 f6 f7=yd1
 unfold V0 at d1
 generalize d2:V1 k ln d m f0 f1 f2 f3 f4 f5 f6 f7=yd2
 unfold V1 at d2
 rcases bft (decide (k=1)) with q1 | q1
 ·rw [A2 q1] at d0 d1 d2
  subst d0 d1 d2
  exact so Tryz.f135 5 [] (.t q1 .nil)
 ·rw [A1 q1] at d0 d1 d2
  rcases bft (decide (k=2)) with q2 | q2
  ·rw [A2 q2] at d0 d1 d2
   subst d0 d1 d2
   exact so Tryz.f135 5 [] (.t q1 (.t q2 .nil))
  ·rw [A1 q2] at d0 d1 d2
   rcases bft (decide (k=3)) with q3 | q3
   ·rw [A2 q3] at d0 d1 d2
    subst d0 d1 d2
    exact so Tryz.f135 5 [] (.t q1 (.t q2 (.t q3 .nil)))
   ·rw [A1 q3] at d0 d1 d2
    subst d0 d1 d2
    exact so Tryz.f135 5 [] (.t q1 (.t q2 (.t q3 (.t h8 .nil))))
theorem A0k (k:Int) (ln:Int) (d:Nat->Nat) (m:Nat) (f1:Int) (f2:Int) (f3:Int) (f4:Int) (f5:Int) (f6:Int) (f7:Int) :Sp P 207 [.pt 0 67] [.blk [vi k,vi ln,.ar .u8 64 (nf d),vu m,vn 1,vi f1,vi f2,vi f3,vi f4,vi f5,vi f6,vi f7] 50] (.sg 1 0 1 5) [.blk [vi k,vi ln,.ar .u8 64 (nf d),vu m,vn 1,vi f1,vi f2,vi f3,vi f4,vi f5,vi f6,vi f7] 50,.blk [.pt 0 68,.pt 0 69,.pt 0 70,.pt 0 71,.pt 0 73] 331] :=
 so Tryz.f207 3 [.id 0,.id 2] (.y .nil)
theorem A0l (k:Int) (ln:Int) (d:Nat->Nat) (m:Nat) (f1:Int) (f2:Int) (f3:Int) (f4:Int) (f5:Int) (f6:Int) (f7:Int) :Sp P 207 [.pt 0 67] [.blk [vi k,vi ln,.ar .u8 64 (nf d),vu m,vn 2,vi f1,vi f2,vi f3,vi f4,vi f5,vi f6,vi f7] 50] (.sg 1 0 1 6) [.blk [vi k,vi ln,.ar .u8 64 (nf d),vu m,vn 2,vi f1,vi f2,vi f3,vi f4,vi f5,vi f6,vi f7] 50,.blk [.pt 0 68,.pt 0 69,.pt 0 70,.pt 0 71,.pt 0 73,.pt 0 74] 331] :=
 so Tryz.f207 3 [.id 0,.id 2] (.n (.y .nil))
theorem A0m (k:Int) (ln:Int) (d:Nat->Nat) (m:Nat) (f1:Int) (f2:Int) (f3:Int) (f4:Int) (f5:Int) (f6:Int) (f7:Int) :Sp P 207 [.pt 0 67] [.blk [vi k,vi ln,.ar .u8 64 (nf d),vu m,vn 3,vi f1,vi f2,vi f3,vi f4,vi f5,vi f6,vi f7] 50] (.sg 1 0 1 5) [.blk [vi k,vi ln,.ar .u8 64 (nf d),vu m,vn 3,vi f1,vi f2,vi f3,vi f4,vi f5,vi f6,vi f7] 50,.blk [.pt 0 68,.pt 0 69,.pt 0 70,.pt 0 72,.pt 0 74] 331] :=
 so Tryz.f207 3 [.id 0,.id 2] (.n2 (.y .nil))
theorem A0n (k:Int) (ln:Int) (d:Nat->Nat) (m:Nat) (f1:Int) (f2:Int) (f3:Int) (f4:Int) (f5:Int) (f6:Int) (f7:Int) :Sp P 207 [.pt 0 67] [.blk [vi k,vi ln,.ar .u8 64 (nf d),vu m,vn 4,vi f1,vi f2,vi f3,vi f4,vi f5,vi f6,vi f7] 50] (.sg 1 0 1 5) [.blk [vi k,vi ln,.ar .u8 64 (nf d),vu m,vn 4,vi f1,vi f2,vi f3,vi f4,vi f5,vi f6,vi f7] 50,.blk [.pt 0 68,.pt 0 69,.pt 0 71,.pt 0 72,.pt 0 74] 331] :=
 so Tryz.f207 3 [.id 0,.id 2] (.n2 (.n (.y .nil)))
theorem A0o (k:Int) (ln:Int) (d:Nat->Nat) (m:Nat) (f1:Int) (f2:Int) (f3:Int) (f4:Int) (f5:Int) (f6:Int) (f7:Int) :Sp P 207 [.pt 0 67] [.blk [vi k,vi ln,.ar .u8 64 (nf d),vu m,vn 5,vi f1,vi f2,vi f3,vi f4,vi f5,vi f6,vi f7] 50] (.sg 1 0 1 3) [.blk [vi k,vi ln,.ar .u8 64 (nf d),vu m,vn 5,vi f1,vi f2,vi f3,vi f4,vi f5,vi f6,vi f7] 50,.blk [.pt 0 68,.pt 0 72,.pt 0 74] 331] :=
 so Tryz.f207 3 [.id 0,.id 2] (.n4 (.y .nil))
theorem A0p (k:Int) (ln:Int) (d:Nat->Nat) (m:Nat) (f1:Int) (f2:Int) (f3:Int) (f4:Int) (f5:Int) (f6:Int) (f7:Int) :Sp P 207 [.pt 0 67] [.blk [vi k,vi ln,.ar .u8 64 (nf d),vu m,vn 6,vi f1,vi f2,vi f3,vi f4,vi f5,vi f6,vi f7] 50] (.sg 1 0 1 4) [.blk [vi k,vi ln,.ar .u8 64 (nf d),vu m,vn 6,vi f1,vi f2,vi f3,vi f4,vi f5,vi f6,vi f7] 50,.blk [.pt 0 68,.pt 0 69,.pt 0 70,.pt 0 71] 331] :=
 so Tryz.f207 3 [.id 0,.id 2] (.n4 (.n (.y .nil)))
theorem A0q (k:Int) (ln:Int) (d:Nat->Nat) (m:Nat) (f1:Int) (f2:Int) (f3:Int) (f4:Int) (f5:Int) (f6:Int) (f7:Int) :Sp P 207 [.pt 0 67] [.blk [vi k,vi ln,.ar .u8 64 (nf d),vu m,vn 7,vi f1,vi f2,vi f3,vi f4,vi f5,vi f6,vi f7] 50] (A64) [.blk [vi k,vi ln,.ar .u8 64 (nf d),vu m,vn 7,vi f1,vi f2,vi f3,vi f4,vi f5,vi f6,vi f7] 50] :=
 so Tryz.f207 3 [.id 0] (.n4 (.n2 .nil))
theorem Aa4 (ln:Int) (d:Nat->Nat) (m:Nat) (f1:Int) (f2:Int) (f3:Int) (f4:Int) (f5:Int) (f6:Int) (f7:Int) :Sp P 135 [.ag [vn 8,vi ln,.ar .u8 64 (nf d),vu m,vn 1,vi f1,vi f2,vi f3,vi f4,vi f5,vi f6,vi f7]] [] (.ag [vi 8,vi 0,.ar .u8 64 (nf (fun _=>0)),vu 0,vn 1,vi f1,vi f2,vi f3,vi f4,vi 0,vi f6,vi 0]) [] :=
 so Tryz.f135 12 [] (.n2 (.n (.y (.c [.id 3] (A0k 8 0 (fun _=>0) 0 0 0 0 0 0 0 0) (.c [.id 1] (A0k 8 ln d m f1 f2 f3 f4 f5 f6 f7) (.lu 5 (.y (.ix (i:=0) (m:=5) (by decide) (.ix (i:=0) (m:=5) (by decide) (.y (.ix (i:=1) (m:=5) (by decide) (.ix (i:=1) (m:=5) (by decide) (.y (.ix (i:=2) (m:=5) (by decide) (.ix (i:=2) (m:=5) (by decide) (.y (.ix (i:=3) (m:=5) (by decide) (.ix (i:=3) (m:=5) (by decide) (.y (.ix (i:=4) (m:=5) (by decide) (.ix (i:=4) (m:=5) (by decide) (.n .nil))))))))))))))))))))))
theorem Aa5 (ln:Int) (d:Nat->Nat) (m:Nat) (f1:Int) (f2:Int) (f3:Int) (f4:Int) (f5:Int) (f6:Int) (f7:Int) :Sp P 135 [.ag [vn 8,vi ln,.ar .u8 64 (nf d),vu m,vn 2,vi f1,vi f2,vi f3,vi f4,vi f5,vi f6,vi f7]] [] (.ag [vi 8,vi 0,.ar .u8 64 (nf (fun _=>0)),vu 0,vn 2,vi f1,vi f2,vi f3,vi f4,vi 0,vi f6,vi f7]) [] :=
 so Tryz.f135 13 [] (.n2 (.n (.y (.c [.id 3] (A0l 8 0 (fun _=>0) 0 0 0 0 0 0 0 0) (.c [.id 1] (A0l 8 ln d m f1 f2 f3 f4 f5 f6 f7) (.lu 6 (.y (.ix (i:=0) (m:=6) (by decide) (.ix (i:=0) (m:=6) (by decide) (.y (.ix (i:=1) (m:=6) (by decide) (.ix (i:=1) (m:=6) (by decide) (.y (.ix (i:=2) (m:=6) (by decide) (.ix (i:=2) (m:=6) (by decide) (.y (.ix (i:=3) (m:=6) (by decide) (.ix (i:=3) (m:=6) (by decide) (.y (.ix (i:=4) (m:=6) (by decide) (.ix (i:=4) (m:=6) (by decide) (.y (.ix (i:=5) (m:=6) (by decide) (.ix (i:=5) (m:=6) (by decide) (.n .nil)))))))))))))))))))))))))
theorem Aa6 (ln:Int) (d:Nat->Nat) (m:Nat) (f1:Int) (f2:Int) (f3:Int) (f4:Int) (f5:Int) (f6:Int) (f7:Int) :Sp P 135 [.ag [vn 8,vi ln,.ar .u8 64 (nf d),vu m,vn 3,vi f1,vi f2,vi f3,vi f4,vi f5,vi f6,vi f7]] [] (.ag [vi 8,vi 0,.ar .u8 64 (nf (fun _=>0)),vu 0,vn 3,vi f1,vi f2,vi f3,vi 0,vi f5,vi 0,vi f7]) [] :=
 so Tryz.f135 12 [] (.n2 (.n (.y (.c [.id 3] (A0m 8 0 (fun _=>0) 0 0 0 0 0 0 0 0) (.c [.id 1] (A0m 8 ln d m f1 f2 f3 f4 f5 f6 f7) (.lu 5 (.y (.ix (i:=0) (m:=5) (by decide) (.ix (i:=0) (m:=5) (by decide) (.y (.ix (i:=1) (m:=5) (by decide) (.ix (i:=1) (m:=5) (by decide) (.y (.ix (i:=2) (m:=5) (by decide) (.ix (i:=2) (m:=5) (by decide) (.y (.ix (i:=3) (m:=5) (by decide) (.ix (i:=3) (m:=5) (by decide) (.y (.ix (i:=4) (m:=5) (by decide) (.ix (i:=4) (m:=5) (by decide) (.n .nil))))))))))))))))))))))
theorem Aa7 (ln:Int) (d:Nat->Nat) (m:Nat) (f1:Int) (f2:Int) (f3:Int) (f4:Int) (f5:Int) (f6:Int) (f7:Int) :Sp P 135 [.ag [vn 8,vi ln,.ar .u8 64 (nf d),vu m,vn 4,vi f1,vi f2,vi f3,vi f4,vi f5,vi f6,vi f7]] [] (.ag [vi 8,vi 0,.ar .u8 64 (nf (fun _=>0)),vu 0,vn 4,vi f1,vi f2,vi 0,vi f4,vi f5,vi 0,vi f7]) [] :=
 so Tryz.f135 12 [] (.n2 (.n (.y (.c [.id 3] (A0n 8 0 (fun _=>0) 0 0 0 0 0 0 0 0) (.c [.id 1] (A0n 8 ln d m f1 f2 f3 f4 f5 f6 f7) (.lu 5 (.y (.ix (i:=0) (m:=5) (by decide) (.ix (i:=0) (m:=5) (by decide) (.y (.ix (i:=1) (m:=5) (by decide) (.ix (i:=1) (m:=5) (by decide) (.y (.ix (i:=2) (m:=5) (by decide) (.ix (i:=2) (m:=5) (by decide) (.y (.ix (i:=3) (m:=5) (by decide) (.ix (i:=3) (m:=5) (by decide) (.y (.ix (i:=4) (m:=5) (by decide) (.ix (i:=4) (m:=5) (by decide) (.n .nil))))))))))))))))))))))
theorem Aa8 (ln:Int) (d:Nat->Nat) (m:Nat) (f1:Int) (f2:Int) (f3:Int) (f4:Int) (f5:Int) (f6:Int) (f7:Int) :Sp P 135 [.ag [vn 8,vi ln,.ar .u8 64 (nf d),vu m,vn 5,vi f1,vi f2,vi f3,vi f4,vi f5,vi f6,vi f7]] [] (.ag [vi 8,vi 0,.ar .u8 64 (nf (fun _=>0)),vu 0,vn 5,vi f1,vi 0,vi 0,vi 0,vi f5,vi 0,vi f7]) [] :=
 so Tryz.f135 10 [] (.n2 (.n (.y (.c [.id 3] (A0o 8 0 (fun _=>0) 0 0 0 0 0 0 0 0) (.c [.id 1] (A0o 8 ln d m f1 f2 f3 f4 f5 f6 f7) (.lu 3 (.y (.ix (i:=0) (m:=3) (by decide) (.ix (i:=0) (m:=3) (by decide) (.y (.ix (i:=1) (m:=3) (by decide) (.ix (i:=1) (m:=3) (by decide) (.y (.ix (i:=2) (m:=3) (by decide) (.ix (i:=2) (m:=3) (by decide) (.n .nil))))))))))))))))
theorem Aa9 (ln:Int) (d:Nat->Nat) (m:Nat) (f1:Int) (f2:Int) (f3:Int) (f4:Int) (f5:Int) (f6:Int) (f7:Int) :Sp P 135 [.ag [vn 8,vi ln,.ar .u8 64 (nf d),vu m,vn 6,vi f1,vi f2,vi f3,vi f4,vi f5,vi f6,vi f7]] [] (.ag [vi 8,vi 0,.ar .u8 64 (nf (fun _=>0)),vu 0,vn 6,vi f1,vi f2,vi f3,vi f4,vi 0,vi 0,vi 0]) [] :=
 so Tryz.f135 11 [] (.n2 (.n (.y (.c [.id 3] (A0p 8 0 (fun _=>0) 0 0 0 0 0 0 0 0) (.c [.id 1] (A0p 8 ln d m f1 f2 f3 f4 f5 f6 f7) (.lu 4 (.y (.ix (i:=0) (m:=4) (by decide) (.ix (i:=0) (m:=4) (by decide) (.y (.ix (i:=1) (m:=4) (by decide) (.ix (i:=1) (m:=4) (by decide) (.y (.ix (i:=2) (m:=4) (by decide) (.ix (i:=2) (m:=4) (by decide) (.y (.ix (i:=3) (m:=4) (by decide) (.ix (i:=3) (m:=4) (by decide) (.n .nil)))))))))))))))))))
theorem Aaa (ln:Int) (d:Nat->Nat) (m:Nat) (f1:Int) (f2:Int) (f3:Int) (f4:Int) (f5:Int) (f6:Int) (f7:Int) :Sp P 135 [.ag [vn 8,vi ln,.ar .u8 64 (nf d),vu m,vn 7,vi f1,vi f2,vi f3,vi f4,vi f5,vi f6,vi f7]] [] (.ag [vi 8,vi 0,.ar .u8 64 (nf (fun _=>0)),vu 0,vn 7,vi 0,vi 0,vi 0,vi 0,vi 0,vi 0,vi 0]) [] :=
 so Tryz.f135 5 [] (.n2 (.n (.y (.c [.id 3] (A0q 8 0 (fun _=>0) 0 0 0 0 0 0 0 0) (.c [.id 1] (A0q 8 ln d m f1 f2 f3 f4 f5 f6 f7) (.lu 0 (.n .nil)))))))
def A3s (k:Int) (ln:Int) (d:Nat->Nat) (m:Nat) (f0:Int) (f1:Int) (f2:Int) (f3:Int) (f4:Int) (f5:Int) (f6:Int) (f7:Int):=((decide (k=k)) && ((decide (ln=(Uz k ln d m f0 f1 f2 f3 f4 f5 f6 f7))) && ((eqA (nf d) (nf (V0 k ln d m f0 f1 f2 f3 f4 f5 f6 f7)) 64 0) && ((decide ((m:Int)=(((V1 k ln d m f0 f1 f2 f3 f4 f5 f6 f7):Nat):Int))) && (((decide (f0=0)) && (((decide (f1=0)) && ((decide (f2=0)) && ((decide (f3=0)) && ((decide (f4=0)) && true)))) && ((decide (f5=0)) && ((decide (f6=0)) && ((decide (f7=0)) && true))))) && true)))))
def Oo (k:Int) (ln:Int) (d:Nat->Nat) (m:Nat) (f0:Int) (f1:Int) (f2:Int) (f3:Int) (f4:Int) (f5:Int) (f6:Int) (f7:Int):Bool:=bif decide (k < 1) then false else (bif decide (8 < k) then false else (bif (A3s k ln d m f0 f1 f2 f3 f4 f5 f6 f7) then true else false))
theorem Ayp (k:Int) (ln:Int) (d:Nat->Nat) (m:Nat) (f0:Int) (f1:Int) (f2:Int) (f3:Int) (f4:Int) (f5:Int) (f6:Int) (f7:Int) (h8:decide (k=8)=false):Sp P 66 [.ag [vi k,vi ln,.ar .u8 64 (nf d),vu m,vi f0,vi f1,vi f2,vi f3,vi f4,vi f5,vi f6,vi f7]] [] (vt (Oo k ln d m f0 f1 f2 f3 f4 f5 f6 f7)) []:=by
 generalize d0:Oo k ln d m f0 f1 f2 f3 f4 f5 f6 f7=yd0
 unfold Oo at d0
 rcases bft (decide (k < 1)) with q1 | q1
 ·rw [A2 q1] at d0
  subst d0
  exact so Tryz.f66 3 [] (.t4 q1 (.y4 (.y2 .nil)))
 ·rw [A1 q1] at d0
  have q1':=ofq q1
  rcases bft (decide (8 < k)) with q2 | q2
  ·rw [A2 q2] at d0
   subst d0
   exact so Tryz.f66 3 [] (.t4 q1 (.t4 q2 (.t q2 (.y .nil))))
  ·rw [A1 q2] at d0
   have q2':=ofq q2
   rcases bft (A3s k ln d m f0 f1 f2 f3 f4 f5 f6 f7) with q3 | q3
   ·rw [A2 q3] at d0
    subst d0
    exact so Tryz.f66 4 [] (.t4 q1 (.t2 q2 (.t q2 (.c [] (Avg k ln d m f0 f1 f2 f3 f4 f5 f6 f7 (by first | assumption | omega)) (.t2 q2 (.g q3 (.g h8 (.g h8 (.g h8 (.g h8 (.g h8 (.g h8 (.g h8 .nil)))))))))))))
   ·rw [A1 q3] at d0
    subst d0
    exact so Tryz.f66 4 [] (.t4 q1 (.t2 q2 (.t q2 (.c [] (Avg k ln d m f0 f1 f2 f3 f4 f5 f6 f7 (by first | assumption | omega)) (.t2 q2 (.g q3 .nil))))))
def V3 (ln:Int) (d:Nat->Nat) (m:Nat) (f1:Int) (f2:Int) (f3:Int) (f4:Int) (f5:Int) (f6:Int) (f7:Int):=(true && ((decide (ln=0)) && ((eqA (nf d) (nf (fun _=>0)) 64 0) && ((decide ((m:Int)=0)) && ((true && (((decide (f1=f1)) && ((decide (f2=f2)) && ((decide (f3=f3)) && ((decide (f4=f4)) && true)))) && ((decide (f5=0)) && ((decide (f6=f6)) && ((decide (f7=0)) && true))))) && true)))))
def Lu (ln:Int) (d:Nat->Nat) (m:Nat) (f1:Int) (f2:Int) (f3:Int) (f4:Int) (f5:Int) (f6:Int) (f7:Int):Bool:=bif (V3 ln d m f1 f2 f3 f4 f5 f6 f7) then true else false
theorem Aj7 (ln:Int) (d:Nat->Nat) (m:Nat) (f1:Int) (f2:Int) (f3:Int) (f4:Int) (f5:Int) (f6:Int) (f7:Int) :Sp P 66 [.ag [vn 8,vi ln,.ar .u8 64 (nf d),vu m,vn 1,vi f1,vi f2,vi f3,vi f4,vi f5,vi f6,vi f7]] [] (vt (Lu ln d m f1 f2 f3 f4 f5 f6 f7)) []:=by
 generalize d0:Lu ln d m f1 f2 f3 f4 f5 f6 f7=yd0
 unfold Lu at d0
 rcases bft (V3 ln d m f1 f2 f3 f4 f5 f6 f7) with q1 | q1
 ·rw [A2 q1] at d0
  subst d0
  exact so Tryz.f66 4 [] (.n4 (.n2 (.n (.c [] (Aa4 ln d m f1 f2 f3 f4 f5 f6 f7) (.n2 (.g q1 (.n4 (.n (.y4 (.n (.y (.n .nil))))))))))))
 ·rw [A1 q1] at d0
  subst d0
  exact so Tryz.f66 4 [] (.n4 (.n2 (.n (.c [] (Aa4 ln d m f1 f2 f3 f4 f5 f6 f7) (.n2 (.g q1 .nil))))))
def V4 (ln:Int) (d:Nat->Nat) (m:Nat) (f1:Int) (f2:Int) (f3:Int) (f4:Int) (f5:Int) (f6:Int) (f7:Int):=(true && ((decide (ln=0)) && ((eqA (nf d) (nf (fun _=>0)) 64 0) && ((decide ((m:Int)=0)) && ((true && (((decide (f1=f1)) && ((decide (f2=f2)) && ((decide (f3=f3)) && ((decide (f4=f4)) && true)))) && ((decide (f5=0)) && ((decide (f6=f6)) && ((decide (f7=f7)) && true))))) && true)))))
def Lv (ln:Int) (d:Nat->Nat) (m:Nat) (f1:Int) (f2:Int) (f3:Int) (f4:Int) (f5:Int) (f6:Int) (f7:Int):Bool:=bif (V4 ln d m f1 f2 f3 f4 f5 f6 f7) then true else false
theorem Aj8 (ln:Int) (d:Nat->Nat) (m:Nat) (f1:Int) (f2:Int) (f3:Int) (f4:Int) (f5:Int) (f6:Int) (f7:Int) :Sp P 66 [.ag [vn 8,vi ln,.ar .u8 64 (nf d),vu m,vn 2,vi f1,vi f2,vi f3,vi f4,vi f5,vi f6,vi f7]] [] (vt (Lv ln d m f1 f2 f3 f4 f5 f6 f7)) []:=by
 generalize d0:Lv ln d m f1 f2 f3 f4 f5 f6 f7=yd0
 unfold Lv at d0
 rcases bft (V4 ln d m f1 f2 f3 f4 f5 f6 f7) with q1 | q1
 ·rw [A2 q1] at d0
  subst d0
  exact so Tryz.f66 4 [] (.n4 (.n2 (.n (.c [] (Aa5 ln d m f1 f2 f3 f4 f5 f6 f7) (.n2 (.g q1 (.n4 (.n (.y4 (.n (.y (.n .nil))))))))))))
 ·rw [A1 q1] at d0
  subst d0
  exact so Tryz.f66 4 [] (.n4 (.n2 (.n (.c [] (Aa5 ln d m f1 f2 f3 f4 f5 f6 f7) (.n2 (.g q1 .nil))))))
def V5 (ln:Int) (d:Nat->Nat) (m:Nat) (f1:Int) (f2:Int) (f3:Int) (f4:Int) (f5:Int) (f6:Int) (f7:Int):=(true && ((decide (ln=0)) && ((eqA (nf d) (nf (fun _=>0)) 64 0) && ((decide ((m:Int)=0)) && ((true && (((decide (f1=f1)) && ((decide (f2=f2)) && ((decide (f3=f3)) && ((decide (f4=0)) && true)))) && ((decide (f5=f5)) && ((decide (f6=0)) && ((decide (f7=f7)) && true))))) && true)))))
def Lw (ln:Int) (d:Nat->Nat) (m:Nat) (f1:Int) (f2:Int) (f3:Int) (f4:Int) (f5:Int) (f6:Int) (f7:Int):Bool:=bif (V5 ln d m f1 f2 f3 f4 f5 f6 f7) then true else false
theorem Aj9 (ln:Int) (d:Nat->Nat) (m:Nat) (f1:Int) (f2:Int) (f3:Int) (f4:Int) (f5:Int) (f6:Int) (f7:Int) :Sp P 66 [.ag [vn 8,vi ln,.ar .u8 64 (nf d),vu m,vn 3,vi f1,vi f2,vi f3,vi f4,vi f5,vi f6,vi f7]] [] (vt (Lw ln d m f1 f2 f3 f4 f5 f6 f7)) []:=by
 generalize d0:Lw ln d m f1 f2 f3 f4 f5 f6 f7=yd0
 unfold Lw at d0
 rcases bft (V5 ln d m f1 f2 f3 f4 f5 f6 f7) with q1 | q1
 ·rw [A2 q1] at d0
  subst d0
  exact so Tryz.f66 4 [] (.n4 (.n2 (.n (.c [] (Aa6 ln d m f1 f2 f3 f4 f5 f6 f7) (.n2 (.g q1 (.n4 (.n (.y4 (.n (.y (.n .nil))))))))))))
 ·rw [A1 q1] at d0
  subst d0
  exact so Tryz.f66 4 [] (.n4 (.n2 (.n (.c [] (Aa6 ln d m f1 f2 f3 f4 f5 f6 f7) (.n2 (.g q1 .nil))))))
def V6 (ln:Int) (d:Nat->Nat) (m:Nat) (f1:Int) (f2:Int) (f3:Int) (f4:Int) (f5:Int) (f6:Int) (f7:Int):=(true && ((decide (ln=0)) && ((eqA (nf d) (nf (fun _=>0)) 64 0) && ((decide ((m:Int)=0)) && ((true && (((decide (f1=f1)) && ((decide (f2=f2)) && ((decide (f3=0)) && ((decide (f4=f4)) && true)))) && ((decide (f5=f5)) && ((decide (f6=0)) && ((decide (f7=f7)) && true))))) && true)))))
def Lx (ln:Int) (d:Nat->Nat) (m:Nat) (f1:Int) (f2:Int) (f3:Int) (f4:Int) (f5:Int) (f6:Int) (f7:Int):Bool:=bif (V6 ln d m f1 f2 f3 f4 f5 f6 f7) then true else false
theorem Aja (ln:Int) (d:Nat->Nat) (m:Nat) (f1:Int) (f2:Int) (f3:Int) (f4:Int) (f5:Int) (f6:Int) (f7:Int) :Sp P 66 [.ag [vn 8,vi ln,.ar .u8 64 (nf d),vu m,vn 4,vi f1,vi f2,vi f3,vi f4,vi f5,vi f6,vi f7]] [] (vt (Lx ln d m f1 f2 f3 f4 f5 f6 f7)) []:=by
 generalize d0:Lx ln d m f1 f2 f3 f4 f5 f6 f7=yd0
 unfold Lx at d0
 rcases bft (V6 ln d m f1 f2 f3 f4 f5 f6 f7) with q1 | q1
 ·rw [A2 q1] at d0
  subst d0
  exact so Tryz.f66 4 [] (.n4 (.n2 (.n (.c [] (Aa7 ln d m f1 f2 f3 f4 f5 f6 f7) (.n2 (.g q1 (.n4 (.n (.y4 (.n (.y (.n .nil))))))))))))
 ·rw [A1 q1] at d0
  subst d0
  exact so Tryz.f66 4 [] (.n4 (.n2 (.n (.c [] (Aa7 ln d m f1 f2 f3 f4 f5 f6 f7) (.n2 (.g q1 .nil))))))
def V7 (ln:Int) (d:Nat->Nat) (m:Nat) (f1:Int) (f2:Int) (f3:Int) (f4:Int) (f5:Int) (f6:Int) (f7:Int):=(true && ((decide (ln=0)) && ((eqA (nf d) (nf (fun _=>0)) 64 0) && ((decide ((m:Int)=0)) && ((true && (((decide (f1=f1)) && ((decide (f2=0)) && ((decide (f3=0)) && ((decide (f4=0)) && true)))) && ((decide (f5=f5)) && ((decide (f6=0)) && ((decide (f7=f7)) && true))))) && true)))))
def Lz (ln:Int) (d:Nat->Nat) (m:Nat) (f1:Int) (f2:Int) (f3:Int) (f4:Int) (f5:Int) (f6:Int) (f7:Int):Bool:=bif (V7 ln d m f1 f2 f3 f4 f5 f6 f7) then true else false
theorem Ajb (ln:Int) (d:Nat->Nat) (m:Nat) (f1:Int) (f2:Int) (f3:Int) (f4:Int) (f5:Int) (f6:Int) (f7:Int) :Sp P 66 [.ag [vn 8,vi ln,.ar .u8 64 (nf d),vu m,vn 5,vi f1,vi f2,vi f3,vi f4,vi f5,vi f6,vi f7]] [] (vt (Lz ln d m f1 f2 f3 f4 f5 f6 f7)) []:=by
 generalize d0:Lz ln d m f1 f2 f3 f4 f5 f6 f7=yd0
 unfold Lz at d0
 rcases bft (V7 ln d m f1 f2 f3 f4 f5 f6 f7) with q1 | q1
 ·rw [A2 q1] at d0
  subst d0
  exact so Tryz.f66 4 [] (.n4 (.n2 (.n (.c [] (Aa8 ln d m f1 f2 f3 f4 f5 f6 f7) (.n2 (.g q1 (.n4 (.n (.y4 (.n (.y (.n .nil))))))))))))
 ·rw [A1 q1] at d0
  subst d0
  exact so Tryz.f66 4 [] (.n4 (.n2 (.n (.c [] (Aa8 ln d m f1 f2 f3 f4 f5 f6 f7) (.n2 (.g q1 .nil))))))
def V8 (ln:Int) (d:Nat->Nat) (m:Nat) (f1:Int) (f2:Int) (f3:Int) (f4:Int) (f5:Int) (f6:Int) (f7:Int):=(true && ((decide (ln=0)) && ((eqA (nf d) (nf (fun _=>0)) 64 0) && ((decide ((m:Int)=0)) && ((true && (((decide (f1=f1)) && ((decide (f2=f2)) && ((decide (f3=f3)) && ((decide (f4=f4)) && true)))) && ((decide (f5=0)) && ((decide (f6=0)) && ((decide (f7=0)) && true))))) && true)))))
def M0 (ln:Int) (d:Nat->Nat) (m:Nat) (f1:Int) (f2:Int) (f3:Int) (f4:Int) (f5:Int) (f6:Int) (f7:Int):Bool:=bif (V8 ln d m f1 f2 f3 f4 f5 f6 f7) then true else false
theorem Ajc (ln:Int) (d:Nat->Nat) (m:Nat) (f1:Int) (f2:Int) (f3:Int) (f4:Int) (f5:Int) (f6:Int) (f7:Int) :Sp P 66 [.ag [vn 8,vi ln,.ar .u8 64 (nf d),vu m,vn 6,vi f1,vi f2,vi f3,vi f4,vi f5,vi f6,vi f7]] [] (vt (M0 ln d m f1 f2 f3 f4 f5 f6 f7)) []:=by
 generalize d0:M0 ln d m f1 f2 f3 f4 f5 f6 f7=yd0
 unfold M0 at d0
 rcases bft (V8 ln d m f1 f2 f3 f4 f5 f6 f7) with q1 | q1
 ·rw [A2 q1] at d0
  subst d0
  exact so Tryz.f66 4 [] (.n4 (.n2 (.n (.c [] (Aa9 ln d m f1 f2 f3 f4 f5 f6 f7) (.n2 (.g q1 (.n4 (.n (.y4 (.n (.y (.n .nil))))))))))))
 ·rw [A1 q1] at d0
  subst d0
  exact so Tryz.f66 4 [] (.n4 (.n2 (.n (.c [] (Aa9 ln d m f1 f2 f3 f4 f5 f6 f7) (.n2 (.g q1 .nil))))))
def V9 (ln:Int) (d:Nat->Nat) (m:Nat) (f1:Int) (f2:Int) (f3:Int) (f4:Int) (f5:Int) (f6:Int) (f7:Int):=(true && ((decide (ln=0)) && ((eqA (nf d) (nf (fun _=>0)) 64 0) && ((decide ((m:Int)=0)) && ((true && (((decide (f1=0)) && ((decide (f2=0)) && ((decide (f3=0)) && ((decide (f4=0)) && true)))) && ((decide (f5=0)) && ((decide (f6=0)) && ((decide (f7=0)) && true))))) && true)))))
def M1 (ln:Int) (d:Nat->Nat) (m:Nat) (f1:Int) (f2:Int) (f3:Int) (f4:Int) (f5:Int) (f6:Int) (f7:Int):Bool:=bif (V9 ln d m f1 f2 f3 f4 f5 f6 f7) then true else false
theorem Ajd (ln:Int) (d:Nat->Nat) (m:Nat) (f1:Int) (f2:Int) (f3:Int) (f4:Int) (f5:Int) (f6:Int) (f7:Int) :Sp P 66 [.ag [vn 8,vi ln,.ar .u8 64 (nf d),vu m,vn 7,vi f1,vi f2,vi f3,vi f4,vi f5,vi f6,vi f7]] [] (vt (M1 ln d m f1 f2 f3 f4 f5 f6 f7)) []:=by
 generalize d0:M1 ln d m f1 f2 f3 f4 f5 f6 f7=yd0
 unfold M1 at d0
 rcases bft (V9 ln d m f1 f2 f3 f4 f5 f6 f7) with q1 | q1
 ·rw [A2 q1] at d0
  subst d0
  exact so Tryz.f66 4 [] (.n4 (.n2 (.n (.c [] (Aaa ln d m f1 f2 f3 f4 f5 f6 f7) (.n2 (.g q1 (.n4 (.n (.y4 (.n (.y (.n .nil))))))))))))
 ·rw [A1 q1] at d0
  subst d0
  exact so Tryz.f66 4 [] (.n4 (.n2 (.n (.c [] (Aaa ln d m f1 f2 f3 f4 f5 f6 f7) (.n2 (.g q1 .nil))))))
theorem A0r (ln:Int) (d:Nat->Nat) (m:Nat) (f0:Int) (f1:Int) (f2:Int) (f3:Int) (f4:Int) (f5:Int) (f6:Int) (f7:Int) (n1:decide (f0=1)=false) (n2:decide (f0=2)=false) (n3:decide (f0=3)=false) (n4:decide (f0=4)=false) (n5:decide (f0=5)=false) (n6:decide (f0=6)=false) (n7:decide (f0=7)=false):Sp P 207 [.pt 0 67] [.blk [vn 8,vi ln,.ar .u8 64 (nf d),vu m,vi f0,vi f1,vi f2,vi f3,vi f4,vi f5,vi f6,vi f7] 50] (A64) [.blk [vn 8,vi ln,.ar .u8 64 (nf d),vu m,vi f0,vi f1,vi f2,vi f3,vi f4,vi f5,vi f6,vi f7] 50] :=
 so Tryz.f207 3 [.id 0] (.t n1 (.t n2 (.t n3 (.t n4 (.t n5 (.t n6 .nil))))))
theorem A1b (ln:Int) (d:Nat->Nat) (m:Nat) (f0:Int) (f1:Int) (f2:Int) (f3:Int) (f4:Int) (f5:Int) (f6:Int) (f7:Int) (n1:decide (f0=1)=false) (n2:decide (f0=2)=false) (n3:decide (f0=3)=false) (n4:decide (f0=4)=false) (n5:decide (f0=5)=false) (n6:decide (f0=6)=false) (n7:decide (f0=7)=false):Sp P 135 [.ag [vn 8,vi ln,.ar .u8 64 (nf d),vu m,vi f0,vi f1,vi f2,vi f3,vi f4,vi f5,vi f6,vi f7]] [] (.ag [vn 8,vi 0,.ar .u8 64 (nf (fun _=>0)),vu 0,vi f0,vi 0,vi 0,vi 0,vi 0,vi 0,vi 0,vi 0]) [] :=
 so Tryz.f135 5 [] (.n2 (.n (.y (.c [.id 3] (A0r 0 (fun _=>0) 0 f0 0 0 0 0 0 0 0 (by first | assumption | omega) (by first | assumption | omega) (by first | assumption | omega) (by first | assumption | omega) (by first | assumption | omega) (by first | assumption | omega) (by first | assumption | omega)) (.c [.id 1] (A0r ln d m f0 f1 f2 f3 f4 f5 f6 f7 (by first | assumption | omega) (by first | assumption | omega) (by first | assumption | omega) (by first | assumption | omega) (by first | assumption | omega) (by first | assumption | omega) (by first | assumption | omega)) (.lu 0 (.n .nil)))))))
def Va (ln:Int) (d:Nat->Nat) (m:Nat) (f0:Int) (f1:Int) (f2:Int) (f3:Int) (f4:Int) (f5:Int) (f6:Int) (f7:Int):=(true && ((decide (ln=0)) && ((eqA (nf d) (nf (fun _=>0)) 64 0) && ((decide ((m:Int)=0)) && (((decide (f0=f0)) && (((decide (f1=0)) && ((decide (f2=0)) && ((decide (f3=0)) && ((decide (f4=0)) && true)))) && ((decide (f5=0)) && ((decide (f6=0)) && ((decide (f7=0)) && true))))) && true)))))
def M2 (ln:Int) (d:Nat->Nat) (m:Nat) (f0:Int) (f1:Int) (f2:Int) (f3:Int) (f4:Int) (f5:Int) (f6:Int) (f7:Int):Bool:=bif (Va ln d m f0 f1 f2 f3 f4 f5 f6 f7) then (bif decide (1<=f0) then (decide (f0<=7)) else false) else false
theorem Aje (ln:Int) (d:Nat->Nat) (m:Nat) (f0:Int) (f1:Int) (f2:Int) (f3:Int) (f4:Int) (f5:Int) (f6:Int) (f7:Int) (n1:decide (f0=1)=false) (n2:decide (f0=2)=false) (n3:decide (f0=3)=false) (n4:decide (f0=4)=false) (n5:decide (f0=5)=false) (n6:decide (f0=6)=false) (n7:decide (f0=7)=false):Sp P 66 [.ag [vn 8,vi ln,.ar .u8 64 (nf d),vu m,vi f0,vi f1,vi f2,vi f3,vi f4,vi f5,vi f6,vi f7]] [] (vt (M2 ln d m f0 f1 f2 f3 f4 f5 f6 f7)) []:=by
 generalize d0:M2 ln d m f0 f1 f2 f3 f4 f5 f6 f7=yd0
 unfold M2 at d0
 rcases bft (Va ln d m f0 f1 f2 f3 f4 f5 f6 f7) with q1 | q1
 ·rw [A2 q1] at d0
  rcases bft (decide (1<=f0)) with q2 | q2
  ·rw [A2 q2] at d0
   have q2':=otq q2
   subst d0
   exact so Tryz.f66 4 [] (.n4 (.n2 (.n (.c [] (A1b ln d m f0 f1 f2 f3 f4 f5 f6 f7 (by first | assumption | omega) (by first | assumption | omega) (by first | assumption | omega) (by first | assumption | omega) (by first | assumption | omega) (by first | assumption | omega) (by first | assumption | omega)) (.n2 (.g q1 (.n4 (.n (.t4 q2 (.n (.t q2 (.n .nil))))))))))))
  ·rw [A1 q2] at d0
   have q2':=ofq q2
   subst d0
   exact so Tryz.f66 4 [] (.n4 (.n2 (.n (.c [] (A1b ln d m f0 f1 f2 f3 f4 f5 f6 f7 (by first | assumption | omega) (by first | assumption | omega) (by first | assumption | omega) (by first | assumption | omega) (by first | assumption | omega) (by first | assumption | omega) (by first | assumption | omega)) (.n2 (.g q1 (.n4 (.n (.t4 q2 (.n (.t q2 (.n .nil))))))))))))
 ·rw [A1 q1] at d0
  subst d0
  exact so Tryz.f66 4 [] (.n4 (.n2 (.n (.c [] (A1b ln d m f0 f1 f2 f3 f4 f5 f6 f7 (by first | assumption | omega) (by first | assumption | omega) (by first | assumption | omega) (by first | assumption | omega) (by first | assumption | omega) (by first | assumption | omega) (by first | assumption | omega)) (.n2 (.g q1 .nil))))))
def Br (x:Stp):Bool:=bif decide (x.kind=8) then (bif decide (x.f.kind=1) then Lu x.line x.data x.mask x.f.rank x.f.bank x.f.row x.f.col x.f.chip x.f.bit x.f.value else (bif decide (x.f.kind=2) then Lv x.line x.data x.mask x.f.rank x.f.bank x.f.row x.f.col x.f.chip x.f.bit x.f.value else (bif decide (x.f.kind=3) then Lw x.line x.data x.mask x.f.rank x.f.bank x.f.row x.f.col x.f.chip x.f.bit x.f.value else (bif decide (x.f.kind=4) then Lx x.line x.data x.mask x.f.rank x.f.bank x.f.row x.f.col x.f.chip x.f.bit x.f.value else (bif decide (x.f.kind=5) then Lz x.line x.data x.mask x.f.rank x.f.bank x.f.row x.f.col x.f.chip x.f.bit x.f.value else (bif decide (x.f.kind=6) then M0 x.line x.data x.mask x.f.rank x.f.bank x.f.row x.f.col x.f.chip x.f.bit x.f.value else (bif decide (x.f.kind=7) then M1 x.line x.data x.mask x.f.rank x.f.bank x.f.row x.f.col x.f.chip x.f.bit x.f.value else (M2 x.line x.data x.mask x.f.kind x.f.rank x.f.bank x.f.row x.f.col x.f.chip x.f.bit x.f.value)))))))) else Oo x.kind x.line x.data x.mask x.f.kind x.f.rank x.f.bank x.f.row x.f.col x.f.chip x.f.bit x.f.value
theorem Ta (x : Stp) : Sp P 66 [.ag [vi x.kind, vi x.line, .ar .u8 64 (nf x.data), vu x.mask, vi x.f.kind, vi x.f.rank, vi x.f.bank, vi x.f.row, vi x.f.col, vi x.f.chip, vi x.f.bit, vi x.f.value]] [] (vt (Br x)) [] := by
 unfold Br
 obtain ⟨k,ln,d,m,⟨f0,f1,f2,f3,f4,f5,f6,f7⟩⟩:=x
 dsimp only
 rcases bft (decide (k=8)) with h | h
 ·rw [A2 h]; have e := otq h; subst e
  rcases bft (decide (f0=1)) with n1 | n1
  ·rw [A2 n1]; have e:=otq n1; subst e; exact Aj7 ln d m f1 f2 f3 f4 f5 f6 f7
  ·rw [A1 n1]
   rcases bft (decide (f0=2)) with n2 | n2
   ·rw [A2 n2]; have e:=otq n2; subst e; exact Aj8 ln d m f1 f2 f3 f4 f5 f6 f7
   ·rw [A1 n2]
    rcases bft (decide (f0=3)) with n3 | n3
    ·rw [A2 n3]; have e:=otq n3; subst e; exact Aj9 ln d m f1 f2 f3 f4 f5 f6 f7
    ·rw [A1 n3]
     rcases bft (decide (f0=4)) with n4 | n4
     ·rw [A2 n4]; have e:=otq n4; subst e; exact Aja ln d m f1 f2 f3 f4 f5 f6 f7
     ·rw [A1 n4]
      rcases bft (decide (f0=5)) with n5 | n5
      ·rw [A2 n5]; have e:=otq n5; subst e; exact Ajb ln d m f1 f2 f3 f4 f5 f6 f7
      ·rw [A1 n5]
       rcases bft (decide (f0=6)) with n6 | n6
       ·rw [A2 n6]; have e:=otq n6; subst e; exact Ajc ln d m f1 f2 f3 f4 f5 f6 f7
       ·rw [A1 n6]
        rcases bft (decide (f0=7)) with n7 | n7
        ·rw [A2 n7]; have e:=otq n7; subst e; exact Ajd ln d m f1 f2 f3 f4 f5 f6 f7
        ·rw [A1 n7]
         exact Aje ln d m f0 f1 f2 f3 f4 f5 f6 f7 n1 n2 n3 n4 n5 n6 n7
 ·rw [A1 h]; exact Ayp k ln d m f0 f1 f2 f3 f4 f5 f6 f7 h
structure StpOk (x:Stp):Prop where
 d:∀ j,x.data j < 256
 m:x.mask < 18446744073709551616
structure MchOk (n:Nat) (s:MchS):Prop where
 c:CtlOk n s.c
 id:∀ k j,s.ideal k j < 256
 il:s.inj.length<=n
 sl:s.srv.length<=n
 ly:Bc s.c.le.c.ly=true
theorem MchOk.mono {n m:Nat} {s:MchS} (h:MchOk n s) (hm:n<=m):MchOk m s:=⟨h.c.mono hm,h.id,Nat.le_trans h.il hm,Nat.le_trans h.sl hm,h.ly⟩
def Bn (s:MchS) (f:Flt):MchS:=bif decide ((Cm s.c.d.d f)=0) then { s with c:={ s.c with d:=(Ig s.c.d f) },inj:=s.inj ++ [(⟨f,s.scrubs,(s.c.d.l.length:Int)⟩:Inj)] } else { s with c:={ s.c with d:=(Ig s.c.d f) } }
theorem Asw (s:MchS) (f:Flt) (ok:MchOk 96000000 s):Sp P 98 [.pt 0 0,.ag [vi f.kind,vi f.rank,vi f.bank,vi f.row,vi f.col,vi f.chip,vi f.bit,vi f.value]] ([.blk [.pt 16 0,.pt 1 0,.mp 30,.sl 31,.sl 32,vi s.scrubs,vi s.steps] 171] ++ Ct s.c 1 ++ ros (Bg 25) ++ [.mp (.ar .u8 64 (nf (fun _=>0))) (mpC s.ideal),.row Dw s.inj,.row G5 s.srv]) (.ag [vi (Cm s.c.d.d f),vn 0,.ar .u8 64 (fun _=>0)]) ([.blk [.pt 16 0,.pt 1 0,.mp 30,.sl 31,.sl 32,vi (Bn s f).scrubs,vi (Bn s f).steps] 171] ++ Ct (Bn s f).c 1 ++ ros (Bg 25) ++ [.mp (.ar .u8 64 (nf (fun _=>0))) (mpC (Bn s f).ideal),.row Dw (Bn s f).inj,.row G5 (Bn s f).srv]):=by
 generalize d0:Bn s f=yd0
 unfold Bn at d0
 rcases bft (decide ((Cm s.c.d.d f)=0)) with q1 | q1
 ·rw [A2 q1] at d0
  have q1':=otq q1
  subst d0
  exact so Tryz.f98 11 (ir 0 31 ++ .id 41 :: .id 32 :: []) (.c (ir 16 8) (Kj s.c.d) (.c (ir 16 8) (Agv s.c.d f ok.c.d) (.t q1 (.ap (e:=Dw) (l:=s.inj) (l':=[(⟨f,s.scrubs,(s.c.d.l.length:Int)⟩:Inj)]) .row (.flat [vi f.kind,vi f.rank,vi f.bank,vi f.row,vi f.col,vi f.chip,vi f.bit,vi f.value,vi s.scrubs,vn s.c.d.l.length] [(⟨f,s.scrubs,(s.c.d.l.length:Int)⟩:Inj)] rfl) (by have:=ok.il; have:=ok.sl; simp only [List.length_cons,List.length_nil]; omega) .nil))))
 ·rw [A1 q1] at d0
  subst d0
  exact so Tryz.f98 8 (ir 0 33) (.c (ir 16 8) (Kj s.c.d) (.c (ir 16 8) (Agv s.c.d f ok.c.d) (.t q1 .nil)))
def Az (s:MchS) (x:Stp):MchS:=bif decide (x.kind=1) then (bif decide ((((Bv s.c x.line s.c.le.c.back):Nat):Int)=30) then { s with c:=(An s.c x.line s.c.le.c.back) } else { s with c:=(An s.c x.line s.c.le.c.back),srv:=s.srv ++ [(⟨x,(⟨(((Bv s.c x.line s.c.le.c.back):Nat):Int),0,Cl s.c x.line s.c.le.c.back⟩:Ans),s.ideal x.line,(s.c.d.l.length:Int),(((An s.c x.line s.c.le.c.back).d.l.length:Nat):Int)⟩:Srv)] }) else (bif decide (x.kind=2) then (bif decide ((((Ar s.c x.line (arL x.data 64 0) 18446744073709551615):Nat):Int)=30) then { s with c:=(Hn s.c x.line (arL x.data 64 0)) } else (⟨(Hn s.c x.line (arL x.data 64 0)),upZ s.ideal x.line (mgF (s.ideal x.line) x.data 18446744073709551615),s.inj,(s.srv ++ [(⟨x,(⟨(((Ar s.c x.line (arL x.data 64 0) 18446744073709551615):Nat):Int),0,fun _=>0⟩:Ans),s.ideal x.line,(s.c.d.l.length:Int),(((Hn s.c x.line (arL x.data 64 0)).d.l.length:Nat):Int)⟩:Srv)]),s.scrubs,s.steps⟩:MchS)) else (bif decide ((((Ar s.c x.line (arL x.data 64 0) x.mask):Nat):Int)=30) then { s with c:=(Ah s.c x.line (arL x.data 64 0) x.mask) } else (⟨(Ah s.c x.line (arL x.data 64 0) x.mask),upZ s.ideal x.line (mgF (s.ideal x.line) x.data x.mask),s.inj,(s.srv ++ [(⟨x,(⟨(((Ar s.c x.line (arL x.data 64 0) x.mask):Nat):Int),0,fun _=>0⟩:Ans),s.ideal x.line,(s.c.d.l.length:Int),(((Ah s.c x.line (arL x.data 64 0) x.mask).d.l.length:Nat):Int)⟩:Srv)]),s.scrubs,s.steps⟩:MchS)))
def Cx (s:MchS) (x:Stp):Nat:=bif decide (x.kind=1) then (Bv s.c x.line s.c.le.c.back) else (bif decide (x.kind=2) then (Ar s.c x.line (arL x.data 64 0) 18446744073709551615) else (Ar s.c x.line (arL x.data 64 0) x.mask))
def G6 (s:MchS) (x:Stp):Nat->Nat:=bif decide (x.kind=1) then (Cl s.c x.line s.c.le.c.back) else (fun _=>0)
theorem Ano (s:MchS) (x:Stp) (ok:MchOk 96000000 s) (sk:StpOk x):Sp P 99 [.pt 0 0,.ag [vi x.kind,vi x.line,.ar .u8 64 (nf x.data),vu x.mask,vi x.f.kind,vi x.f.rank,vi x.f.bank,vi x.f.row,vi x.f.col,vi x.f.chip,vi x.f.bit,vi x.f.value]] ([.blk [.pt 16 0,.pt 1 0,.mp 30,.sl 31,.sl 32,vi s.scrubs,vi s.steps] 171] ++ Ct s.c 1 ++ ros (Bg 25) ++ [.mp (.ar .u8 64 (nf (fun _=>0))) (mpC s.ideal),.row Dw s.inj,.row G5 s.srv]) (.ag [vn (Cx s x),vn 0,.ar .u8 64 (nf (G6 s x))]) ([.blk [.pt 16 0,.pt 1 0,.mp 30,.sl 31,.sl 32,vi (Az s x).scrubs,vi (Az s x).steps] 171] ++ Ct (Az s x).c 1 ++ ros (Bg 25) ++ [.mp (.ar .u8 64 (nf (fun _=>0))) (mpC (Az s x).ideal),.row Dw (Az s x).inj,.row G5 (Az s x).srv]):=by
 generalize d0:Az s x=yd0
 unfold Az at d0
 generalize d1:Cx s x=yd1
 unfold Cx at d1
 generalize d2:G6 s x=yd2
 unfold G6 at d2
 rcases bft (decide (x.kind=1)) with q1 | q1
 ·rw [A2 q1] at d0 d1 d2
  have q1':=otq q1
  rcases bft (decide ((((Bv s.c x.line s.c.le.c.back):Nat):Int)=30)) with q2 | q2
  ·rw [A2 q2] at d0
   subst d0 d1 d2
   exact so Tryz.f99 10 (ir 0 33) (.c (ir 16 8) (Kj s.c.d) (.t q1 (.c (ir 1 29) (Ak1 s.c x.line (ok.c.mono (by decide))) (.t q2 .nil))))
  ·rw [A1 q2] at d0
   have q2':=ofq q2
   subst d0 d1 d2
   exact so Tryz.f99 13 (ir 0 32 ++ .id 43 :: []) (.c (ir 16 8) (Kj s.c.d) (.t q1 (.c (ir 1 29) (Ak1 s.c x.line (ok.c.mono (by decide))) (.t q2 (.g q1 (.c (ir 16 8) (Kj (An s.c x.line s.c.le.c.back).d) (.ap (e:=G5) (l:=s.srv) (l':=[(⟨x,(⟨(((Bv s.c x.line s.c.le.c.back):Nat):Int),0,Cl s.c x.line s.c.le.c.back⟩:Ans),s.ideal x.line,(s.c.d.l.length:Int),(((An s.c x.line s.c.le.c.back).d.l.length:Nat):Int)⟩:Srv)]) .row (.flat [vi x.kind,vi x.line,.ar .u8 64 (nf x.data),vu x.mask,vi x.f.kind,vi x.f.rank,vi x.f.bank,vi x.f.row,vi x.f.col,vi x.f.chip,vi x.f.bit,vi x.f.value,vn (Bv s.c x.line s.c.le.c.back),vn 0,.ar .u8 64 (nf (Cl s.c x.line s.c.le.c.back)),.ar .u8 64 (nf (s.ideal x.line)),vn s.c.d.l.length,vn (An s.c x.line s.c.le.c.back).d.l.length] [(⟨x,(⟨(((Bv s.c x.line s.c.le.c.back):Nat):Int),0,Cl s.c x.line s.c.le.c.back⟩:Ans),s.ideal x.line,(s.c.d.l.length:Int),(((An s.c x.line s.c.le.c.back).d.l.length:Nat):Int)⟩:Srv)] rfl) (by have:=ok.il; have:=ok.sl; simp only [List.length_cons,List.length_nil]; omega) .nil)))))))
 ·rw [A1 q1] at d0 d1 d2
  have q1':=ofq q1
  rcases bft (decide (x.kind=2)) with q2 | q2
  ·rw [A2 q2] at d0 d1
   have q2':=otq q2
   rcases bft (decide ((((Ar s.c x.line (arL x.data 64 0) 18446744073709551615):Nat):Int)=30)) with q3 | q3
   ·rw [A2 q3] at d0
    subst d0 d1 d2
    exact so Tryz.f99 9 (ir 0 33) (.c (ir 16 8) (Kj s.c.d) (.t q1 (.t q2 (.c (ir 1 29 ++ .sg 34 2 1 64 :: []) (Ak5 s.c x.line (arL x.data 64 0) (ok.c.mono (by decide)) (Bh _ _ _) (Ij sk.d _ _)) (.t q3 .nil)))))
   ·rw [A1 q3] at d0
    have q3':=ofq q3
    subst d0 d1 d2
    exact so Tryz.f99 14 (ir 0 32 ++ .id 44 :: []) (.c (ir 16 8) (Kj s.c.d) (.t q1 (.t q2 (.c (ir 1 29 ++ .sg 34 2 1 64 :: []) (Ak5 s.c x.line (arL x.data 64 0) (ok.c.mono (by decide)) (Bh _ _ _) (Ij sk.d _ _)) (.t q3 (.g q1 (.c [] (A0f (s.ideal x.line) x.data 18446744073709551615 (by decide)) (.mu (Anv s.ideal x.line (mgF (s.ideal x.line) x.data 18446744073709551615)) (.c (ir 16 8) (Kj (Hn s.c x.line (arL x.data 64 0)).d) (.ap (e:=G5) (l:=s.srv) (l':=[(⟨x,(⟨(((Ar s.c x.line (arL x.data 64 0) 18446744073709551615):Nat):Int),0,fun _=>0⟩:Ans),s.ideal x.line,(s.c.d.l.length:Int),(((Hn s.c x.line (arL x.data 64 0)).d.l.length:Nat):Int)⟩:Srv)]) .row (.flat [vi x.kind,vi x.line,.ar .u8 64 (nf x.data),vu x.mask,vi x.f.kind,vi x.f.rank,vi x.f.bank,vi x.f.row,vi x.f.col,vi x.f.chip,vi x.f.bit,vi x.f.value,vn (Ar s.c x.line (arL x.data 64 0) 18446744073709551615),vn 0,.ar .u8 64 (fun _=>0),.ar .u8 64 (nf (s.ideal x.line)),vn s.c.d.l.length,vn (Hn s.c x.line (arL x.data 64 0)).d.l.length] [(⟨x,(⟨(((Ar s.c x.line (arL x.data 64 0) 18446744073709551615):Nat):Int),0,fun _=>0⟩:Ans),s.ideal x.line,(s.c.d.l.length:Int),(((Hn s.c x.line (arL x.data 64 0)).d.l.length:Nat):Int)⟩:Srv)] rfl) (by have:=ok.il; have:=ok.sl; simp only [List.length_cons,List.length_nil]; omega) .nil))))))))))
  ·rw [A1 q2] at d0 d1
   have q2':=ofq q2
   rcases bft (decide ((((Ar s.c x.line (arL x.data 64 0) x.mask):Nat):Int)=30)) with q3 | q3
   ·rw [A2 q3] at d0
    subst d0 d1 d2
    exact so Tryz.f99 9 (ir 0 33) (.c (ir 16 8) (Kj s.c.d) (.t q1 (.t q2 (.c (ir 1 29 ++ .sg 34 2 1 64 :: []) (A4g s.c x.line (arL x.data 64 0) x.mask (ok.c.mono (by decide)) (Bh _ _ _) (Ij sk.d _ _) sk.m) (.t q3 .nil)))))
   ·rw [A1 q3] at d0
    have q3':=ofq q3
    subst d0 d1 d2
    exact so Tryz.f99 14 (ir 0 32 ++ .id 44 :: []) (.c (ir 16 8) (Kj s.c.d) (.t q1 (.t q2 (.c (ir 1 29 ++ .sg 34 2 1 64 :: []) (A4g s.c x.line (arL x.data 64 0) x.mask (ok.c.mono (by decide)) (Bh _ _ _) (Ij sk.d _ _) sk.m) (.t q3 (.g q1 (.c [] (A0f (s.ideal x.line) x.data x.mask sk.m) (.mu (Anv s.ideal x.line (mgF (s.ideal x.line) x.data x.mask)) (.c (ir 16 8) (Kj (Ah s.c x.line (arL x.data 64 0) x.mask).d) (.ap (e:=G5) (l:=s.srv) (l':=[(⟨x,(⟨(((Ar s.c x.line (arL x.data 64 0) x.mask):Nat):Int),0,fun _=>0⟩:Ans),s.ideal x.line,(s.c.d.l.length:Int),(((Ah s.c x.line (arL x.data 64 0) x.mask).d.l.length:Nat):Int)⟩:Srv)]) .row (.flat [vi x.kind,vi x.line,.ar .u8 64 (nf x.data),vu x.mask,vi x.f.kind,vi x.f.rank,vi x.f.bank,vi x.f.row,vi x.f.col,vi x.f.chip,vi x.f.bit,vi x.f.value,vn (Ar s.c x.line (arL x.data 64 0) x.mask),vn 0,.ar .u8 64 (fun _=>0),.ar .u8 64 (nf (s.ideal x.line)),vn s.c.d.l.length,vn (Ah s.c x.line (arL x.data 64 0) x.mask).d.l.length] [(⟨x,(⟨(((Ar s.c x.line (arL x.data 64 0) x.mask):Nat):Int),0,fun _=>0⟩:Ans),s.ideal x.line,(s.c.d.l.length:Int),(((Ah s.c x.line (arL x.data 64 0) x.mask).d.l.length:Nat):Int)⟩:Srv)] rfl) (by have:=ok.il; have:=ok.sl; simp only [List.length_cons,List.length_nil]; omega) .nil))))))))))
def Al (s:MchS) (x:Stp):MchS:=bif (Br x) then (bif decide (x.kind=4) then (⟨(D8 s.c),s.ideal,s.inj,s.srv,IntKind.i64.wrap (s.scrubs + 1),IntKind.i64.wrap (s.steps + 1)⟩:MchS) else (bif decide (x.kind=5) then { s with c:=(Db s.c),steps:=IntKind.i64.wrap (s.steps + 1) } else (bif decide (x.kind=6) then { s with c:=(Dl s.c),steps:=IntKind.i64.wrap (s.steps + 1) } else (bif decide (x.kind=7) then { s with c:=(Yy s.c),steps:=IntKind.i64.wrap (s.steps + 1) } else (bif decide (x.kind=8) then (Bn { s with steps:=IntKind.i64.wrap (s.steps + 1) } x.f) else (Az { s with steps:=IntKind.i64.wrap (s.steps + 1) } x)))))) else s
def D7 (s:MchS) (x:Stp):Int:=bif (Br x) then (bif decide (x.kind=4) then (((Vm s.c):Nat):Int) else (bif decide (x.kind=5) then (Kr s.c) else (bif decide (x.kind=6) then (((Tn s.c):Nat):Int) else (bif decide (x.kind=7) then 0 else (bif decide (x.kind=8) then (Cm s.c.d.d x.f) else (((Cx { s with steps:=IntKind.i64.wrap (s.steps + 1) } x):Nat):Int)))))) else 60
def Gy (s:MchS) (x:Stp):Int:=bif (Br x) then (bif decide (x.kind=4) then s.c.cur else (bif decide (x.kind=5) then 0 else (bif decide (x.kind=6) then 0 else (bif decide (x.kind=7) then (s.c.le.log.l.length:Int) else 0)))) else 0
def Eb (s:MchS) (x:Stp):Nat->Nat:=bif (Br x) then (bif decide (x.kind=4) then (fun _=>0) else (bif decide (x.kind=5) then (fun _=>0) else (bif decide (x.kind=6) then (fun _=>0) else (bif decide (x.kind=7) then (fun _=>0) else (bif decide (x.kind=8) then (fun _=>0) else (G6 { s with steps:=IntKind.i64.wrap (s.steps + 1) } x)))))) else (fun _=>0)
theorem mDo (s:MchS) (x:Stp) (ok:MchOk 96000000 s) (sk:StpOk x):Sp P 25 [.pt 0 0,.ag [vi x.kind,vi x.line,.ar .u8 64 (nf x.data),vu x.mask,vi x.f.kind,vi x.f.rank,vi x.f.bank,vi x.f.row,vi x.f.col,vi x.f.chip,vi x.f.bit,vi x.f.value]] ([.blk [.pt 16 0,.pt 1 0,.mp 30,.sl 31,.sl 32,vi s.scrubs,vi s.steps] 171] ++ Ct s.c 1 ++ ros (Bg 25) ++ [.mp (.ar .u8 64 (nf (fun _=>0))) (mpC s.ideal),.row Dw s.inj,.row G5 s.srv]) (.ag [vi (D7 s x),vi (Gy s x),.ar .u8 64 (nf (Eb s x))]) ([.blk [.pt 16 0,.pt 1 0,.mp 30,.sl 31,.sl 32,vi (Al s x).scrubs,vi (Al s x).steps] 171] ++ Ct (Al s x).c 1 ++ ros (Bg 25) ++ [.mp (.ar .u8 64 (nf (fun _=>0))) (mpC (Al s x).ideal),.row Dw (Al s x).inj,.row G5 (Al s x).srv]):=by
 generalize d0:Al s x=yd0
 unfold Al at d0
 generalize d1:D7 s x=yd1
 unfold D7 at d1
 generalize d2:Gy s x=yd2
 unfold Gy at d2
 generalize d3:Eb s x=yd3
 unfold Eb at d3
 rcases bft (Br x) with q1 | q1
 ·rw [A2 q1] at d0 d1 d2 d3
  rcases bft (decide (x.kind=4)) with q2 | q2
  ·rw [A2 q2] at d0 d1 d2 d3
   subst d0 d1 d2 d3
   exact so Tryz.f25 4 (ir 0 33) (.c [] (Ta x) (.g q1 (.t q2 (.c (ir 1 29) (Aw4 s.c (ok.c.mono (by decide)) (An5 ok.ly)) .nil))))
  ·rw [A1 q2] at d0 d1 d2 d3
   rcases bft (decide (x.kind=5)) with q3 | q3
   ·rw [A2 q3] at d0 d1 d2 d3
    subst d0 d1 d2 d3
    exact so Tryz.f25 4 (ir 0 33) (.c [] (Ta x) (.g q1 (.t q2 (.t q3 (.c (ir 1 29) (Azi s.c (ok.c.mono (by decide))) .nil)))))
   ·rw [A1 q3] at d0 d1 d2 d3
    rcases bft (decide (x.kind=6)) with q4 | q4
    ·rw [A2 q4] at d0 d1 d2 d3
     subst d0 d1 d2 d3
     exact so Tryz.f25 4 (ir 0 33) (.c [] (Ta x) (.g q1 (.t q2 (.t q3 (.t q4 (.c (ir 1 29) (Azj s.c (ok.c.mono (by decide))) .nil))))))
    ·rw [A1 q4] at d0 d1 d2 d3
     rcases bft (decide (x.kind=7)) with q5 | q5
     ·rw [A2 q5] at d0 d1 d2 d3
      subst d0 d1 d2 d3
      exact so Tryz.f25 4 (ir 0 33) (.c [] (Ta x) (.g q1 (.t q2 (.t q3 (.t q4 (.t q5 (.c (ir 1 29) (Aw2 s.c (ok.c.mono (by decide))) .nil)))))))
     ·rw [A1 q5] at d0 d1 d2 d3
      rcases bft (decide (x.kind=8)) with q6 | q6
      ·rw [A2 q6] at d0 d1 d3
       subst d0 d1 d2 d3
       exact so Tryz.f25 4 (ir 0 33) (.c [] (Ta x) (.g q1 (.t q2 (.t q3 (.t q4 (.t q5 (.t q6 (.c (ir 0 33) (Asw { s with steps:=IntKind.i64.wrap (s.steps + 1) } x.f (⟨ok.c,ok.id,ok.il,ok.sl,ok.ly⟩)) .nil))))))))
      ·rw [A1 q6] at d0 d1 d3
       subst d0 d1 d2 d3
       exact so Tryz.f25 4 (ir 0 33) (.c [] (Ta x) (.g q1 (.t q2 (.t q3 (.t q4 (.t q5 (.t q6 (.c (ir 0 33) (Ano { s with steps:=IntKind.i64.wrap (s.steps + 1) } x (⟨ok.c,ok.id,ok.il,ok.sl,ok.ly⟩) sk) .nil))))))))
 ·rw [A1 q1] at d0 d1 d2 d3
  subst d0 d1 d2 d3
  exact so Tryz.f25 4 (ir 0 33) (.c [] (Ta x) (.g q1 .nil))
