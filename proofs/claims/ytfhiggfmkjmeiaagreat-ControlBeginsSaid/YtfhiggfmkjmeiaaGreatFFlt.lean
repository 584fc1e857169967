import Derived.Test.YtfhiggfmkjmeiaaGreatFDec
set_option linter.all false
namespace Go.Proofs.YtfhiggfmkjmeiaaGreat
open Go Go.RowKit
set_option maxRecDepth 100000
structure Gm where
 ranks:Int
 spares:Int
 banks:Int
 rows:Int
 cols:Int
structure Pl where
 rank:Int
 bank:Int
 row:Int
 col:Int
def pl0:Pl:=⟨0,0,0,0⟩
def H9 (n m:Int):Bool:=decide (1<=n) && (decide (n<=m) && decide (bits .and .i64 n (IntKind.i64.wrap (n - 1))=0))
def K7 (i n:Int):Bool:=decide (0<=i) && decide (i < n)
def Gm.lines (g:Gm):Int:=IntKind.i64.wrap (IntKind.i64.wrap (IntKind.i64.wrap (IntKind.i64.wrap (g.ranks + g.spares) * g.banks) * g.rows) * g.cols)
def Gm.right (g:Gm):Bool:=H9 g.ranks 8 && (decide (0<=g.spares) && (decide (g.spares<=IntKind.i64.wrap (8 - g.ranks)) && (H9 g.banks 16 && (H9 g.rows 1024 && (H9 g.cols 64 && decide (g.lines<=4096))))))
def Gm.holds (g:Gm) (x:Pl):Bool:=g.right && (K7 x.rank (IntKind.i64.wrap (g.ranks + g.spares)) && (K7 x.bank g.banks && (K7 x.row g.rows && K7 x.col g.cols)))
def Pl.ix (x:Pl):Int:=bits .or .i64 (bits .or .i64 (bits .or .i64 (IntKind.i64.wrap (x.rank * 2 ^ 20)) (IntKind.i64.wrap (x.bank * 2 ^ 16))) (IntKind.i64.wrap (x.row * 2 ^ 6))) x.col
def Gd (i:Int):Pl:=⟨i.fdiv (2 ^ 20),bits .and .i64 (i.fdiv (2 ^ 16)) 15,bits .and .i64 (i.fdiv (2 ^ 6)) 1023,bits .and .i64 i 63⟩
def Gm.atB (g:Gm) (i:Int):Bool:=!decide (i < 0) && g.holds (Gd i)
def Gm.at (g:Gm) (i:Int):Pl:=bif g.atB i then Gd i else pl0
def Gm.atE (g:Gm) (i:Int):Int:=bif g.atB i then 0 else 12
def Gm.ix (g:Gm) (x:Pl):Int:=bif g.holds x then x.ix else 0
def Gm.ixE (g:Gm) (x:Pl):Int:=bif g.holds x then 0 else 12
theorem Ad2 (n:Int) (m:Int) (q1:(decide (1<=n))=true) (q2:(decide (n<=m))=true):Sp P 195 [vi n,vi m] [] (vt (decide (bits .and .i64 n (IntKind.i64.wrap (n - 1))=0))) [] :=
 so Tryz.f195 3 [] (.t4 q1 (.t4 q2 (.t2 q2 .nil)))
theorem Ad3 (n:Int) (m:Int) (q1:(decide (1<=n))=true) (q2:(decide (n<=m))=false):Sp P 195 [vi n,vi m] [] (vt false) [] :=
 so Tryz.f195 3 [] (.t4 q1 (.t4 q2 (.t2 q2 .nil)))
theorem Ad4 (n:Int) (m:Int) (q1:(decide (1<=n))=false):Sp P 195 [vi n,vi m] [] (vt false) [] :=
 so Tryz.f195 3 [] (.t4 q1 (.n4 (.n2 .nil)))
theorem Er (n:Int) (m:Int) :Sp P 195 [vi n,vi m] [] (vt (H9 n m)) []:=by
 cases q1:decide (1<=n) with
 | true =>
   cases q2:decide (n<=m) with
   | true =>
     have e:(H9 n m)=(decide (bits .and .i64 n (IntKind.i64.wrap (n - 1))=0)):=by simp only [H9, *,bA,bB,bC,bD,bE,bF,bG,bH]; try rfl
     rw [e]
     exact Ad2 n m q1 q2
   | false =>
     have e:(H9 n m)=false:=by simp only [H9, *,bA,bB,bC,bD,bE,bF,bG,bH]; try rfl
     rw [e]
     exact Ad3 n m q1 q2
 | false =>
   have e:(H9 n m)=false:=by simp only [H9, *,bA,bB,bC,bD,bE,bF,bG,bH]; try rfl
   rw [e]
   exact Ad4 n m q1
theorem A8b (i:Int) (n:Int) (q1:(decide (0<=i))=true):Sp P 177 [vi i,vi n] [] (vt (decide (i < n))) [] :=
 so Tryz.f177 3 [] (.t4 q1 .nil)
theorem A8c (i:Int) (n:Int) (q1:(decide (0<=i))=false):Sp P 177 [vi i,vi n] [] (vt false) [] :=
 so Tryz.f177 3 [] (.t4 q1 .nil)
theorem Ha (i:Int) (n:Int) :Sp P 177 [vi i,vi n] [] (vt (K7 i n)) []:=by
 cases q1:decide (0<=i) with
 | true =>
   have e:(K7 i n)=(decide (i < n)):=by simp only [K7, *,bA,bB,bC,bD,bE,bF,bG,bH]; try rfl
   rw [e]
   exact A8b i n q1
 | false =>
   have e:(K7 i n)=false:=by simp only [K7, *,bA,bB,bC,bD,bE,bF,bG,bH]; try rfl
   rw [e]
   exact A8c i n q1
theorem A8g (g:Gm) (q1:(H9 g.ranks 8)=true) (q2:(decide (0<=g.spares))=true) (q3:(decide (g.spares<=IntKind.i64.wrap (8 - g.ranks)))=true) (q4:(H9 g.banks 16)=true) (q5:(H9 g.rows 1024)=true) (q6:(H9 g.cols 64)=true):Sp P 122 [.ag [vi g.ranks,vi g.spares,vi g.banks,vi g.rows,vi g.cols]] [] (vt (decide (IntKind.i64.wrap ((IntKind.i64.wrap ((IntKind.i64.wrap ((IntKind.i64.wrap (g.ranks + g.spares)) * g.banks)) * g.rows)) * g.cols)<=4096))) [] :=
 so Tryz.f122 3 [] (.c [] (Er g.ranks 8) (.t4 q1 (.t4 q2 (.t2 q2 (.t q2 (.t2 q3 (.t q3 (.c [] (Er g.banks 16) (.t q3 (.t2 q4 (.t q4 (.c [] (Er g.rows 1024) (.t q4 (.t2 q5 (.t q5 (.c [] (Er g.cols 64) (.t q5 (.t4 q6 (.t4 q6 (.t4 q6 (.t4 q6 .nil)))))))))))))))))))))
theorem A8h (g:Gm) (q1:(H9 g.ranks 8)=true) (q2:(decide (0<=g.spares))=true) (q3:(decide (g.spares<=IntKind.i64.wrap (8 - g.ranks)))=true) (q4:(H9 g.banks 16)=true) (q5:(H9 g.rows 1024)=true) (q6:(H9 g.cols 64)=false):Sp P 122 [.ag [vi g.ranks,vi g.spares,vi g.banks,vi g.rows,vi g.cols]] [] (vt false) [] :=
 so Tryz.f122 3 [] (.c [] (Er g.ranks 8) (.t4 q1 (.t4 q2 (.t2 q2 (.t q2 (.t2 q3 (.t q3 (.c [] (Er g.banks 16) (.t q3 (.t2 q4 (.t q4 (.c [] (Er g.rows 1024) (.t q4 (.t2 q5 (.t q5 (.c [] (Er g.cols 64) (.t q5 (.t4 q6 (.t4 q6 (.t4 q6 (.t4 q6 .nil)))))))))))))))))))))
theorem A8i (g:Gm) (q1:(H9 g.ranks 8)=true) (q2:(decide (0<=g.spares))=true) (q3:(decide (g.spares<=IntKind.i64.wrap (8 - g.ranks)))=true) (q4:(H9 g.banks 16)=true) (q5:(H9 g.rows 1024)=false):Sp P 122 [.ag [vi g.ranks,vi g.spares,vi g.banks,vi g.rows,vi g.cols]] [] (vt false) [] :=
 so Tryz.f122 3 [] (.c [] (Er g.ranks 8) (.t4 q1 (.t4 q2 (.t2 q2 (.t q2 (.t2 q3 (.t q3 (.c [] (Er g.banks 16) (.t q3 (.t2 q4 (.t q4 (.c [] (Er g.rows 1024) (.t q4 (.t4 q5 (.n8 (.n8 .nil))))))))))))))))
theorem A8j (g:Gm) (q1:(H9 g.ranks 8)=true) (q2:(decide (0<=g.spares))=true) (q3:(decide (g.spares<=IntKind.i64.wrap (8 - g.ranks)))=true) (q4:(H9 g.banks 16)=false):Sp P 122 [.ag [vi g.ranks,vi g.spares,vi g.banks,vi g.rows,vi g.cols]] [] (vt false) [] :=
 so Tryz.f122 3 [] (.c [] (Er g.ranks 8) (.t4 q1 (.t4 q2 (.t2 q2 (.t q2 (.t2 q3 (.t q3 (.c [] (Er g.banks 16) (.t q3 (.t4 q4 (.n8 (.n8 (.n4 .nil)))))))))))))
theorem A8k (g:Gm) (q1:(H9 g.ranks 8)=true) (q2:(decide (0<=g.spares))=true) (q3:(decide (g.spares<=IntKind.i64.wrap (8 - g.ranks)))=false):Sp P 122 [.ag [vi g.ranks,vi g.spares,vi g.banks,vi g.rows,vi g.cols]] [] (vt false) [] :=
 so Tryz.f122 3 [] (.c [] (Er g.ranks 8) (.t4 q1 (.t4 q2 (.t2 q2 (.t q2 (.t4 q3 (.n8 (.n8 (.n8 .nil)))))))))
theorem A8l (g:Gm) (q1:(H9 g.ranks 8)=true) (q2:(decide (0<=g.spares))=false):Sp P 122 [.ag [vi g.ranks,vi g.spares,vi g.banks,vi g.rows,vi g.cols]] [] (vt false) [] :=
 so Tryz.f122 3 [] (.c [] (Er g.ranks 8) (.t4 q1 (.t4 q2 (.t2 q2 (.t q2 (.n8 (.n8 (.n8 (.n4 .nil)))))))))
theorem A8m (g:Gm) (q1:(H9 g.ranks 8)=false):Sp P 122 [.ag [vi g.ranks,vi g.spares,vi g.banks,vi g.rows,vi g.cols]] [] (vt false) [] :=
 so Tryz.f122 3 [] (.c [] (Er g.ranks 8) (.t4 q1 (.n8 (.n8 (.n8 (.n8 (.n2 (.n .nil))))))))
theorem Fb (g:Gm) :Sp P 122 [.ag [vi g.ranks,vi g.spares,vi g.banks,vi g.rows,vi g.cols]] [] (vt g.right) []:=by
 cases q1:(H9 g.ranks 8) with
 | true =>
   cases q2:decide (0<=g.spares) with
   | true =>
     cases q3:decide (g.spares<=IntKind.i64.wrap (8 - g.ranks)) with
     | true =>
       cases q4:(H9 g.banks 16) with
       | true =>
         cases q5:(H9 g.rows 1024) with
         | true =>
           cases q6:(H9 g.cols 64) with
           | true =>
             have e:g.right=(decide (IntKind.i64.wrap ((IntKind.i64.wrap ((IntKind.i64.wrap ((IntKind.i64.wrap (g.ranks + g.spares)) * g.banks)) * g.rows)) * g.cols)<=4096)):=by simp only [Gm.right,Gm.lines, *,bA,bB,bC,bD,bE,bF,bG,bH]; try rfl
             rw [e]
             exact A8g g q1 q2 q3 q4 q5 q6
           | false =>
             have e:g.right=false:=by simp only [Gm.right,Gm.lines, *,bA,bB,bC,bD,bE,bF,bG,bH]; try rfl
             rw [e]
             exact A8h g q1 q2 q3 q4 q5 q6
         | false =>
           have e:g.right=false:=by simp only [Gm.right,Gm.lines, *,bA,bB,bC,bD,bE,bF,bG,bH]; try rfl
           rw [e]
           exact A8i g q1 q2 q3 q4 q5
       | false =>
         have e:g.right=false:=by simp only [Gm.right,Gm.lines, *,bA,bB,bC,bD,bE,bF,bG,bH]; try rfl
         rw [e]
         exact A8j g q1 q2 q3 q4
     | false =>
       have e:g.right=false:=by simp only [Gm.right,Gm.lines, *,bA,bB,bC,bD,bE,bF,bG,bH]; try rfl
       rw [e]
       exact A8k g q1 q2 q3
   | false =>
     have e:g.right=false:=by simp only [Gm.right,Gm.lines, *,bA,bB,bC,bD,bE,bF,bG,bH]; try rfl
     rw [e]
     exact A8l g q1 q2
 | false =>
   have e:g.right=false:=by simp only [Gm.right,Gm.lines, *,bA,bB,bC,bD,bE,bF,bG,bH]; try rfl
   rw [e]
   exact A8m g q1
theorem Ac1 (g:Gm) (x:Pl) (q1:g.right=true) (q2:(K7 x.rank (IntKind.i64.wrap (g.ranks + g.spares)))=true) (q3:(K7 x.bank g.banks)=true) (q4:(K7 x.row g.rows)=true):Sp P 108 [.ag [vi g.ranks,vi g.spares,vi g.banks,vi g.rows,vi g.cols],.ag [vi x.rank,vi x.bank,vi x.row,vi x.col]] [] (vt (K7 x.col g.cols)) [] :=
 so Tryz.f108 4 [] (.c [] (Fb g) (.t4 q1 (.t4 q1 (.c [] (Ha x.rank (IntKind.i64.wrap (g.ranks + g.spares))) (.t q1 (.t4 q2 (.t q2 (.c [] (Ha x.bank g.banks) (.t q2 (.t4 q3 (.t q3 (.c [] (Ha x.row g.rows) (.t q3 (.t4 q4 (.t q4 (.c [] (Ha x.col g.cols) (.t q4 .nil)))))))))))))))))
theorem Ac2 (g:Gm) (x:Pl) (q1:g.right=true) (q2:(K7 x.rank (IntKind.i64.wrap (g.ranks + g.spares)))=true) (q3:(K7 x.bank g.banks)=true) (q4:(K7 x.row g.rows)=false):Sp P 108 [.ag [vi g.ranks,vi g.spares,vi g.banks,vi g.rows,vi g.cols],.ag [vi x.rank,vi x.bank,vi x.row,vi x.col]] [] (vt false) [] :=
 so Tryz.f108 4 [] (.c [] (Fb g) (.t4 q1 (.t4 q1 (.c [] (Ha x.rank (IntKind.i64.wrap (g.ranks + g.spares))) (.t q1 (.t4 q2 (.t q2 (.c [] (Ha x.bank g.banks) (.t q2 (.t4 q3 (.t q3 (.c [] (Ha x.row g.rows) (.t q3 (.t4 q4 (.t2 q4 .nil)))))))))))))))
theorem Ac3 (g:Gm) (x:Pl) (q1:g.right=true) (q2:(K7 x.rank (IntKind.i64.wrap (g.ranks + g.spares)))=true) (q3:(K7 x.bank g.banks)=false):Sp P 108 [.ag [vi g.ranks,vi g.spares,vi g.banks,vi g.rows,vi g.cols],.ag [vi x.rank,vi x.bank,vi x.row,vi x.col]] [] (vt false) [] :=
 so Tryz.f108 4 [] (.c [] (Fb g) (.t4 q1 (.t4 q1 (.c [] (Ha x.rank (IntKind.i64.wrap (g.ranks + g.spares))) (.t q1 (.t4 q2 (.t q2 (.c [] (Ha x.bank g.banks) (.t q2 (.t4 q3 (.t2 q3 (.n4 (.n2 .nil)))))))))))))
theorem Ac4 (g:Gm) (x:Pl) (q1:g.right=true) (q2:(K7 x.rank (IntKind.i64.wrap (g.ranks + g.spares)))=false):Sp P 108 [.ag [vi g.ranks,vi g.spares,vi g.banks,vi g.rows,vi g.cols],.ag [vi x.rank,vi x.bank,vi x.row,vi x.col]] [] (vt false) [] :=
 so Tryz.f108 4 [] (.c [] (Fb g) (.t4 q1 (.t4 q1 (.c [] (Ha x.rank (IntKind.i64.wrap (g.ranks + g.spares))) (.t q1 (.t4 q2 (.t2 q2 (.n8 (.n4 .nil)))))))))
theorem Ac5 (g:Gm) (x:Pl) (q1:g.right=false):Sp P 108 [.ag [vi g.ranks,vi g.spares,vi g.banks,vi g.rows,vi g.cols],.ag [vi x.rank,vi x.bank,vi x.row,vi x.col]] [] (vt false) [] :=
 so Tryz.f108 4 [] (.c [] (Fb g) (.t4 q1 (.t4 q1 (.t q1 (.n8 (.n8 (.n2 .nil)))))))
theorem Cn (g:Gm) (x:Pl) :Sp P 108 [.ag [vi g.ranks,vi g.spares,vi g.banks,vi g.rows,vi g.cols],.ag [vi x.rank,vi x.bank,vi x.row,vi x.col]] [] (vt (g.holds x)) []:=by
 cases q1:g.right with
 | true =>
   cases q2:(K7 x.rank (IntKind.i64.wrap (g.ranks + g.spares))) with
   | true =>
     cases q3:(K7 x.bank g.banks) with
     | true =>
       cases q4:(K7 x.row g.rows) with
       | true =>
         have e:(g.holds x)=(K7 x.col g.cols):=by simp only [Gm.holds, *,bA,bB,bC,bD,bE,bF,bG,bH]; try rfl
         rw [e]
         exact Ac1 g x q1 q2 q3 q4
       | false =>
         have e:(g.holds x)=false:=by simp only [Gm.holds, *,bA,bB,bC,bD,bE,bF,bG,bH]; try rfl
         rw [e]
         exact Ac2 g x q1 q2 q3 q4
     | false =>
       have e:(g.holds x)=false:=by simp only [Gm.holds, *,bA,bB,bC,bD,bE,bF,bG,bH]; try rfl
       rw [e]
       exact Ac3 g x q1 q2 q3
   | false =>
     have e:(g.holds x)=false:=by simp only [Gm.holds, *,bA,bB,bC,bD,bE,bF,bG,bH]; try rfl
     rw [e]
     exact Ac4 g x q1 q2
 | false =>
   have e:(g.holds x)=false:=by simp only [Gm.holds, *,bA,bB,bC,bD,bE,bF,bG,bH]; try rfl
   rw [e]
   exact Ac5 g x q1
theorem A3h (x:Pl) :Sp P 231 [.ag [vi x.rank,vi x.bank,vi x.row,vi x.col]] [] (vi x.ix) [] :=
 so Tryz.f231 3 [] .nil
theorem A0x (i:Int) :Sp P 107 [vi i] [] (.ag [vi (Gd i).rank,vi (Gd i).bank,vi (Gd i).row,vi (Gd i).col]) [] :=
 so Tryz.f107 3 [] .nil
theorem Am7 (g:Gm) (i:Int) (q1:(decide (i < 0))=true):Sp P 36 [.ag [vi g.ranks,vi g.spares,vi g.banks,vi g.rows,vi g.cols],vi i] [] (.tu [.ag [vn 0,vn 0,vn 0,vn 0],vn 12]) [] :=
 so Tryz.f36 5 [] (.c [] (A0x i) (.t4 q1 (.t q1 (.y .nil))))
theorem Am8 (g:Gm) (i:Int) (q1:(decide (i < 0))=false) (q2:(g.holds (Gd i))=true):Sp P 36 [.ag [vi g.ranks,vi g.spares,vi g.banks,vi g.rows,vi g.cols],vi i] [] (.tu [.ag [vi (Gd i).rank,vi (Gd i).bank,vi (Gd i).row,vi (Gd i).col],vn 0]) [] :=
 so Tryz.f36 5 [] (.c [] (A0x i) (.t2 q1 (.t q1 (.c [] (Cn g (Gd i)) (.t2 q1 (.g q2 .nil))))))
theorem Am9 (g:Gm) (i:Int) (q1:(decide (i < 0))=false) (q2:(g.holds (Gd i))=false):Sp P 36 [.ag [vi g.ranks,vi g.spares,vi g.banks,vi g.rows,vi g.cols],vi i] [] (.tu [.ag [vn 0,vn 0,vn 0,vn 0],vn 12]) [] :=
 so Tryz.f36 5 [] (.c [] (A0x i) (.t2 q1 (.t q1 (.c [] (Cn g (Gd i)) (.t2 q1 (.g q2 .nil))))))
theorem Hg (g:Gm) (i:Int) :Sp P 36 [.ag [vi g.ranks,vi g.spares,vi g.banks,vi g.rows,vi g.cols],vi i] [] (.tu [.ag [vi (g.at i).rank,vi (g.at i).bank,vi (g.at i).row,vi (g.at i).col],vi (g.atE i)]) []:=by
 cases q1:decide (i < 0) with
 | true =>
   have e:(g.at i).rank=0:=by simp only [Gm.at,Gm.atE,Gm.atB,pl0, *,bA,bB,bC,bD,bE,bF,bG,bH]; try rfl
   rw [e]
   have e:(g.at i).bank=0:=by simp only [Gm.at,Gm.atE,Gm.atB,pl0, *,bA,bB,bC,bD,bE,bF,bG,bH]; try rfl
   rw [e]
   have e:(g.at i).row=0:=by simp only [Gm.at,Gm.atE,Gm.atB,pl0, *,bA,bB,bC,bD,bE,bF,bG,bH]; try rfl
   rw [e]
   have e:(g.at i).col=0:=by simp only [Gm.at,Gm.atE,Gm.atB,pl0, *,bA,bB,bC,bD,bE,bF,bG,bH]; try rfl
   rw [e]
   have e:(g.atE i)=12:=by simp only [Gm.at,Gm.atE,Gm.atB,pl0, *,bA,bB,bC,bD,bE,bF,bG,bH]; try rfl
   rw [e]
   exact Am7 g i q1
 | false =>
   cases q2:(g.holds (Gd i)) with
   | true =>
     have e:(g.at i).rank=(Gd i).rank:=by simp only [Gm.at,Gm.atE,Gm.atB,pl0, *,bA,bB,bC,bD,bE,bF,bG,bH]; try rfl
     rw [e]
     have e:(g.at i).bank=(Gd i).bank:=by simp only [Gm.at,Gm.atE,Gm.atB,pl0, *,bA,bB,bC,bD,bE,bF,bG,bH]; try rfl
     rw [e]
     have e:(g.at i).row=(Gd i).row:=by simp only [Gm.at,Gm.atE,Gm.atB,pl0, *,bA,bB,bC,bD,bE,bF,bG,bH]; try rfl
     rw [e]
     have e:(g.at i).col=(Gd i).col:=by simp only [Gm.at,Gm.atE,Gm.atB,pl0, *,bA,bB,bC,bD,bE,bF,bG,bH]; try rfl
     rw [e]
     have e:(g.atE i)=0:=by simp only [Gm.at,Gm.atE,Gm.atB,pl0, *,bA,bB,bC,bD,bE,bF,bG,bH]; try rfl
     rw [e]
     exact Am8 g i q1 q2
   | false =>
     have e:(g.at i).rank=0:=by simp only [Gm.at,Gm.atE,Gm.atB,pl0, *,bA,bB,bC,bD,bE,bF,bG,bH]; try rfl
     rw [e]
     have e:(g.at i).bank=0:=by simp only [Gm.at,Gm.atE,Gm.atB,pl0, *,bA,bB,bC,bD,bE,bF,bG,bH]; try rfl
     rw [e]
     have e:(g.at i).row=0:=by simp only [Gm.at,Gm.atE,Gm.atB,pl0, *,bA,bB,bC,bD,bE,bF,bG,bH]; try rfl
     rw [e]
     have e:(g.at i).col=0:=by simp only [Gm.at,Gm.atE,Gm.atB,pl0, *,bA,bB,bC,bD,bE,bF,bG,bH]; try rfl
     rw [e]
     have e:(g.atE i)=12:=by simp only [Gm.at,Gm.atE,Gm.atB,pl0, *,bA,bB,bC,bD,bE,bF,bG,bH]; try rfl
     rw [e]
     exact Am9 g i q1 q2
theorem A8d (g:Gm) (x:Pl) (q1:(g.holds x)=true):Sp P 178 [.ag [vi g.ranks,vi g.spares,vi g.banks,vi g.rows,vi g.cols],.ag [vi x.rank,vi x.bank,vi x.row,vi x.col]] [] (.tu [vi x.ix,vn 0]) [] :=
 so Tryz.f178 4 [] (.c [] (Cn g x) (.g q1 (.c [] (A3h x) .nil)))
theorem A8e (g:Gm) (x:Pl) (q1:(g.holds x)=false):Sp P 178 [.ag [vi g.ranks,vi g.spares,vi g.banks,vi g.rows,vi g.cols],.ag [vi x.rank,vi x.bank,vi x.row,vi x.col]] [] (.tu [vn 0,vn 12]) [] :=
 so Tryz.f178 4 [] (.c [] (Cn g x) (.g q1 .nil))
theorem Hb (g:Gm) (x:Pl) :Sp P 178 [.ag [vi g.ranks,vi g.spares,vi g.banks,vi g.rows,vi g.cols],.ag [vi x.rank,vi x.bank,vi x.row,vi x.col]] [] (.tu [vi (g.ix x),vi (g.ixE x)]) []:=by
 cases q1:(g.holds x) with
 | true =>
   have e:(g.ix x)=x.ix:=by simp only [Gm.ix,Gm.ixE, *,bA,bB,bC,bD,bE,bF,bG,bH]; try rfl
   rw [e]
   have e:(g.ixE x)=0:=by simp only [Gm.ix,Gm.ixE, *,bA,bB,bC,bD,bE,bF,bG,bH]; try rfl
   rw [e]
   exact A8d g x q1
 | false =>
   have e:(g.ix x)=0:=by simp only [Gm.ix,Gm.ixE, *,bA,bB,bC,bD,bE,bF,bG,bH]; try rfl
   rw [e]
   have e:(g.ixE x)=12:=by simp only [Gm.ix,Gm.ixE, *,bA,bB,bC,bD,bE,bF,bG,bH]; try rfl
   rw [e]
   exact A8e g x q1
structure Flt where
 kind:Int
 rank:Int
 bank:Int
 row:Int
 col:Int
 chip:Int
 bit:Int
 value:Int
def Bi (i:Int) (n:Int):Bool:=bif decide (0<=i) then (decide (i < n)) else false
theorem Hm (i:Int) (n:Int) :Sp P 138 [vi i,vi n] [] (vt (Bi i n)) []:=by
 generalize d0:Bi i n=yd0
 unfold Bi at d0
 rcases bft (decide (0<=i)) with q1 | q1
 ·rw [A2 q1] at d0
  subst d0
  exact so Tryz.f138 3 [] (.t4 q1 .nil)
 ·rw [A1 q1] at d0
  subst d0
  exact so Tryz.f138 3 [] (.t4 q1 .nil)
def Ew (f:Flt):=(bif (decide (f.kind=3)) then (decide (f.kind=3)) else (bif (decide (f.kind=4)) then (decide (f.kind=4)) else (decide (f.kind=5))))
def Le (f:Flt):=(bif (decide (f.kind=1)) then f.rank else (bif (decide (f.kind=2)) then f.rank else (bif (Ew f) then f.rank else (bif (decide (f.kind=7)) then 0 else f.rank))))
def Lg (f:Flt):=(bif (decide (f.kind=1)) then f.bank else (bif (decide (f.kind=2)) then f.bank else (bif (Ew f) then f.bank else (bif (decide (f.kind=7)) then 0 else f.bank))))
def Ov (f:Flt):=(bif (decide (f.kind=1)) then f.col else (bif (decide (f.kind=2)) then f.col else (bif (Ew f) then f.col else (bif (decide (f.kind=7)) then 0 else f.col))))
def Rj (f:Flt):=(bif (decide (f.kind=1)) then f.row else (bif (decide (f.kind=2)) then f.row else (bif (Ew f) then f.row else (bif (decide (f.kind=7)) then 0 else f.row))))
def Ti (f:Flt):=(bif (decide (f.kind=2)) then f.value else (bif (Ew f) then f.value else 0))
def A44 (f:Flt):=(bif (decide (f.kind=1)) then 0 else (bif (decide (f.kind=2)) then 0 else (bif (Ew f) then f.chip else 0)))
def A45 (f:Flt):=(bif (decide (f.kind=1)) then f.bit else (bif (decide (f.kind=2)) then f.bit else 0))
def A46 (f:Flt):Int:=bif (decide (f.kind=3)) then (Le f) else (bif (decide (f.kind=4)) then (Le f) else (bif (decide (f.kind=5)) then f.rank else (Le f)))
def A47 (f:Flt):Int:=bif (decide (f.kind=3)) then (Lg f) else (bif (decide (f.kind=4)) then (Lg f) else (bif (decide (f.kind=5)) then 0 else (Lg f)))
def A48 (f:Flt):Int:=bif (decide (f.kind=3)) then (Rj f) else (bif (decide (f.kind=4)) then 0 else (bif (decide (f.kind=5)) then 0 else (Rj f)))
def A49 (f:Flt):Int:=bif (decide (f.kind=3)) then 0 else (bif (decide (f.kind=4)) then (Ov f) else (bif (decide (f.kind=5)) then 0 else (Ov f)))
def A4a (f:Flt):Int:=bif (decide (f.kind=1)) then 0 else (bif (decide (f.kind=2)) then 0 else (bif (Ew f) then f.chip else 0))
def A4b (f:Flt):Int:=bif (decide (f.kind=1)) then f.bit else (bif (decide (f.kind=2)) then f.bit else 0)
def A4c (f:Flt):Int:=bif (decide (f.kind=1)) then 0 else (Ti f)
theorem bare (f:Flt) :Sp P 137 [.ag [vi f.kind,vi f.rank,vi f.bank,vi f.row,vi f.col,vi f.chip,vi f.bit,vi f.value]] [] (.ag [vi f.kind,vi (A46 f),vi (A47 f),vi (A48 f),vi (A49 f),vi (A4a f),vi (A4b f),vi (A4c f)]) [] :=
 so Tryz.f137 7 [] (.cs 0 (decide (f.kind=1)) 4 [] [] (fun z=>[]) (fun z=>[(3,.blk [vi f.kind,vi (bif z then f.rank else (bif (decide (f.kind=2)) then f.rank else (bif (Ew f) then f.rank else (bif (decide (f.kind=7)) then 0 else f.rank)))),vi (bif z then f.bank else (bif (decide (f.kind=2)) then f.bank else (bif (Ew f) then f.bank else (bif (decide (f.kind=7)) then 0 else f.bank)))),vi (bif z then f.row else (bif (decide (f.kind=2)) then f.row else (bif (Ew f) then f.row else (bif (decide (f.kind=7)) then 0 else f.row)))),vi (bif z then f.col else (bif (decide (f.kind=2)) then f.col else (bif (Ew f) then f.col else (bif (decide (f.kind=7)) then 0 else f.col)))),vi (bif z then 0 else (bif (decide (f.kind=2)) then 0 else (bif (Ew f) then f.chip else 0))),vi (bif z then f.bit else (bif (decide (f.kind=2)) then f.bit else 0)),vi (bif z then 0 else (Ti f))] 48)]) (fun hq1=>(.t hq1 .nil)) (fun hq1=>(.t hq1 (.cs 0 (decide (f.kind=2)) 4 [] [] (fun z=>[]) (fun z=>[(3,.blk [vi f.kind,vi (bif z then f.rank else (bif (Ew f) then f.rank else (bif (decide (f.kind=7)) then 0 else f.rank))),vi (bif z then f.bank else (bif (Ew f) then f.bank else (bif (decide (f.kind=7)) then 0 else f.bank))),vi (bif z then f.row else (bif (Ew f) then f.row else (bif (decide (f.kind=7)) then 0 else f.row))),vi (bif z then f.col else (bif (Ew f) then f.col else (bif (decide (f.kind=7)) then 0 else f.col))),vi (bif z then 0 else (bif (Ew f) then f.chip else 0)),vi (bif z then f.bit else 0),vi (bif z then f.value else (bif (Ew f) then f.value else 0))] 48)]) (fun hq2=>(.t hq2 .nil)) (fun hq2=>(.t hq2 (.cs 0 (decide (f.kind=3)) 4 [] [] (fun z=>[(24,vt (bif z then (decide (f.kind=3)) else (bif (decide (f.kind=4)) then (decide (f.kind=4)) else (decide (f.kind=5)))))]) (fun z=>[]) (fun hq3=>(.t hq3 .nil)) (fun hq3=>(.t hq3 (.cs 0 (decide (f.kind=4)) 4 [] [] (fun z=>[(24,vt (bif z then (decide (f.kind=4)) else (decide (f.kind=5))))]) (fun z=>[]) (fun hq4=>(.t hq4 .nil)) (fun hq4=>(.t hq4 .nil)) .nil))) (.cs 0 (Ew f) 4 [] [] (fun z=>[]) (fun z=>[(3,.blk [vi f.kind,vi (bif z then f.rank else (bif (decide (f.kind=7)) then 0 else f.rank)),vi (bif z then f.bank else (bif (decide (f.kind=7)) then 0 else f.bank)),vi (bif z then f.row else (bif (decide (f.kind=7)) then 0 else f.row)),vi (bif z then f.col else (bif (decide (f.kind=7)) then 0 else f.col)),vi (bif z then f.chip else 0),vn 0,vi (bif z then f.value else 0)] 48)]) (fun hq3=>(.t hq3 .nil)) (fun hq3=>(.t hq3 (.cs 0 (decide (f.kind=7)) 4 [] [] (fun z=>[]) (fun z=>[(3,.blk [vi f.kind,vi (bif z then 0 else f.rank),vi (bif z then 0 else f.bank),vi (bif z then 0 else f.row),vi (bif z then 0 else f.col),vn 0,vn 0,vn 0] 48)]) (fun hq4=>(.t hq4 .nil)) (fun hq4=>(.t hq4 .nil)) .nil))) .nil)))) .nil))) (.cs 0 (decide (f.kind=3)) 4 [] [] (fun z=>[]) (fun z=>[(3,.blk [vi f.kind,vi (bif z then (Le f) else (bif (decide (f.kind=4)) then (Le f) else (bif (decide (f.kind=5)) then f.rank else (Le f)))),vi (bif z then (Lg f) else (bif (decide (f.kind=4)) then (Lg f) else (bif (decide (f.kind=5)) then 0 else (Lg f)))),vi (bif z then (Rj f) else (bif (decide (f.kind=4)) then 0 else (bif (decide (f.kind=5)) then 0 else (Rj f)))),vi (bif z then 0 else (bif (decide (f.kind=4)) then (Ov f) else (bif (decide (f.kind=5)) then 0 else (Ov f)))),vi (A44 f),vi (A45 f),vi (bif (decide (f.kind=1)) then 0 else (Ti f))] 48)]) (fun hq1=>(.t hq1 .nil)) (fun hq1=>(.t hq1 (.cs 0 (decide (f.kind=4)) 4 [] [] (fun z=>[]) (fun z=>[(3,.blk [vi f.kind,vi (bif z then (Le f) else (bif (decide (f.kind=5)) then f.rank else (Le f))),vi (bif z then (Lg f) else (bif (decide (f.kind=5)) then 0 else (Lg f))),vi (bif z then 0 else (bif (decide (f.kind=5)) then 0 else (Rj f))),vi (bif z then (Ov f) else (bif (decide (f.kind=5)) then 0 else (Ov f))),vi (A44 f),vi (A45 f),vi (bif (decide (f.kind=1)) then 0 else (Ti f))] 48)]) (fun hq2=>(.t hq2 .nil)) (fun hq2=>(.t hq2 (.cs 0 (decide (f.kind=5)) 4 [] [] (fun z=>[]) (fun z=>[(3,.blk [vi f.kind,vi (bif z then f.rank else (Le f)),vi (bif z then 0 else (Lg f)),vi (bif z then 0 else (Rj f)),vi (bif z then 0 else (Ov f)),vi (A44 f),vi (A45 f),vi (bif (decide (f.kind=1)) then 0 else (Ti f))] 48)]) (fun hq3=>(.t hq3 .nil)) (fun hq3=>(.t hq3 .nil)) .nil))) .nil))) .nil))
def Dr (f:Flt):Bool:=bif decide (2<=f.kind) then (decide (f.kind<=5)) else false
theorem O9 (f:Flt) :Sp P 180 [.ag [vi f.kind,vi f.rank,vi f.bank,vi f.row,vi f.col,vi f.chip,vi f.bit,vi f.value]] [] (vt (Dr f)) []:=by
 generalize d0:Dr f=yd0
 unfold Dr at d0
 rcases bft (decide (2<=f.kind)) with q1 | q1
 ·rw [A2 q1] at d0
  subst d0
  exact so Tryz.f180 3 [] (.t4 q1 .nil)
 ·rw [A1 q1] at d0
  subst d0
  exact so Tryz.f180 3 [] (.t4 q1 .nil)
def Ic (f:Flt) (x:Pl):Bool:=bif decide (f.kind=1) then ((decide (x.rank=f.rank)) && ((decide (x.bank=f.bank)) && ((decide (x.row=f.row)) && ((decide (x.col=f.col)) && true)))) else (bif decide (f.kind=2) then ((decide (x.rank=f.rank)) && ((decide (x.bank=f.bank)) && ((decide (x.row=f.row)) && ((decide (x.col=f.col)) && true)))) else (bif decide (f.kind=3) then ((decide (x.rank=f.rank)) && ((decide (x.bank=f.bank)) && ((decide (x.row=f.row)) && ((decide (f.col=f.col)) && true)))) else (bif decide (f.kind=4) then ((decide (x.rank=f.rank)) && ((decide (x.bank=f.bank)) && ((decide (f.row=f.row)) && ((decide (x.col=f.col)) && true)))) else (bif decide (f.kind=5) then (decide (x.rank=f.rank)) else false))))
theorem A2d (f:Flt) (x:Pl) :Sp P 232 [.ag [vi f.kind,vi f.rank,vi f.bank,vi f.row,vi f.col,vi f.chip,vi f.bit,vi f.value],.ag [vi x.rank,vi x.bank,vi x.row,vi x.col]] [] (vt (Ic f x)) []:=by
 generalize d0:Ic f x=yd0
 unfold Ic at d0
 rcases bft (decide (f.kind=1)) with q1 | q1
 ·rw [A2 q1] at d0
  subst d0
  exact so Tryz.f232 5 [] (.t2 q1 .nil)
 ·rw [A1 q1] at d0
  rcases bft (decide (f.kind=2)) with q2 | q2
  ·rw [A2 q2] at d0
   subst d0
   exact so Tryz.f232 5 [] (.t q1 (.t q2 .nil))
  ·rw [A1 q2] at d0
   rcases bft (decide (f.kind=3)) with q3 | q3
   ·rw [A2 q3] at d0
    subst d0
    exact so Tryz.f232 5 [] (.t q1 (.t q2 (.t q3 .nil)))
   ·rw [A1 q3] at d0
    rcases bft (decide (f.kind=4)) with q4 | q4
    ·rw [A2 q4] at d0
     subst d0
     exact so Tryz.f232 5 [] (.t q1 (.t q2 (.t q3 (.t q4 .nil))))
    ·rw [A1 q4] at d0
     rcases bft (decide (f.kind=5)) with q5 | q5
     ·rw [A2 q5] at d0
      subst d0
      exact so Tryz.f232 5 [] (.t q1 (.t q2 (.t q3 (.t q4 (.t q5 .nil)))))
     ·rw [A1 q5] at d0
      subst d0
      exact so Tryz.f232 5 [] (.t q1 (.t q2 (.t q3 (.t q4 (.t q5 .nil)))))
def P3 (f:Flt):=((decide (f.kind=f.kind)) && (((decide (f.rank=(A46 f))) && ((decide (f.bank=(A47 f))) && ((decide (f.row=(A48 f))) && ((decide (f.col=(A49 f))) && true)))) && ((decide (f.chip=(A4a f))) && ((decide (f.bit=(A4b f))) && ((decide (f.value=(A4c f))) && true)))))
def Kb (f:Flt) (g:Gm):Bool:=bif decide (f.kind=2) then (bif decide (1<=f.kind) then (bif decide (f.kind<=7) then (bif (P3 f) then (bif g.holds (⟨f.rank,f.bank,f.row,f.col⟩:Pl) then (bif (Bi f.bit 576) then (bif (Bi f.chip 9) then (Bi f.value 2) else false) else false) else false) else false) else false) else false) else (bif decide (1<=f.kind) then (bif decide (f.kind<=7) then (bif (P3 f) then (bif g.holds (⟨f.rank,f.bank,f.row,f.col⟩:Pl) then (bif (Bi f.bit 576) then (bif (Bi f.chip 9) then (Bi f.value 256) else false) else false) else false) else false) else false) else false)
theorem Asa (f : Flt) (g : Gm)  : Sp P 69 [.ag [vi f.kind, vi f.rank, vi f.bank, vi f.row, vi f.col, vi f.chip, vi f.bit, vi f.value], .ag [vi g.ranks, vi g.spares, vi g.banks, vi g.rows, vi g.cols], vn 1] [] (vt (Kb f g)) [] := by
 generalize d0:Kb f g=yd0
 unfold Kb at d0
 rcases bft (decide (f.kind=2)) with q1 | q1
 ·rw [A2 q1] at d0
  rcases bft (decide (1<=f.kind)) with q2 | q2
  ·rw [A2 q2] at d0
   rcases bft (decide (f.kind<=7)) with q3 | q3
   ·rw [A2 q3] at d0
    rcases bft (P3 f) with q4 | q4
    ·rw [A2 q4] at d0
     rcases bft (g.holds (⟨f.rank,f.bank,f.row,f.col⟩:Pl)) with q5 | q5
     ·rw [A2 q5] at d0
      rcases bft (Bi f.bit 576) with q6 | q6
      ·rw [A2 q6] at d0
       rcases bft (Bi f.chip 9) with q7 | q7
       ·rw [A2 q7] at d0
        subst d0
        exact so Tryz.f69 11 [] (.t q1 (.t4 q2 (.t2 q3 (.c [] (Es) (.t q3 (.y2 (.y (.c [] (bare f) (.y2 (.t4 q4 (.c [] (Cn g (⟨f.rank,f.bank,f.row,f.col⟩:Pl)) (.t q4 (.t2 q5 (.t q5 (.c [] (Hm f.bit 576) (.t q5 (.t4 q6 (.c [] (Ch) (.t q6 (.c [] (Hm f.chip 9) (.t q6 (.t4 q7 (.c [] (Hm f.value 2) (.t q7 .nil))))))))))))))))))))))))
       ·rw [A1 q7] at d0
        subst d0
        exact so Tryz.f69 10 [] (.t q1 (.t4 q2 (.t2 q3 (.c [] (Es) (.t q3 (.y2 (.y (.c [] (bare f) (.y2 (.t4 q4 (.c [] (Cn g (⟨f.rank,f.bank,f.row,f.col⟩:Pl)) (.t q4 (.t2 q5 (.t q5 (.c [] (Hm f.bit 576) (.t q5 (.t4 q6 (.c [] (Ch) (.t q6 (.c [] (Hm f.chip 9) (.t q6 (.t4 q7 (.t q7 .nil)))))))))))))))))))))))
      ·rw [A1 q6] at d0
       subst d0
       exact so Tryz.f69 8 [] (.t q1 (.t4 q2 (.t2 q3 (.c [] (Es) (.t q3 (.y2 (.y (.c [] (bare f) (.y2 (.t4 q4 (.c [] (Cn g (⟨f.rank,f.bank,f.row,f.col⟩:Pl)) (.t q4 (.t2 q5 (.t q5 (.c [] (Hm f.bit 576) (.t q5 (.t4 q6 (.t2 q6 (.n4 (.n .nil))))))))))))))))))))
     ·rw [A1 q5] at d0
      subst d0
      exact so Tryz.f69 7 [] (.t q1 (.t4 q2 (.t2 q3 (.c [] (Es) (.t q3 (.y2 (.y (.c [] (bare f) (.y2 (.t4 q4 (.c [] (Cn g (⟨f.rank,f.bank,f.row,f.col⟩:Pl)) (.t q4 (.t4 q5 (.n8 (.n2 (.n .nil))))))))))))))))
    ·rw [A1 q4] at d0
     subst d0
     exact so Tryz.f69 6 [] (.t q1 (.t4 q2 (.t2 q3 (.c [] (Es) (.t q3 (.y2 (.y (.c [] (bare f) (.y2 (.t4 q4 (.t q4 (.n8 (.n4 (.n2 (.n .nil)))))))))))))))
   ·rw [A1 q3] at d0
    subst d0
    exact so Tryz.f69 4 [] (.t q1 (.t4 q2 (.t2 q3 (.t q3 (.n8 (.n8 (.n8 (.n .nil))))))))
  ·rw [A1 q2] at d0
   subst d0
   exact so Tryz.f69 4 [] (.t q1 (.t4 q2 (.n8 (.n8 (.n8 (.n4 .nil))))))
 ·rw [A1 q1] at d0
  rcases bft (decide (1<=f.kind)) with q2 | q2
  ·rw [A2 q2] at d0
   rcases bft (decide (f.kind<=7)) with q3 | q3
   ·rw [A2 q3] at d0
    rcases bft (P3 f) with q4 | q4
    ·rw [A2 q4] at d0
     rcases bft (g.holds (⟨f.rank,f.bank,f.row,f.col⟩:Pl)) with q5 | q5
     ·rw [A2 q5] at d0
      rcases bft (Bi f.bit 576) with q6 | q6
      ·rw [A2 q6] at d0
       rcases bft (Bi f.chip 9) with q7 | q7
       ·rw [A2 q7] at d0
        subst d0
        exact so Tryz.f69 11 [] (.t q1 (.t4 q2 (.t2 q3 (.c [] (Es) (.t q3 (.y2 (.y (.c [] (bare f) (.y2 (.t4 q4 (.c [] (Cn g (⟨f.rank,f.bank,f.row,f.col⟩:Pl)) (.t q4 (.t2 q5 (.t q5 (.c [] (Hm f.bit 576) (.t q5 (.t4 q6 (.c [] (Ch) (.t q6 (.c [] (Hm f.chip 9) (.t q6 (.t4 q7 (.c [] (Hm f.value 256) (.t q7 .nil))))))))))))))))))))))))
       ·rw [A1 q7] at d0
        subst d0
        exact so Tryz.f69 10 [] (.t q1 (.t4 q2 (.t2 q3 (.c [] (Es) (.t q3 (.y2 (.y (.c [] (bare f) (.y2 (.t4 q4 (.c [] (Cn g (⟨f.rank,f.bank,f.row,f.col⟩:Pl)) (.t q4 (.t2 q5 (.t q5 (.c [] (Hm f.bit 576) (.t q5 (.t4 q6 (.c [] (Ch) (.t q6 (.c [] (Hm f.chip 9) (.t q6 (.t4 q7 (.t q7 .nil)))))))))))))))))))))))
      ·rw [A1 q6] at d0
       subst d0
       exact so Tryz.f69 8 [] (.t q1 (.t4 q2 (.t2 q3 (.c [] (Es) (.t q3 (.y2 (.y (.c [] (bare f) (.y2 (.t4 q4 (.c [] (Cn g (⟨f.rank,f.bank,f.row,f.col⟩:Pl)) (.t q4 (.t2 q5 (.t q5 (.c [] (Hm f.bit 576) (.t q5 (.t4 q6 (.t2 q6 (.n4 (.n .nil))))))))))))))))))))
     ·rw [A1 q5] at d0
      subst d0
      exact so Tryz.f69 7 [] (.t q1 (.t4 q2 (.t2 q3 (.c [] (Es) (.t q3 (.y2 (.y (.c [] (bare f) (.y2 (.t4 q4 (.c [] (Cn g (⟨f.rank,f.bank,f.row,f.col⟩:Pl)) (.t q4 (.t4 q5 (.n8 (.n2 (.n .nil))))))))))))))))
    ·rw [A1 q4] at d0
     subst d0
     exact so Tryz.f69 6 [] (.t q1 (.t4 q2 (.t2 q3 (.c [] (Es) (.t q3 (.y2 (.y (.c [] (bare f) (.y2 (.t4 q4 (.t q4 (.n8 (.n4 (.n2 (.n .nil)))))))))))))))
   ·rw [A1 q3] at d0
    subst d0
    exact so Tryz.f69 4 [] (.t q1 (.t4 q2 (.t2 q3 (.t q3 (.n8 (.n8 (.n8 (.n .nil))))))))
  ·rw [A1 q2] at d0
   subst d0
   exact so Tryz.f69 4 [] (.t q1 (.t4 q2 (.n8 (.n8 (.n8 (.n4 .nil))))))
def P4 (f:Flt):=((decide (f.kind=f.kind)) && (((decide (f.rank=(A46 f))) && ((decide (f.bank=(A47 f))) && ((decide (f.row=(A48 f))) && ((decide (f.col=(A49 f))) && true)))) && ((decide (f.chip=(A4a f))) && ((decide (f.bit=(A4b f))) && ((decide (f.value=(A4c f))) && true)))))
def Kc (f:Flt) (g:Gm):Bool:=bif decide (f.kind=2) then (bif decide (1<=f.kind) then (bif decide (f.kind<=7) then (bif (P4 f) then (bif g.holds (⟨f.rank,f.bank,f.row,f.col⟩:Pl) then (bif (Bi f.bit 576) then (bif (Bi f.chip 36) then (Bi f.value 2) else false) else false) else false) else false) else false) else false) else (bif decide (1<=f.kind) then (bif decide (f.kind<=7) then (bif (P4 f) then (bif g.holds (⟨f.rank,f.bank,f.row,f.col⟩:Pl) then (bif (Bi f.bit 576) then (bif (Bi f.chip 36) then (Bi f.value 256) else false) else false) else false) else false) else false) else false)
theorem Asb (f : Flt) (g : Gm)  : Sp P 69 [.ag [vi f.kind, vi f.rank, vi f.bank, vi f.row, vi f.col, vi f.chip, vi f.bit, vi f.value], .ag [vi g.ranks, vi g.spares, vi g.banks, vi g.rows, vi g.cols], vn 2] [] (vt (Kc f g)) [] := by
 generalize d0:Kc f g=yd0
 unfold Kc at d0
 rcases bft (decide (f.kind=2)) with q1 | q1
 ·rw [A2 q1] at d0
  rcases bft (decide (1<=f.kind)) with q2 | q2
  ·rw [A2 q2] at d0
   rcases bft (decide (f.kind<=7)) with q3 | q3
   ·rw [A2 q3] at d0
    rcases bft (P4 f) with q4 | q4
    ·rw [A2 q4] at d0
     rcases bft (g.holds (⟨f.rank,f.bank,f.row,f.col⟩:Pl)) with q5 | q5
     ·rw [A2 q5] at d0
      rcases bft (Bi f.bit 576) with q6 | q6
      ·rw [A2 q6] at d0
       rcases bft (Bi f.chip 36) with q7 | q7
       ·rw [A2 q7] at d0
        subst d0
        exact so Tryz.f69 11 [] (.t q1 (.t4 q2 (.t2 q3 (.c [] (Et) (.t q3 (.y2 (.y (.c [] (bare f) (.y2 (.t4 q4 (.c [] (Cn g (⟨f.rank,f.bank,f.row,f.col⟩:Pl)) (.t q4 (.t2 q5 (.t q5 (.c [] (Hm f.bit 576) (.t q5 (.t4 q6 (.c [] (G3) (.t q6 (.c [] (Hm f.chip 36) (.t q6 (.t4 q7 (.c [] (Hm f.value 2) (.t q7 .nil))))))))))))))))))))))))
       ·rw [A1 q7] at d0
        subst d0
        exact so Tryz.f69 10 [] (.t q1 (.t4 q2 (.t2 q3 (.c [] (Et) (.t q3 (.y2 (.y (.c [] (bare f) (.y2 (.t4 q4 (.c [] (Cn g (⟨f.rank,f.bank,f.row,f.col⟩:Pl)) (.t q4 (.t2 q5 (.t q5 (.c [] (Hm f.bit 576) (.t q5 (.t4 q6 (.c [] (G3) (.t q6 (.c [] (Hm f.chip 36) (.t q6 (.t4 q7 (.t q7 .nil)))))))))))))))))))))))
      ·rw [A1 q6] at d0
       subst d0
       exact so Tryz.f69 8 [] (.t q1 (.t4 q2 (.t2 q3 (.c [] (Et) (.t q3 (.y2 (.y (.c [] (bare f) (.y2 (.t4 q4 (.c [] (Cn g (⟨f.rank,f.bank,f.row,f.col⟩:Pl)) (.t q4 (.t2 q5 (.t q5 (.c [] (Hm f.bit 576) (.t q5 (.t4 q6 (.t2 q6 (.n4 (.n .nil))))))))))))))))))))
     ·rw [A1 q5] at d0
      subst d0
      exact so Tryz.f69 7 [] (.t q1 (.t4 q2 (.t2 q3 (.c [] (Et) (.t q3 (.y2 (.y (.c [] (bare f) (.y2 (.t4 q4 (.c [] (Cn g (⟨f.rank,f.bank,f.row,f.col⟩:Pl)) (.t q4 (.t4 q5 (.n8 (.n2 (.n .nil))))))))))))))))
    ·rw [A1 q4] at d0
     subst d0
     exact so Tryz.f69 6 [] (.t q1 (.t4 q2 (.t2 q3 (.c [] (Et) (.t q3 (.y2 (.y (.c [] (bare f) (.y2 (.t4 q4 (.t q4 (.n8 (.n4 (.n2 (.n .nil)))))))))))))))
   ·rw [A1 q3] at d0
    subst d0
    exact so Tryz.f69 4 [] (.t q1 (.t4 q2 (.t2 q3 (.t q3 (.n8 (.n8 (.n8 (.n .nil))))))))
  ·rw [A1 q2] at d0
   subst d0
   exact so Tryz.f69 4 [] (.t q1 (.t4 q2 (.n8 (.n8 (.n8 (.n4 .nil))))))
 ·rw [A1 q1] at d0
  rcases bft (decide (1<=f.kind)) with q2 | q2
  ·rw [A2 q2] at d0
   rcases bft (decide (f.kind<=7)) with q3 | q3
   ·rw [A2 q3] at d0
    rcases bft (P4 f) with q4 | q4
    ·rw [A2 q4] at d0
     rcases bft (g.holds (⟨f.rank,f.bank,f.row,f.col⟩:Pl)) with q5 | q5
     ·rw [A2 q5] at d0
      rcases bft (Bi f.bit 576) with q6 | q6
      ·rw [A2 q6] at d0
       rcases bft (Bi f.chip 36) with q7 | q7
       ·rw [A2 q7] at d0
        subst d0
        exact so Tryz.f69 11 [] (.t q1 (.t4 q2 (.t2 q3 (.c [] (Et) (.t q3 (.y2 (.y (.c [] (bare f) (.y2 (.t4 q4 (.c [] (Cn g (⟨f.rank,f.bank,f.row,f.col⟩:Pl)) (.t q4 (.t2 q5 (.t q5 (.c [] (Hm f.bit 576) (.t q5 (.t4 q6 (.c [] (G3) (.t q6 (.c [] (Hm f.chip 36) (.t q6 (.t4 q7 (.c [] (Hm f.value 256) (.t q7 .nil))))))))))))))))))))))))
       ·rw [A1 q7] at d0
        subst d0
        exact so Tryz.f69 10 [] (.t q1 (.t4 q2 (.t2 q3 (.c [] (Et) (.t q3 (.y2 (.y (.c [] (bare f) (.y2 (.t4 q4 (.c [] (Cn g (⟨f.rank,f.bank,f.row,f.col⟩:Pl)) (.t q4 (.t2 q5 (.t q5 (.c [] (Hm f.bit 576) (.t q5 (.t4 q6 (.c [] (G3) (.t q6 (.c [] (Hm f.chip 36) (.t q6 (.t4 q7 (.t q7 .nil)))))))))))))))))))))))
      ·rw [A1 q6] at d0
       subst d0
       exact so Tryz.f69 8 [] (.t q1 (.t4 q2 (.t2 q3 (.c [] (Et) (.t q3 (.y2 (.y (.c [] (bare f) (.y2 (.t4 q4 (.c [] (Cn g (⟨f.rank,f.bank,f.row,f.col⟩:Pl)) (.t q4 (.t2 q5 (.t q5 (.c [] (Hm f.bit 576) (.t q5 (.t4 q6 (.t2 q6 (.n4 (.n .nil))))))))))))))))))))
     ·rw [A1 q5] at d0
      subst d0
      exact so Tryz.f69 7 [] (.t q1 (.t4 q2 (.t2 q3 (.c [] (Et) (.t q3 (.y2 (.y (.c [] (bare f) (.y2 (.t4 q4 (.c [] (Cn g (⟨f.rank,f.bank,f.row,f.col⟩:Pl)) (.t q4 (.t4 q5 (.n8 (.n2 (.n .nil))))))))))))))))
    ·rw [A1 q4] at d0
     subst d0
     exact so Tryz.f69 6 [] (.t q1 (.t4 q2 (.t2 q3 (.c [] (Et) (.t q3 (.y2 (.y (.c [] (bare f) (.y2 (.t4 q4 (.t q4 (.n8 (.n4 (.n2 (.n .nil)))))))))))))))
   ·rw [A1 q3] at d0
    subst d0
    exact so Tryz.f69 4 [] (.t q1 (.t4 q2 (.t2 q3 (.t q3 (.n8 (.n8 (.n8 (.n .nil))))))))
  ·rw [A1 q2] at d0
   subst d0
   exact so Tryz.f69 4 [] (.t q1 (.t4 q2 (.n8 (.n8 (.n8 (.n4 .nil))))))
