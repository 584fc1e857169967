import Derived.Test.YtfhiggfmkjmeiaaGreatFDec
set_option linter.unusedVariables false
set_option linter.unusedSimpArgs false
set_option linter.unusedSectionVars false
namespace Go.Proofs.YtfhiggfmkjmeiaaGreat
open Go Go.RowKit
set_option maxRecDepth 100000
structure Gm where
 ranks:Int
 spares:Int
 banks:Int
 rows:Int
 cols:Int
structure Pl where
 rank:Int
 bank:Int
 row:Int
 col:Int
def pl0:Pl:=⟨0,0,0,0⟩
def powB (n m:Int):Bool:=decide (1<=n) && (decide (n<=m) && decide (bits .and .i64 n (IntKind.i64.wrap (n - 1))=0))
def belB (i n:Int):Bool:=decide (0<=i) && decide (i < n)
def Gm.lines (g:Gm):Int:=IntKind.i64.wrap (IntKind.i64.wrap (IntKind.i64.wrap (IntKind.i64.wrap (g.ranks + g.spares) * g.banks) * g.rows) * g.cols)
def Gm.right (g:Gm):Bool:=powB g.ranks 8 && (decide (0<=g.spares) && (decide (g.spares<=IntKind.i64.wrap (8 - g.ranks)) && (powB g.banks 16 && (powB g.rows 1024 && (powB g.cols 64 && decide (g.lines<=4096))))))
def Gm.holds (g:Gm) (x:Pl):Bool:=g.right && (belB x.rank (IntKind.i64.wrap (g.ranks + g.spares)) && (belB x.bank g.banks && (belB x.row g.rows && belB x.col g.cols)))
def Pl.ix (x:Pl):Int:=bits .or .i64 (bits .or .i64 (bits .or .i64 (IntKind.i64.wrap (x.rank * 2 ^ 20)) (IntKind.i64.wrap (x.bank * 2 ^ 16))) (IntKind.i64.wrap (x.row * 2 ^ 6))) x.col
def plOf (i:Int):Pl:=⟨i.fdiv (2 ^ 20),bits .and .i64 (i.fdiv (2 ^ 16)) 15,bits .and .i64 (i.fdiv (2 ^ 6)) 1023,bits .and .i64 i 63⟩
def Gm.atB (g:Gm) (i:Int):Bool:=!decide (i < 0) && g.holds (plOf i)
def Gm.at (g:Gm) (i:Int):Pl:=bif g.atB i then plOf i else pl0
def Gm.atE (g:Gm) (i:Int):Int:=bif g.atB i then 0 else 12
def Gm.ix (g:Gm) (x:Pl):Int:=bif g.holds x then x.ix else 0
def Gm.ixE (g:Gm) (x:Pl):Int:=bif g.holds x then 0 else 12
theorem power_sp_0 (n:Int) (m:Int) (q1:(decide (1<=n))=true) (q2:(decide (n<=m))=true):Sp P 195 [vi n,vi m] [] (vt (decide (bits .and .i64 n (IntKind.i64.wrap (n - 1))=0))) [] :=
 so Tryz.f195 3 [] (.t4 q1 (.t4 q2 (.t2 q2 .nil)))
theorem power_sp_1 (n:Int) (m:Int) (q1:(decide (1<=n))=true) (q2:(decide (n<=m))=false):Sp P 195 [vi n,vi m] [] (vt false) [] :=
 so Tryz.f195 3 [] (.t4 q1 (.t4 q2 (.t2 q2 .nil)))
theorem power_sp_2 (n:Int) (m:Int) (q1:(decide (1<=n))=false):Sp P 195 [vi n,vi m] [] (vt false) [] :=
 so Tryz.f195 3 [] (.t4 q1 (.n4 (.n2 .nil)))
theorem power_sp (n:Int) (m:Int) :Sp P 195 [vi n,vi m] [] (vt (powB n m)) []:=by
 cases q1:decide (1<=n) with
 | true =>
   cases q2:decide (n<=m) with
   | true =>
     have e:(powB n m)=(decide (bits .and .i64 n (IntKind.i64.wrap (n - 1))=0)):=by first | (simp only [powB, *,bA,bB,bC,bD,bE,bF,bG,bH]; done) | (simp only [powB, *,bA,bB,bC,bD,bE,bF,bG,bH]; rfl)
     rw [e]
     exact power_sp_0 n m q1 q2
   | false =>
     have e:(powB n m)=false:=by first | (simp only [powB, *,bA,bB,bC,bD,bE,bF,bG,bH]; done) | (simp only [powB, *,bA,bB,bC,bD,bE,bF,bG,bH]; rfl)
     rw [e]
     exact power_sp_1 n m q1 q2
 | false =>
   have e:(powB n m)=false:=by first | (simp only [powB, *,bA,bB,bC,bD,bE,bF,bG,bH]; done) | (simp only [powB, *,bA,bB,bC,bD,bE,bF,bG,bH]; rfl)
   rw [e]
   exact power_sp_2 n m q1
theorem gbelow_sp_0 (i:Int) (n:Int) (q1:(decide (0<=i))=true):Sp P 177 [vi i,vi n] [] (vt (decide (i < n))) [] :=
 so Tryz.f177 3 [] (.t4 q1 .nil)
theorem gbelow_sp_1 (i:Int) (n:Int) (q1:(decide (0<=i))=false):Sp P 177 [vi i,vi n] [] (vt false) [] :=
 so Tryz.f177 3 [] (.t4 q1 .nil)
theorem gbelow_sp (i:Int) (n:Int) :Sp P 177 [vi i,vi n] [] (vt (belB i n)) []:=by
 cases q1:decide (0<=i) with
 | true =>
   have e:(belB i n)=(decide (i < n)):=by first | (simp only [belB, *,bA,bB,bC,bD,bE,bF,bG,bH]; done) | (simp only [belB, *,bA,bB,bC,bD,bE,bF,bG,bH]; rfl)
   rw [e]
   exact gbelow_sp_0 i n q1
 | false =>
   have e:(belB i n)=false:=by first | (simp only [belB, *,bA,bB,bC,bD,bE,bF,bG,bH]; done) | (simp only [belB, *,bA,bB,bC,bD,bE,bF,bG,bH]; rfl)
   rw [e]
   exact gbelow_sp_1 i n q1
theorem gright_sp_0 (g:Gm) (q1:(powB g.ranks 8)=true) (q2:(decide (0<=g.spares))=true) (q3:(decide (g.spares<=IntKind.i64.wrap (8 - g.ranks)))=true) (q4:(powB g.banks 16)=true) (q5:(powB g.rows 1024)=true) (q6:(powB g.cols 64)=true):Sp P 122 [.ag [vi g.ranks,vi g.spares,vi g.banks,vi g.rows,vi g.cols]] [] (vt (decide (IntKind.i64.wrap ((IntKind.i64.wrap ((IntKind.i64.wrap ((IntKind.i64.wrap (g.ranks + g.spares)) * g.banks)) * g.rows)) * g.cols)<=4096))) [] :=
 so Tryz.f122 3 [] (.c [] (power_sp g.ranks 8) (.t4 q1 (.t4 q2 (.t2 q2 (.t q2 (.t2 q3 (.t q3 (.c [] (power_sp g.banks 16) (.t q3 (.t2 q4 (.t q4 (.c [] (power_sp g.rows 1024) (.t q4 (.t2 q5 (.t q5 (.c [] (power_sp g.cols 64) (.t q5 (.t4 q6 (.t4 q6 (.t4 q6 (.t4 q6 .nil)))))))))))))))))))))
theorem gright_sp_1 (g:Gm) (q1:(powB g.ranks 8)=true) (q2:(decide (0<=g.spares))=true) (q3:(decide (g.spares<=IntKind.i64.wrap (8 - g.ranks)))=true) (q4:(powB g.banks 16)=true) (q5:(powB g.rows 1024)=true) (q6:(powB g.cols 64)=false):Sp P 122 [.ag [vi g.ranks,vi g.spares,vi g.banks,vi g.rows,vi g.cols]] [] (vt false) [] :=
 so Tryz.f122 3 [] (.c [] (power_sp g.ranks 8) (.t4 q1 (.t4 q2 (.t2 q2 (.t q2 (.t2 q3 (.t q3 (.c [] (power_sp g.banks 16) (.t q3 (.t2 q4 (.t q4 (.c [] (power_sp g.rows 1024) (.t q4 (.t2 q5 (.t q5 (.c [] (power_sp g.cols 64) (.t q5 (.t4 q6 (.t4 q6 (.t4 q6 (.t4 q6 .nil)))))))))))))))))))))
theorem gright_sp_2 (g:Gm) (q1:(powB g.ranks 8)=true) (q2:(decide (0<=g.spares))=true) (q3:(decide (g.spares<=IntKind.i64.wrap (8 - g.ranks)))=true) (q4:(powB g.banks 16)=true) (q5:(powB g.rows 1024)=false):Sp P 122 [.ag [vi g.ranks,vi g.spares,vi g.banks,vi g.rows,vi g.cols]] [] (vt false) [] :=
 so Tryz.f122 3 [] (.c [] (power_sp g.ranks 8) (.t4 q1 (.t4 q2 (.t2 q2 (.t q2 (.t2 q3 (.t q3 (.c [] (power_sp g.banks 16) (.t q3 (.t2 q4 (.t q4 (.c [] (power_sp g.rows 1024) (.t q4 (.t4 q5 (.n8 (.n8 .nil))))))))))))))))
theorem gright_sp_3 (g:Gm) (q1:(powB g.ranks 8)=true) (q2:(decide (0<=g.spares))=true) (q3:(decide (g.spares<=IntKind.i64.wrap (8 - g.ranks)))=true) (q4:(powB g.banks 16)=false):Sp P 122 [.ag [vi g.ranks,vi g.spares,vi g.banks,vi g.rows,vi g.cols]] [] (vt false) [] :=
 so Tryz.f122 3 [] (.c [] (power_sp g.ranks 8) (.t4 q1 (.t4 q2 (.t2 q2 (.t q2 (.t2 q3 (.t q3 (.c [] (power_sp g.banks 16) (.t q3 (.t4 q4 (.n8 (.n8 (.n4 .nil)))))))))))))
theorem gright_sp_4 (g:Gm) (q1:(powB g.ranks 8)=true) (q2:(decide (0<=g.spares))=true) (q3:(decide (g.spares<=IntKind.i64.wrap (8 - g.ranks)))=false):Sp P 122 [.ag [vi g.ranks,vi g.spares,vi g.banks,vi g.rows,vi g.cols]] [] (vt false) [] :=
 so Tryz.f122 3 [] (.c [] (power_sp g.ranks 8) (.t4 q1 (.t4 q2 (.t2 q2 (.t q2 (.t4 q3 (.n8 (.n8 (.n8 .nil)))))))))
theorem gright_sp_5 (g:Gm) (q1:(powB g.ranks 8)=true) (q2:(decide (0<=g.spares))=false):Sp P 122 [.ag [vi g.ranks,vi g.spares,vi g.banks,vi g.rows,vi g.cols]] [] (vt false) [] :=
 so Tryz.f122 3 [] (.c [] (power_sp g.ranks 8) (.t4 q1 (.t4 q2 (.t2 q2 (.t q2 (.n8 (.n8 (.n8 (.n4 .nil)))))))))
theorem gright_sp_6 (g:Gm) (q1:(powB g.ranks 8)=false):Sp P 122 [.ag [vi g.ranks,vi g.spares,vi g.banks,vi g.rows,vi g.cols]] [] (vt false) [] :=
 so Tryz.f122 3 [] (.c [] (power_sp g.ranks 8) (.t4 q1 (.n8 (.n8 (.n8 (.n8 (.n2 (.n .nil))))))))
theorem gright_sp (g:Gm) :Sp P 122 [.ag [vi g.ranks,vi g.spares,vi g.banks,vi g.rows,vi g.cols]] [] (vt g.right) []:=by
 cases q1:(powB g.ranks 8) with
 | true =>
   cases q2:decide (0<=g.spares) with
   | true =>
     cases q3:decide (g.spares<=IntKind.i64.wrap (8 - g.ranks)) with
     | true =>
       cases q4:(powB g.banks 16) with
       | true =>
         cases q5:(powB g.rows 1024) with
         | true =>
           cases q6:(powB g.cols 64) with
           | true =>
             have e:g.right=(decide (IntKind.i64.wrap ((IntKind.i64.wrap ((IntKind.i64.wrap ((IntKind.i64.wrap (g.ranks + g.spares)) * g.banks)) * g.rows)) * g.cols)<=4096)):=by first | (simp only [Gm.right,Gm.lines, *,bA,bB,bC,bD,bE,bF,bG,bH]; done) | (simp only [Gm.right,Gm.lines, *,bA,bB,bC,bD,bE,bF,bG,bH]; rfl)
             rw [e]
             exact gright_sp_0 g q1 q2 q3 q4 q5 q6
           | false =>
             have e:g.right=false:=by first | (simp only [Gm.right,Gm.lines, *,bA,bB,bC,bD,bE,bF,bG,bH]; done) | (simp only [Gm.right,Gm.lines, *,bA,bB,bC,bD,bE,bF,bG,bH]; rfl)
             rw [e]
             exact gright_sp_1 g q1 q2 q3 q4 q5 q6
         | false =>
           have e:g.right=false:=by first | (simp only [Gm.right,Gm.lines, *,bA,bB,bC,bD,bE,bF,bG,bH]; done) | (simp only [Gm.right,Gm.lines, *,bA,bB,bC,bD,bE,bF,bG,bH]; rfl)
           rw [e]
           exact gright_sp_2 g q1 q2 q3 q4 q5
       | false =>
         have e:g.right=false:=by first | (simp only [Gm.right,Gm.lines, *,bA,bB,bC,bD,bE,bF,bG,bH]; done) | (simp only [Gm.right,Gm.lines, *,bA,bB,bC,bD,bE,bF,bG,bH]; rfl)
         rw [e]
         exact gright_sp_3 g q1 q2 q3 q4
     | false =>
       have e:g.right=false:=by first | (simp only [Gm.right,Gm.lines, *,bA,bB,bC,bD,bE,bF,bG,bH]; done) | (simp only [Gm.right,Gm.lines, *,bA,bB,bC,bD,bE,bF,bG,bH]; rfl)
       rw [e]
       exact gright_sp_4 g q1 q2 q3
   | false =>
     have e:g.right=false:=by first | (simp only [Gm.right,Gm.lines, *,bA,bB,bC,bD,bE,bF,bG,bH]; done) | (simp only [Gm.right,Gm.lines, *,bA,bB,bC,bD,bE,bF,bG,bH]; rfl)
     rw [e]
     exact gright_sp_5 g q1 q2
 | false =>
   have e:g.right=false:=by first | (simp only [Gm.right,Gm.lines, *,bA,bB,bC,bD,bE,bF,bG,bH]; done) | (simp only [Gm.right,Gm.lines, *,bA,bB,bC,bD,bE,bF,bG,bH]; rfl)
   rw [e]
   exact gright_sp_6 g q1
theorem holds_sp_0 (g:Gm) (x:Pl) (q1:g.right=true) (q2:(belB x.rank (IntKind.i64.wrap (g.ranks + g.spares)))=true) (q3:(belB x.bank g.banks)=true) (q4:(belB x.row g.rows)=true):Sp P 108 [.ag [vi g.ranks,vi g.spares,vi g.banks,vi g.rows,vi g.cols],.ag [vi x.rank,vi x.bank,vi x.row,vi x.col]] [] (vt (belB x.col g.cols)) [] :=
 so Tryz.f108 4 [] (.c [] (gright_sp g) (.t4 q1 (.t4 q1 (.c [] (gbelow_sp x.rank (IntKind.i64.wrap (g.ranks + g.spares))) (.t q1 (.t4 q2 (.t q2 (.c [] (gbelow_sp x.bank g.banks) (.t q2 (.t4 q3 (.t q3 (.c [] (gbelow_sp x.row g.rows) (.t q3 (.t4 q4 (.t q4 (.c [] (gbelow_sp x.col g.cols) (.t q4 .nil)))))))))))))))))
theorem holds_sp_1 (g:Gm) (x:Pl) (q1:g.right=true) (q2:(belB x.rank (IntKind.i64.wrap (g.ranks + g.spares)))=true) (q3:(belB x.bank g.banks)=true) (q4:(belB x.row g.rows)=false):Sp P 108 [.ag [vi g.ranks,vi g.spares,vi g.banks,vi g.rows,vi g.cols],.ag [vi x.rank,vi x.bank,vi x.row,vi x.col]] [] (vt false) [] :=
 so Tryz.f108 4 [] (.c [] (gright_sp g) (.t4 q1 (.t4 q1 (.c [] (gbelow_sp x.rank (IntKind.i64.wrap (g.ranks + g.spares))) (.t q1 (.t4 q2 (.t q2 (.c [] (gbelow_sp x.bank g.banks) (.t q2 (.t4 q3 (.t q3 (.c [] (gbelow_sp x.row g.rows) (.t q3 (.t4 q4 (.t2 q4 .nil)))))))))))))))
theorem holds_sp_2 (g:Gm) (x:Pl) (q1:g.right=true) (q2:(belB x.rank (IntKind.i64.wrap (g.ranks + g.spares)))=true) (q3:(belB x.bank g.banks)=false):Sp P 108 [.ag [vi g.ranks,vi g.spares,vi g.banks,vi g.rows,vi g.cols],.ag [vi x.rank,vi x.bank,vi x.row,vi x.col]] [] (vt false) [] :=
 so Tryz.f108 4 [] (.c [] (gright_sp g) (.t4 q1 (.t4 q1 (.c [] (gbelow_sp x.rank (IntKind.i64.wrap (g.ranks + g.spares))) (.t q1 (.t4 q2 (.t q2 (.c [] (gbelow_sp x.bank g.banks) (.t q2 (.t4 q3 (.t2 q3 (.n4 (.n2 .nil)))))))))))))
theorem holds_sp_3 (g:Gm) (x:Pl) (q1:g.right=true) (q2:(belB x.rank (IntKind.i64.wrap (g.ranks + g.spares)))=false):Sp P 108 [.ag [vi g.ranks,vi g.spares,vi g.banks,vi g.rows,vi g.cols],.ag [vi x.rank,vi x.bank,vi x.row,vi x.col]] [] (vt false) [] :=
 so Tryz.f108 4 [] (.c [] (gright_sp g) (.t4 q1 (.t4 q1 (.c [] (gbelow_sp x.rank (IntKind.i64.wrap (g.ranks + g.spares))) (.t q1 (.t4 q2 (.t2 q2 (.n8 (.n4 .nil)))))))))
theorem holds_sp_4 (g:Gm) (x:Pl) (q1:g.right=false):Sp P 108 [.ag [vi g.ranks,vi g.spares,vi g.banks,vi g.rows,vi g.cols],.ag [vi x.rank,vi x.bank,vi x.row,vi x.col]] [] (vt false) [] :=
 so Tryz.f108 4 [] (.c [] (gright_sp g) (.t4 q1 (.t4 q1 (.t q1 (.n8 (.n8 (.n2 .nil)))))))
theorem holds_sp (g:Gm) (x:Pl) :Sp P 108 [.ag [vi g.ranks,vi g.spares,vi g.banks,vi g.rows,vi g.cols],.ag [vi x.rank,vi x.bank,vi x.row,vi x.col]] [] (vt (g.holds x)) []:=by
 cases q1:g.right with
 | true =>
   cases q2:(belB x.rank (IntKind.i64.wrap (g.ranks + g.spares))) with
   | true =>
     cases q3:(belB x.bank g.banks) with
     | true =>
       cases q4:(belB x.row g.rows) with
       | true =>
         have e:(g.holds x)=(belB x.col g.cols):=by first | (simp only [Gm.holds, *,bA,bB,bC,bD,bE,bF,bG,bH]; done) | (simp only [Gm.holds, *,bA,bB,bC,bD,bE,bF,bG,bH]; rfl)
         rw [e]
         exact holds_sp_0 g x q1 q2 q3 q4
       | false =>
         have e:(g.holds x)=false:=by first | (simp only [Gm.holds, *,bA,bB,bC,bD,bE,bF,bG,bH]; done) | (simp only [Gm.holds, *,bA,bB,bC,bD,bE,bF,bG,bH]; rfl)
         rw [e]
         exact holds_sp_1 g x q1 q2 q3 q4
     | false =>
       have e:(g.holds x)=false:=by first | (simp only [Gm.holds, *,bA,bB,bC,bD,bE,bF,bG,bH]; done) | (simp only [Gm.holds, *,bA,bB,bC,bD,bE,bF,bG,bH]; rfl)
       rw [e]
       exact holds_sp_2 g x q1 q2 q3
   | false =>
     have e:(g.holds x)=false:=by first | (simp only [Gm.holds, *,bA,bB,bC,bD,bE,bF,bG,bH]; done) | (simp only [Gm.holds, *,bA,bB,bC,bD,bE,bF,bG,bH]; rfl)
     rw [e]
     exact holds_sp_3 g x q1 q2
 | false =>
   have e:(g.holds x)=false:=by first | (simp only [Gm.holds, *,bA,bB,bC,bD,bE,bF,bG,bH]; done) | (simp only [Gm.holds, *,bA,bB,bC,bD,bE,bF,bG,bH]; rfl)
   rw [e]
   exact holds_sp_4 g x q1
theorem pindex_sp (x:Pl) :Sp P 231 [.ag [vi x.rank,vi x.bank,vi x.row,vi x.col]] [] (vi x.ix) [] :=
 so Tryz.f231 3 [] .nil
theorem place_sp (i:Int) :Sp P 107 [vi i] [] (.ag [vi (plOf i).rank,vi (plOf i).bank,vi (plOf i).row,vi (plOf i).col]) [] :=
 so Tryz.f107 3 [] .nil
theorem gat_sp_0 (g:Gm) (i:Int) (q1:(decide (i < 0))=true):Sp P 36 [.ag [vi g.ranks,vi g.spares,vi g.banks,vi g.rows,vi g.cols],vi i] [] (.tu [.ag [vn 0,vn 0,vn 0,vn 0],vn 12]) [] :=
 so Tryz.f36 5 [] (.c [] (place_sp i) (.t4 q1 (.t q1 (.y .nil))))
theorem gat_sp_1 (g:Gm) (i:Int) (q1:(decide (i < 0))=false) (q2:(g.holds (plOf i))=true):Sp P 36 [.ag [vi g.ranks,vi g.spares,vi g.banks,vi g.rows,vi g.cols],vi i] [] (.tu [.ag [vi (plOf i).rank,vi (plOf i).bank,vi (plOf i).row,vi (plOf i).col],vn 0]) [] :=
 so Tryz.f36 5 [] (.c [] (place_sp i) (.t2 q1 (.t q1 (.c [] (holds_sp g (plOf i)) (.t2 q1 (.g q2 .nil))))))
theorem gat_sp_2 (g:Gm) (i:Int) (q1:(decide (i < 0))=false) (q2:(g.holds (plOf i))=false):Sp P 36 [.ag [vi g.ranks,vi g.spares,vi g.banks,vi g.rows,vi g.cols],vi i] [] (.tu [.ag [vn 0,vn 0,vn 0,vn 0],vn 12]) [] :=
 so Tryz.f36 5 [] (.c [] (place_sp i) (.t2 q1 (.t q1 (.c [] (holds_sp g (plOf i)) (.t2 q1 (.g q2 .nil))))))
theorem gat_sp (g:Gm) (i:Int) :Sp P 36 [.ag [vi g.ranks,vi g.spares,vi g.banks,vi g.rows,vi g.cols],vi i] [] (.tu [.ag [vi (g.at i).rank,vi (g.at i).bank,vi (g.at i).row,vi (g.at i).col],vi (g.atE i)]) []:=by
 cases q1:decide (i < 0) with
 | true =>
   have e:(g.at i).rank=0:=by first | (simp only [Gm.at,Gm.atE,Gm.atB,pl0, *,bA,bB,bC,bD,bE,bF,bG,bH]; done) | (simp only [Gm.at,Gm.atE,Gm.atB,pl0, *,bA,bB,bC,bD,bE,bF,bG,bH]; rfl)
   rw [e]
   have e:(g.at i).bank=0:=by first | (simp only [Gm.at,Gm.atE,Gm.atB,pl0, *,bA,bB,bC,bD,bE,bF,bG,bH]; done) | (simp only [Gm.at,Gm.atE,Gm.atB,pl0, *,bA,bB,bC,bD,bE,bF,bG,bH]; rfl)
   rw [e]
   have e:(g.at i).row=0:=by first | (simp only [Gm.at,Gm.atE,Gm.atB,pl0, *,bA,bB,bC,bD,bE,bF,bG,bH]; done) | (simp only [Gm.at,Gm.atE,Gm.atB,pl0, *,bA,bB,bC,bD,bE,bF,bG,bH]; rfl)
   rw [e]
   have e:(g.at i).col=0:=by first | (simp only [Gm.at,Gm.atE,Gm.atB,pl0, *,bA,bB,bC,bD,bE,bF,bG,bH]; done) | (simp only [Gm.at,Gm.atE,Gm.atB,pl0, *,bA,bB,bC,bD,bE,bF,bG,bH]; rfl)
   rw [e]
   have e:(g.atE i)=12:=by first | (simp only [Gm.at,Gm.atE,Gm.atB,pl0, *,bA,bB,bC,bD,bE,bF,bG,bH]; done) | (simp only [Gm.at,Gm.atE,Gm.atB,pl0, *,bA,bB,bC,bD,bE,bF,bG,bH]; rfl)
   rw [e]
   exact gat_sp_0 g i q1
 | false =>
   cases q2:(g.holds (plOf i)) with
   | true =>
     have e:(g.at i).rank=(plOf i).rank:=by first | (simp only [Gm.at,Gm.atE,Gm.atB,pl0, *,bA,bB,bC,bD,bE,bF,bG,bH]; done) | (simp only [Gm.at,Gm.atE,Gm.atB,pl0, *,bA,bB,bC,bD,bE,bF,bG,bH]; rfl)
     rw [e]
     have e:(g.at i).bank=(plOf i).bank:=by first | (simp only [Gm.at,Gm.atE,Gm.atB,pl0, *,bA,bB,bC,bD,bE,bF,bG,bH]; done) | (simp only [Gm.at,Gm.atE,Gm.atB,pl0, *,bA,bB,bC,bD,bE,bF,bG,bH]; rfl)
     rw [e]
     have e:(g.at i).row=(plOf i).row:=by first | (simp only [Gm.at,Gm.atE,Gm.atB,pl0, *,bA,bB,bC,bD,bE,bF,bG,bH]; done) | (simp only [Gm.at,Gm.atE,Gm.atB,pl0, *,bA,bB,bC,bD,bE,bF,bG,bH]; rfl)
     rw [e]
     have e:(g.at i).col=(plOf i).col:=by first | (simp only [Gm.at,Gm.atE,Gm.atB,pl0, *,bA,bB,bC,bD,bE,bF,bG,bH]; done) | (simp only [Gm.at,Gm.atE,Gm.atB,pl0, *,bA,bB,bC,bD,bE,bF,bG,bH]; rfl)
     rw [e]
     have e:(g.atE i)=0:=by first | (simp only [Gm.at,Gm.atE,Gm.atB,pl0, *,bA,bB,bC,bD,bE,bF,bG,bH]; done) | (simp only [Gm.at,Gm.atE,Gm.atB,pl0, *,bA,bB,bC,bD,bE,bF,bG,bH]; rfl)
     rw [e]
     exact gat_sp_1 g i q1 q2
   | false =>
     have e:(g.at i).rank=0:=by first | (simp only [Gm.at,Gm.atE,Gm.atB,pl0, *,bA,bB,bC,bD,bE,bF,bG,bH]; done) | (simp only [Gm.at,Gm.atE,Gm.atB,pl0, *,bA,bB,bC,bD,bE,bF,bG,bH]; rfl)
     rw [e]
     have e:(g.at i).bank=0:=by first | (simp only [Gm.at,Gm.atE,Gm.atB,pl0, *,bA,bB,bC,bD,bE,bF,bG,bH]; done) | (simp only [Gm.at,Gm.atE,Gm.atB,pl0, *,bA,bB,bC,bD,bE,bF,bG,bH]; rfl)
     rw [e]
     have e:(g.at i).row=0:=by first | (simp only [Gm.at,Gm.atE,Gm.atB,pl0, *,bA,bB,bC,bD,bE,bF,bG,bH]; done) | (simp only [Gm.at,Gm.atE,Gm.atB,pl0, *,bA,bB,bC,bD,bE,bF,bG,bH]; rfl)
     rw [e]
     have e:(g.at i).col=0:=by first | (simp only [Gm.at,Gm.atE,Gm.atB,pl0, *,bA,bB,bC,bD,bE,bF,bG,bH]; done) | (simp only [Gm.at,Gm.atE,Gm.atB,pl0, *,bA,bB,bC,bD,bE,bF,bG,bH]; rfl)
     rw [e]
     have e:(g.atE i)=12:=by first | (simp only [Gm.at,Gm.atE,Gm.atB,pl0, *,bA,bB,bC,bD,bE,bF,bG,bH]; done) | (simp only [Gm.at,Gm.atE,Gm.atB,pl0, *,bA,bB,bC,bD,bE,bF,bG,bH]; rfl)
     rw [e]
     exact gat_sp_2 g i q1 q2
theorem gindex_sp_0 (g:Gm) (x:Pl) (q1:(g.holds x)=true):Sp P 178 [.ag [vi g.ranks,vi g.spares,vi g.banks,vi g.rows,vi g.cols],.ag [vi x.rank,vi x.bank,vi x.row,vi x.col]] [] (.tu [vi x.ix,vn 0]) [] :=
 so Tryz.f178 4 [] (.c [] (holds_sp g x) (.g q1 (.c [] (pindex_sp x) .nil)))
theorem gindex_sp_1 (g:Gm) (x:Pl) (q1:(g.holds x)=false):Sp P 178 [.ag [vi g.ranks,vi g.spares,vi g.banks,vi g.rows,vi g.cols],.ag [vi x.rank,vi x.bank,vi x.row,vi x.col]] [] (.tu [vn 0,vn 12]) [] :=
 so Tryz.f178 4 [] (.c [] (holds_sp g x) (.g q1 .nil))
theorem gindex_sp (g:Gm) (x:Pl) :Sp P 178 [.ag [vi g.ranks,vi g.spares,vi g.banks,vi g.rows,vi g.cols],.ag [vi x.rank,vi x.bank,vi x.row,vi x.col]] [] (.tu [vi (g.ix x),vi (g.ixE x)]) []:=by
 cases q1:(g.holds x) with
 | true =>
   have e:(g.ix x)=x.ix:=by first | (simp only [Gm.ix,Gm.ixE, *,bA,bB,bC,bD,bE,bF,bG,bH]; done) | (simp only [Gm.ix,Gm.ixE, *,bA,bB,bC,bD,bE,bF,bG,bH]; rfl)
   rw [e]
   have e:(g.ixE x)=0:=by first | (simp only [Gm.ix,Gm.ixE, *,bA,bB,bC,bD,bE,bF,bG,bH]; done) | (simp only [Gm.ix,Gm.ixE, *,bA,bB,bC,bD,bE,bF,bG,bH]; rfl)
   rw [e]
   exact gindex_sp_0 g x q1
 | false =>
   have e:(g.ix x)=0:=by first | (simp only [Gm.ix,Gm.ixE, *,bA,bB,bC,bD,bE,bF,bG,bH]; done) | (simp only [Gm.ix,Gm.ixE, *,bA,bB,bC,bD,bE,bF,bG,bH]; rfl)
   rw [e]
   have e:(g.ixE x)=12:=by first | (simp only [Gm.ix,Gm.ixE, *,bA,bB,bC,bD,bE,bF,bG,bH]; done) | (simp only [Gm.ix,Gm.ixE, *,bA,bB,bC,bD,bE,bF,bG,bH]; rfl)
   rw [e]
   exact gindex_sp_1 g x q1
structure Flt where
 kind:Int
 rank:Int
 bank:Int
 row:Int
 col:Int
 chip:Int
 bit:Int
 value:Int
def fbel_v0 (i:Int) (n:Int):Bool:=bif decide (0<=i) then (decide (i < n)) else false
theorem fbel (i:Int) (n:Int) :Sp P 138 [vi i,vi n] [] (vt (fbel_v0 i n)) []:=by
 generalize d0:fbel_v0 i n=yd0
 unfold fbel_v0 at d0
 rcases bft (decide (0<=i)) with q1 | q1
 ·rw [cpos q1] at d0
  subst d0
  exact so Tryz.f138 3 [] (.t4 q1 .nil)
 ·rw [cneg q1] at d0
  subst d0
  exact so Tryz.f138 3 [] (.t4 q1 .nil)
def bare_c0 (f:Flt):=(bif (decide (f.kind=3)) then (decide (f.kind=3)) else (bif (decide (f.kind=4)) then (decide (f.kind=4)) else (decide (f.kind=5))))
def bare_c1 (f:Flt):=(bif (decide (f.kind=1)) then f.rank else (bif (decide (f.kind=2)) then f.rank else (bif (bare_c0 f) then f.rank else (bif (decide (f.kind=7)) then 0 else f.rank))))
def bare_c2 (f:Flt):=(bif (decide (f.kind=1)) then f.bank else (bif (decide (f.kind=2)) then f.bank else (bif (bare_c0 f) then f.bank else (bif (decide (f.kind=7)) then 0 else f.bank))))
def bare_c3 (f:Flt):=(bif (decide (f.kind=1)) then f.col else (bif (decide (f.kind=2)) then f.col else (bif (bare_c0 f) then f.col else (bif (decide (f.kind=7)) then 0 else f.col))))
def bare_c4 (f:Flt):=(bif (decide (f.kind=1)) then f.row else (bif (decide (f.kind=2)) then f.row else (bif (bare_c0 f) then f.row else (bif (decide (f.kind=7)) then 0 else f.row))))
def bare_c5 (f:Flt):=(bif (decide (f.kind=2)) then f.value else (bif (bare_c0 f) then f.value else 0))
def bare_c6 (f:Flt):=(bif (decide (f.kind=1)) then 0 else (bif (decide (f.kind=2)) then 0 else (bif (bare_c0 f) then f.chip else 0)))
def bare_c7 (f:Flt):=(bif (decide (f.kind=1)) then f.bit else (bif (decide (f.kind=2)) then f.bit else 0))
def bare_v0 (f:Flt):Int:=bif (decide (f.kind=3)) then (bare_c1 f) else (bif (decide (f.kind=4)) then (bare_c1 f) else (bif (decide (f.kind=5)) then f.rank else (bare_c1 f)))
def bare_v1 (f:Flt):Int:=bif (decide (f.kind=3)) then (bare_c2 f) else (bif (decide (f.kind=4)) then (bare_c2 f) else (bif (decide (f.kind=5)) then 0 else (bare_c2 f)))
def bare_v2 (f:Flt):Int:=bif (decide (f.kind=3)) then (bare_c4 f) else (bif (decide (f.kind=4)) then 0 else (bif (decide (f.kind=5)) then 0 else (bare_c4 f)))
def bare_v3 (f:Flt):Int:=bif (decide (f.kind=3)) then 0 else (bif (decide (f.kind=4)) then (bare_c3 f) else (bif (decide (f.kind=5)) then 0 else (bare_c3 f)))
def bare_v4 (f:Flt):Int:=bif (decide (f.kind=1)) then 0 else (bif (decide (f.kind=2)) then 0 else (bif (bare_c0 f) then f.chip else 0))
def bare_v5 (f:Flt):Int:=bif (decide (f.kind=1)) then f.bit else (bif (decide (f.kind=2)) then f.bit else 0)
def bare_v6 (f:Flt):Int:=bif (decide (f.kind=1)) then 0 else (bare_c5 f)
theorem bare (f:Flt) :Sp P 137 [.ag [vi f.kind,vi f.rank,vi f.bank,vi f.row,vi f.col,vi f.chip,vi f.bit,vi f.value]] [] (.ag [vi f.kind,vi (bare_v0 f),vi (bare_v1 f),vi (bare_v2 f),vi (bare_v3 f),vi (bare_v4 f),vi (bare_v5 f),vi (bare_v6 f)]) [] :=
 so Tryz.f137 7 [] (.cs 0 (decide (f.kind=1)) 4 [] [] (fun z=>[]) (fun z=>[(3,.blk [vi f.kind,vi (bif z then f.rank else (bif (decide (f.kind=2)) then f.rank else (bif (bare_c0 f) then f.rank else (bif (decide (f.kind=7)) then 0 else f.rank)))),vi (bif z then f.bank else (bif (decide (f.kind=2)) then f.bank else (bif (bare_c0 f) then f.bank else (bif (decide (f.kind=7)) then 0 else f.bank)))),vi (bif z then f.row else (bif (decide (f.kind=2)) then f.row else (bif (bare_c0 f) then f.row else (bif (decide (f.kind=7)) then 0 else f.row)))),vi (bif z then f.col else (bif (decide (f.kind=2)) then f.col else (bif (bare_c0 f) then f.col else (bif (decide (f.kind=7)) then 0 else f.col)))),vi (bif z then 0 else (bif (decide (f.kind=2)) then 0 else (bif (bare_c0 f) then f.chip else 0))),vi (bif z then f.bit else (bif (decide (f.kind=2)) then f.bit else 0)),vi (bif z then 0 else (bare_c5 f))] 48)]) (fun hq1=>(.t hq1 .nil)) (fun hq1=>(.t hq1 (.cs 0 (decide (f.kind=2)) 4 [] [] (fun z=>[]) (fun z=>[(3,.blk [vi f.kind,vi (bif z then f.rank else (bif (bare_c0 f) then f.rank else (bif (decide (f.kind=7)) then 0 else f.rank))),vi (bif z then f.bank else (bif (bare_c0 f) then f.bank else (bif (decide (f.kind=7)) then 0 else f.bank))),vi (bif z then f.row else (bif (bare_c0 f) then f.row else (bif (decide (f.kind=7)) then 0 else f.row))),vi (bif z then f.col else (bif (bare_c0 f) then f.col else (bif (decide (f.kind=7)) then 0 else f.col))),vi (bif z then 0 else (bif (bare_c0 f) then f.chip else 0)),vi (bif z then f.bit else 0),vi (bif z then f.value else (bif (bare_c0 f) then f.value else 0))] 48)]) (fun hq2=>(.t hq2 .nil)) (fun hq2=>(.t hq2 (.cs 0 (decide (f.kind=3)) 4 [] [] (fun z=>[(24,vt (bif z then (decide (f.kind=3)) else (bif (decide (f.kind=4)) then (decide (f.kind=4)) else (decide (f.kind=5)))))]) (fun z=>[]) (fun hq3=>(.t hq3 .nil)) (fun hq3=>(.t hq3 (.cs 0 (decide (f.kind=4)) 4 [] [] (fun z=>[(24,vt (bif z then (decide (f.kind=4)) else (decide (f.kind=5))))]) (fun z=>[]) (fun hq4=>(.t hq4 .nil)) (fun hq4=>(.t hq4 .nil)) .nil))) (.cs 0 (bare_c0 f) 4 [] [] (fun z=>[]) (fun z=>[(3,.blk [vi f.kind,vi (bif z then f.rank else (bif (decide (f.kind=7)) then 0 else f.rank)),vi (bif z then f.bank else (bif (decide (f.kind=7)) then 0 else f.bank)),vi (bif z then f.row else (bif (decide (f.kind=7)) then 0 else f.row)),vi (bif z then f.col else (bif (decide (f.kind=7)) then 0 else f.col)),vi (bif z then f.chip else 0),vn 0,vi (bif z then f.value else 0)] 48)]) (fun hq3=>(.t hq3 .nil)) (fun hq3=>(.t hq3 (.cs 0 (decide (f.kind=7)) 4 [] [] (fun z=>[]) (fun z=>[(3,.blk [vi f.kind,vi (bif z then 0 else f.rank),vi (bif z then 0 else f.bank),vi (bif z then 0 else f.row),vi (bif z then 0 else f.col),vn 0,vn 0,vn 0] 48)]) (fun hq4=>(.t hq4 .nil)) (fun hq4=>(.t hq4 .nil)) .nil))) .nil)))) .nil))) (.cs 0 (decide (f.kind=3)) 4 [] [] (fun z=>[]) (fun z=>[(3,.blk [vi f.kind,vi (bif z then (bare_c1 f) else (bif (decide (f.kind=4)) then (bare_c1 f) else (bif (decide (f.kind=5)) then f.rank else (bare_c1 f)))),vi (bif z then (bare_c2 f) else (bif (decide (f.kind=4)) then (bare_c2 f) else (bif (decide (f.kind=5)) then 0 else (bare_c2 f)))),vi (bif z then (bare_c4 f) else (bif (decide (f.kind=4)) then 0 else (bif (decide (f.kind=5)) then 0 else (bare_c4 f)))),vi (bif z then 0 else (bif (decide (f.kind=4)) then (bare_c3 f) else (bif (decide (f.kind=5)) then 0 else (bare_c3 f)))),vi (bare_c6 f),vi (bare_c7 f),vi (bif (decide (f.kind=1)) then 0 else (bare_c5 f))] 48)]) (fun hq1=>(.t hq1 .nil)) (fun hq1=>(.t hq1 (.cs 0 (decide (f.kind=4)) 4 [] [] (fun z=>[]) (fun z=>[(3,.blk [vi f.kind,vi (bif z then (bare_c1 f) else (bif (decide (f.kind=5)) then f.rank else (bare_c1 f))),vi (bif z then (bare_c2 f) else (bif (decide (f.kind=5)) then 0 else (bare_c2 f))),vi (bif z then 0 else (bif (decide (f.kind=5)) then 0 else (bare_c4 f))),vi (bif z then (bare_c3 f) else (bif (decide (f.kind=5)) then 0 else (bare_c3 f))),vi (bare_c6 f),vi (bare_c7 f),vi (bif (decide (f.kind=1)) then 0 else (bare_c5 f))] 48)]) (fun hq2=>(.t hq2 .nil)) (fun hq2=>(.t hq2 (.cs 0 (decide (f.kind=5)) 4 [] [] (fun z=>[]) (fun z=>[(3,.blk [vi f.kind,vi (bif z then f.rank else (bare_c1 f)),vi (bif z then 0 else (bare_c2 f)),vi (bif z then 0 else (bare_c4 f)),vi (bif z then 0 else (bare_c3 f)),vi (bare_c6 f),vi (bare_c7 f),vi (bif (decide (f.kind=1)) then 0 else (bare_c5 f))] 48)]) (fun hq3=>(.t hq3 .nil)) (fun hq3=>(.t hq3 .nil)) .nil))) .nil))) .nil))
def lasts_v0 (f:Flt):Bool:=bif decide (2<=f.kind) then (decide (f.kind<=5)) else false
theorem lasts (f:Flt) :Sp P 180 [.ag [vi f.kind,vi f.rank,vi f.bank,vi f.row,vi f.col,vi f.chip,vi f.bit,vi f.value]] [] (vt (lasts_v0 f)) []:=by
 generalize d0:lasts_v0 f=yd0
 unfold lasts_v0 at d0
 rcases bft (decide (2<=f.kind)) with q1 | q1
 ·rw [cpos q1] at d0
  subst d0
  exact so Tryz.f180 3 [] (.t4 q1 .nil)
 ·rw [cneg q1] at d0
  subst d0
  exact so Tryz.f180 3 [] (.t4 q1 .nil)
def lies_v0 (f:Flt) (x:Pl):Bool:=bif decide (f.kind=1) then ((decide (x.rank=f.rank)) && ((decide (x.bank=f.bank)) && ((decide (x.row=f.row)) && ((decide (x.col=f.col)) && true)))) else (bif decide (f.kind=2) then ((decide (x.rank=f.rank)) && ((decide (x.bank=f.bank)) && ((decide (x.row=f.row)) && ((decide (x.col=f.col)) && true)))) else (bif decide (f.kind=3) then ((decide (x.rank=f.rank)) && ((decide (x.bank=f.bank)) && ((decide (x.row=f.row)) && ((decide (f.col=f.col)) && true)))) else (bif decide (f.kind=4) then ((decide (x.rank=f.rank)) && ((decide (x.bank=f.bank)) && ((decide (f.row=f.row)) && ((decide (x.col=f.col)) && true)))) else (bif decide (f.kind=5) then (decide (x.rank=f.rank)) else false))))
theorem lies (f:Flt) (x:Pl) :Sp P 232 [.ag [vi f.kind,vi f.rank,vi f.bank,vi f.row,vi f.col,vi f.chip,vi f.bit,vi f.value],.ag [vi x.rank,vi x.bank,vi x.row,vi x.col]] [] (vt (lies_v0 f x)) []:=by
 generalize d0:lies_v0 f x=yd0
 unfold lies_v0 at d0
 rcases bft (decide (f.kind=1)) with q1 | q1
 ·rw [cpos q1] at d0
  subst d0
  exact so Tryz.f232 5 [] (.t2 q1 .nil)
 ·rw [cneg q1] at d0
  rcases bft (decide (f.kind=2)) with q2 | q2
  ·rw [cpos q2] at d0
   subst d0
   exact so Tryz.f232 5 [] (.t q1 (.t q2 .nil))
  ·rw [cneg q2] at d0
   rcases bft (decide (f.kind=3)) with q3 | q3
   ·rw [cpos q3] at d0
    subst d0
    exact so Tryz.f232 5 [] (.t q1 (.t q2 (.t q3 .nil)))
   ·rw [cneg q3] at d0
    rcases bft (decide (f.kind=4)) with q4 | q4
    ·rw [cpos q4] at d0
     subst d0
     exact so Tryz.f232 5 [] (.t q1 (.t q2 (.t q3 (.t q4 .nil))))
    ·rw [cneg q4] at d0
     rcases bft (decide (f.kind=5)) with q5 | q5
     ·rw [cpos q5] at d0
      subst d0
      exact so Tryz.f232 5 [] (.t q1 (.t q2 (.t q3 (.t q4 (.t q5 .nil)))))
     ·rw [cneg q5] at d0
      subst d0
      exact so Tryz.f232 5 [] (.t q1 (.t q2 (.t q3 (.t q4 (.t q5 .nil)))))
def fright1_c0 (f:Flt):=((decide (f.kind=f.kind)) && (((decide (f.rank=(bare_v0 f))) && ((decide (f.bank=(bare_v1 f))) && ((decide (f.row=(bare_v2 f))) && ((decide (f.col=(bare_v3 f))) && true)))) && ((decide (f.chip=(bare_v4 f))) && ((decide (f.bit=(bare_v5 f))) && ((decide (f.value=(bare_v6 f))) && true)))))
def fright1_v0 (f:Flt) (g:Gm):Bool:=bif decide (f.kind=2) then (bif decide (1<=f.kind) then (bif decide (f.kind<=7) then (bif (fright1_c0 f) then (bif g.holds (⟨f.rank,f.bank,f.row,f.col⟩:Pl) then (bif (fbel_v0 f.bit 576) then (bif (fbel_v0 f.chip 9) then (fbel_v0 f.value 2) else false) else false) else false) else false) else false) else false) else (bif decide (1<=f.kind) then (bif decide (f.kind<=7) then (bif (fright1_c0 f) then (bif g.holds (⟨f.rank,f.bank,f.row,f.col⟩:Pl) then (bif (fbel_v0 f.bit 576) then (bif (fbel_v0 f.chip 9) then (fbel_v0 f.value 256) else false) else false) else false) else false) else false) else false)
theorem fright1 (f : Flt) (g : Gm)  : Sp P 69 [.ag [vi f.kind, vi f.rank, vi f.bank, vi f.row, vi f.col, vi f.chip, vi f.bit, vi f.value], .ag [vi g.ranks, vi g.spares, vi g.banks, vi g.rows, vi g.cols], vn 1] [] (vt (fright1_v0 f g)) [] := by
 generalize d0:fright1_v0 f g=yd0
 unfold fright1_v0 at d0
 rcases bft (decide (f.kind=2)) with q1 | q1
 ·rw [cpos q1] at d0
  rcases bft (decide (1<=f.kind)) with q2 | q2
  ·rw [cpos q2] at d0
   rcases bft (decide (f.kind<=7)) with q3 | q3
   ·rw [cpos q3] at d0
    rcases bft (fright1_c0 f) with q4 | q4
    ·rw [cpos q4] at d0
     rcases bft (g.holds (⟨f.rank,f.bank,f.row,f.col⟩:Pl)) with q5 | q5
     ·rw [cpos q5] at d0
      rcases bft (fbel_v0 f.bit 576) with q6 | q6
      ·rw [cpos q6] at d0
       rcases bft (fbel_v0 f.chip 9) with q7 | q7
       ·rw [cpos q7] at d0
        subst d0
        exact so Tryz.f69 11 [] (.t q1 (.t4 q2 (.t2 q3 (.c [] (rright_1) (.t q3 (.y2 (.y (.c [] (bare f) (.y2 (.t4 q4 (.c [] (holds_sp g (⟨f.rank,f.bank,f.row,f.col⟩:Pl)) (.t q4 (.t2 q5 (.t q5 (.c [] (fbel f.bit 576) (.t q5 (.t4 q6 (.c [] (chips_1) (.t q6 (.c [] (fbel f.chip 9) (.t q6 (.t4 q7 (.c [] (fbel f.value 2) (.t q7 .nil))))))))))))))))))))))))
       ·rw [cneg q7] at d0
        subst d0
        exact so Tryz.f69 10 [] (.t q1 (.t4 q2 (.t2 q3 (.c [] (rright_1) (.t q3 (.y2 (.y (.c [] (bare f) (.y2 (.t4 q4 (.c [] (holds_sp g (⟨f.rank,f.bank,f.row,f.col⟩:Pl)) (.t q4 (.t2 q5 (.t q5 (.c [] (fbel f.bit 576) (.t q5 (.t4 q6 (.c [] (chips_1) (.t q6 (.c [] (fbel f.chip 9) (.t q6 (.t4 q7 (.t q7 .nil)))))))))))))))))))))))
      ·rw [cneg q6] at d0
       subst d0
       exact so Tryz.f69 8 [] (.t q1 (.t4 q2 (.t2 q3 (.c [] (rright_1) (.t q3 (.y2 (.y (.c [] (bare f) (.y2 (.t4 q4 (.c [] (holds_sp g (⟨f.rank,f.bank,f.row,f.col⟩:Pl)) (.t q4 (.t2 q5 (.t q5 (.c [] (fbel f.bit 576) (.t q5 (.t4 q6 (.t2 q6 (.n4 (.n .nil))))))))))))))))))))
     ·rw [cneg q5] at d0
      subst d0
      exact so Tryz.f69 7 [] (.t q1 (.t4 q2 (.t2 q3 (.c [] (rright_1) (.t q3 (.y2 (.y (.c [] (bare f) (.y2 (.t4 q4 (.c [] (holds_sp g (⟨f.rank,f.bank,f.row,f.col⟩:Pl)) (.t q4 (.t4 q5 (.n8 (.n2 (.n .nil))))))))))))))))
    ·rw [cneg q4] at d0
     subst d0
     exact so Tryz.f69 6 [] (.t q1 (.t4 q2 (.t2 q3 (.c [] (rright_1) (.t q3 (.y2 (.y (.c [] (bare f) (.y2 (.t4 q4 (.t q4 (.n8 (.n4 (.n2 (.n .nil)))))))))))))))
   ·rw [cneg q3] at d0
    subst d0
    exact so Tryz.f69 4 [] (.t q1 (.t4 q2 (.t2 q3 (.t q3 (.n8 (.n8 (.n8 (.n .nil))))))))
  ·rw [cneg q2] at d0
   subst d0
   exact so Tryz.f69 4 [] (.t q1 (.t4 q2 (.n8 (.n8 (.n8 (.n4 .nil))))))
 ·rw [cneg q1] at d0
  rcases bft (decide (1<=f.kind)) with q2 | q2
  ·rw [cpos q2] at d0
   rcases bft (decide (f.kind<=7)) with q3 | q3
   ·rw [cpos q3] at d0
    rcases bft (fright1_c0 f) with q4 | q4
    ·rw [cpos q4] at d0
     rcases bft (g.holds (⟨f.rank,f.bank,f.row,f.col⟩:Pl)) with q5 | q5
     ·rw [cpos q5] at d0
      rcases bft (fbel_v0 f.bit 576) with q6 | q6
      ·rw [cpos q6] at d0
       rcases bft (fbel_v0 f.chip 9) with q7 | q7
       ·rw [cpos q7] at d0
        subst d0
        exact so Tryz.f69 11 [] (.t q1 (.t4 q2 (.t2 q3 (.c [] (rright_1) (.t q3 (.y2 (.y (.c [] (bare f) (.y2 (.t4 q4 (.c [] (holds_sp g (⟨f.rank,f.bank,f.row,f.col⟩:Pl)) (.t q4 (.t2 q5 (.t q5 (.c [] (fbel f.bit 576) (.t q5 (.t4 q6 (.c [] (chips_1) (.t q6 (.c [] (fbel f.chip 9) (.t q6 (.t4 q7 (.c [] (fbel f.value 256) (.t q7 .nil))))))))))))))))))))))))
       ·rw [cneg q7] at d0
        subst d0
        exact so Tryz.f69 10 [] (.t q1 (.t4 q2 (.t2 q3 (.c [] (rright_1) (.t q3 (.y2 (.y (.c [] (bare f) (.y2 (.t4 q4 (.c [] (holds_sp g (⟨f.rank,f.bank,f.row,f.col⟩:Pl)) (.t q4 (.t2 q5 (.t q5 (.c [] (fbel f.bit 576) (.t q5 (.t4 q6 (.c [] (chips_1) (.t q6 (.c [] (fbel f.chip 9) (.t q6 (.t4 q7 (.t q7 .nil)))))))))))))))))))))))
      ·rw [cneg q6] at d0
       subst d0
       exact so Tryz.f69 8 [] (.t q1 (.t4 q2 (.t2 q3 (.c [] (rright_1) (.t q3 (.y2 (.y (.c [] (bare f) (.y2 (.t4 q4 (.c [] (holds_sp g (⟨f.rank,f.bank,f.row,f.col⟩:Pl)) (.t q4 (.t2 q5 (.t q5 (.c [] (fbel f.bit 576) (.t q5 (.t4 q6 (.t2 q6 (.n4 (.n .nil))))))))))))))))))))
     ·rw [cneg q5] at d0
      subst d0
      exact so Tryz.f69 7 [] (.t q1 (.t4 q2 (.t2 q3 (.c [] (rright_1) (.t q3 (.y2 (.y (.c [] (bare f) (.y2 (.t4 q4 (.c [] (holds_sp g (⟨f.rank,f.bank,f.row,f.col⟩:Pl)) (.t q4 (.t4 q5 (.n8 (.n2 (.n .nil))))))))))))))))
    ·rw [cneg q4] at d0
     subst d0
     exact so Tryz.f69 6 [] (.t q1 (.t4 q2 (.t2 q3 (.c [] (rright_1) (.t q3 (.y2 (.y (.c [] (bare f) (.y2 (.t4 q4 (.t q4 (.n8 (.n4 (.n2 (.n .nil)))))))))))))))
   ·rw [cneg q3] at d0
    subst d0
    exact so Tryz.f69 4 [] (.t q1 (.t4 q2 (.t2 q3 (.t q3 (.n8 (.n8 (.n8 (.n .nil))))))))
  ·rw [cneg q2] at d0
   subst d0
   exact so Tryz.f69 4 [] (.t q1 (.t4 q2 (.n8 (.n8 (.n8 (.n4 .nil))))))
def fright2_c0 (f:Flt):=((decide (f.kind=f.kind)) && (((decide (f.rank=(bare_v0 f))) && ((decide (f.bank=(bare_v1 f))) && ((decide (f.row=(bare_v2 f))) && ((decide (f.col=(bare_v3 f))) && true)))) && ((decide (f.chip=(bare_v4 f))) && ((decide (f.bit=(bare_v5 f))) && ((decide (f.value=(bare_v6 f))) && true)))))
def fright2_v0 (f:Flt) (g:Gm):Bool:=bif decide (f.kind=2) then (bif decide (1<=f.kind) then (bif decide (f.kind<=7) then (bif (fright2_c0 f) then (bif g.holds (⟨f.rank,f.bank,f.row,f.col⟩:Pl) then (bif (fbel_v0 f.bit 576) then (bif (fbel_v0 f.chip 36) then (fbel_v0 f.value 2) else false) else false) else false) else false) else false) else false) else (bif decide (1<=f.kind) then (bif decide (f.kind<=7) then (bif (fright2_c0 f) then (bif g.holds (⟨f.rank,f.bank,f.row,f.col⟩:Pl) then (bif (fbel_v0 f.bit 576) then (bif (fbel_v0 f.chip 36) then (fbel_v0 f.value 256) else false) else false) else false) else false) else false) else false)
theorem fright2 (f : Flt) (g : Gm)  : Sp P 69 [.ag [vi f.kind, vi f.rank, vi f.bank, vi f.row, vi f.col, vi f.chip, vi f.bit, vi f.value], .ag [vi g.ranks, vi g.spares, vi g.banks, vi g.rows, vi g.cols], vn 2] [] (vt (fright2_v0 f g)) [] := by
 generalize d0:fright2_v0 f g=yd0
 unfold fright2_v0 at d0
 rcases bft (decide (f.kind=2)) with q1 | q1
 ·rw [cpos q1] at d0
  rcases bft (decide (1<=f.kind)) with q2 | q2
  ·rw [cpos q2] at d0
   rcases bft (decide (f.kind<=7)) with q3 | q3
   ·rw [cpos q3] at d0
    rcases bft (fright2_c0 f) with q4 | q4
    ·rw [cpos q4] at d0
     rcases bft (g.holds (⟨f.rank,f.bank,f.row,f.col⟩:Pl)) with q5 | q5
     ·rw [cpos q5] at d0
      rcases bft (fbel_v0 f.bit 576) with q6 | q6
      ·rw [cpos q6] at d0
       rcases bft (fbel_v0 f.chip 36) with q7 | q7
       ·rw [cpos q7] at d0
        subst d0
        exact so Tryz.f69 11 [] (.t q1 (.t4 q2 (.t2 q3 (.c [] (rright_2) (.t q3 (.y2 (.y (.c [] (bare f) (.y2 (.t4 q4 (.c [] (holds_sp g (⟨f.rank,f.bank,f.row,f.col⟩:Pl)) (.t q4 (.t2 q5 (.t q5 (.c [] (fbel f.bit 576) (.t q5 (.t4 q6 (.c [] (chips_2) (.t q6 (.c [] (fbel f.chip 36) (.t q6 (.t4 q7 (.c [] (fbel f.value 2) (.t q7 .nil))))))))))))))))))))))))
       ·rw [cneg q7] at d0
        subst d0
        exact so Tryz.f69 10 [] (.t q1 (.t4 q2 (.t2 q3 (.c [] (rright_2) (.t q3 (.y2 (.y (.c [] (bare f) (.y2 (.t4 q4 (.c [] (holds_sp g (⟨f.rank,f.bank,f.row,f.col⟩:Pl)) (.t q4 (.t2 q5 (.t q5 (.c [] (fbel f.bit 576) (.t q5 (.t4 q6 (.c [] (chips_2) (.t q6 (.c [] (fbel f.chip 36) (.t q6 (.t4 q7 (.t q7 .nil)))))))))))))))))))))))
      ·rw [cneg q6] at d0
       subst d0
       exact so Tryz.f69 8 [] (.t q1 (.t4 q2 (.t2 q3 (.c [] (rright_2) (.t q3 (.y2 (.y (.c [] (bare f) (.y2 (.t4 q4 (.c [] (holds_sp g (⟨f.rank,f.bank,f.row,f.col⟩:Pl)) (.t q4 (.t2 q5 (.t q5 (.c [] (fbel f.bit 576) (.t q5 (.t4 q6 (.t2 q6 (.n4 (.n .nil))))))))))))))))))))
     ·rw [cneg q5] at d0
      subst d0
      exact so Tryz.f69 7 [] (.t q1 (.t4 q2 (.t2 q3 (.c [] (rright_2) (.t q3 (.y2 (.y (.c [] (bare f) (.y2 (.t4 q4 (.c [] (holds_sp g (⟨f.rank,f.bank,f.row,f.col⟩:Pl)) (.t q4 (.t4 q5 (.n8 (.n2 (.n .nil))))))))))))))))
    ·rw [cneg q4] at d0
     subst d0
     exact so Tryz.f69 6 [] (.t q1 (.t4 q2 (.t2 q3 (.c [] (rright_2) (.t q3 (.y2 (.y (.c [] (bare f) (.y2 (.t4 q4 (.t q4 (.n8 (.n4 (.n2 (.n .nil)))))))))))))))
   ·rw [cneg q3] at d0
    subst d0
    exact so Tryz.f69 4 [] (.t q1 (.t4 q2 (.t2 q3 (.t q3 (.n8 (.n8 (.n8 (.n .nil))))))))
  ·rw [cneg q2] at d0
   subst d0
   exact so Tryz.f69 4 [] (.t q1 (.t4 q2 (.n8 (.n8 (.n8 (.n4 .nil))))))
 ·rw [cneg q1] at d0
  rcases bft (decide (1<=f.kind)) with q2 | q2
  ·rw [cpos q2] at d0
   rcases bft (decide (f.kind<=7)) with q3 | q3
   ·rw [cpos q3] at d0
    rcases bft (fright2_c0 f) with q4 | q4
    ·rw [cpos q4] at d0
     rcases bft (g.holds (⟨f.rank,f.bank,f.row,f.col⟩:Pl)) with q5 | q5
     ·rw [cpos q5] at d0
      rcases bft (fbel_v0 f.bit 576) with q6 | q6
      ·rw [cpos q6] at d0
       rcases bft (fbel_v0 f.chip 36) with q7 | q7
       ·rw [cpos q7] at d0
        subst d0
        exact so Tryz.f69 11 [] (.t q1 (.t4 q2 (.t2 q3 (.c [] (rright_2) (.t q3 (.y2 (.y (.c [] (bare f) (.y2 (.t4 q4 (.c [] (holds_sp g (⟨f.rank,f.bank,f.row,f.col⟩:Pl)) (.t q4 (.t2 q5 (.t q5 (.c [] (fbel f.bit 576) (.t q5 (.t4 q6 (.c [] (chips_2) (.t q6 (.c [] (fbel f.chip 36) (.t q6 (.t4 q7 (.c [] (fbel f.value 256) (.t q7 .nil))))))))))))))))))))))))
       ·rw [cneg q7] at d0
        subst d0
        exact so Tryz.f69 10 [] (.t q1 (.t4 q2 (.t2 q3 (.c [] (rright_2) (.t q3 (.y2 (.y (.c [] (bare f) (.y2 (.t4 q4 (.c [] (holds_sp g (⟨f.rank,f.bank,f.row,f.col⟩:Pl)) (.t q4 (.t2 q5 (.t q5 (.c [] (fbel f.bit 576) (.t q5 (.t4 q6 (.c [] (chips_2) (.t q6 (.c [] (fbel f.chip 36) (.t q6 (.t4 q7 (.t q7 .nil)))))))))))))))))))))))
      ·rw [cneg q6] at d0
       subst d0
       exact so Tryz.f69 8 [] (.t q1 (.t4 q2 (.t2 q3 (.c [] (rright_2) (.t q3 (.y2 (.y (.c [] (bare f) (.y2 (.t4 q4 (.c [] (holds_sp g (⟨f.rank,f.bank,f.row,f.col⟩:Pl)) (.t q4 (.t2 q5 (.t q5 (.c [] (fbel f.bit 576) (.t q5 (.t4 q6 (.t2 q6 (.n4 (.n .nil))))))))))))))))))))
     ·rw [cneg q5] at d0
      subst d0
      exact so Tryz.f69 7 [] (.t q1 (.t4 q2 (.t2 q3 (.c [] (rright_2) (.t q3 (.y2 (.y (.c [] (bare f) (.y2 (.t4 q4 (.c [] (holds_sp g (⟨f.rank,f.bank,f.row,f.col⟩:Pl)) (.t q4 (.t4 q5 (.n8 (.n2 (.n .nil))))))))))))))))
    ·rw [cneg q4] at d0
     subst d0
     exact so Tryz.f69 6 [] (.t q1 (.t4 q2 (.t2 q3 (.c [] (rright_2) (.t q3 (.y2 (.y (.c [] (bare f) (.y2 (.t4 q4 (.t q4 (.n8 (.n4 (.n2 (.n .nil)))))))))))))))
   ·rw [cneg q3] at d0
    subst d0
    exact so Tryz.f69 4 [] (.t q1 (.t4 q2 (.t2 q3 (.t q3 (.n8 (.n8 (.n8 (.n .nil))))))))
  ·rw [cneg q2] at d0
   subst d0
   exact so Tryz.f69 4 [] (.t q1 (.t4 q2 (.n8 (.n8 (.n8 (.n4 .nil))))))
end Go.Proofs.YtfhiggfmkjmeiaaGreat
