import Derived.Test.YtfhiggfmkjmeiaaGreatFTop
import Derived.Test.YtfhiggfmkjmeiaaGreatLQu
set_option linter.all false
namespace Go.Proofs.YtfhiggfmkjmeiaaGreat
open Go Go.RowKit
set_option maxRecDepth 100000
theorem Ar4 (s:CtlS) :Sp P 49 [.pt 0 0] (ros (Ct s 0) ++ ros (Bg 24)) (.pt 9 0) (ros (Ct s 0) ++ ros (Bg 24)) :=
 so Tryz.f49 3 (ir 0 29) .nil
def qsR (l:List Bk):Nat->Int
 | 0=>0
 | i + 1=>IntKind.i64.wrap (qsR l i + (l.getD i Mk).level)
def qsP (a:Int) (l:List Pg):Nat->Int
 | 0=>a
 | i + 1=>IntKind.i64.wrap (qsP a l i + (l.getD i Ee).b.level)
theorem Avc {s:TrkS} (h:KQ s):∀ i,i<=s.ranks.length->qsR s.ranks i=0
 | 0,_=>rfl
 | i + 1,hi=>by rw [qsR,Avc h i (by omega),h.lv i (by omega)]; rfl
theorem B2b {s:TrkS} (h:KQ s):qsP (qsR s.ranks s.ranks.length) s.pages s.pages.length=0:=by
 rw [Avc h _ (Nat.le_refl _),h.pg]; rfl
def Kf (s:TrkS):Bool:=decide (qsP (qsR s.ranks s.ranks.length) s.pages s.pages.length=0)
theorem A5m (s:TrkS) (h1:s.ranks.length<=100000) (h2:s.pages.length<=100000):Sp P 50 [.pt 0 0] (ros (Th s 0)) (vt (Kf s)) (ros (Th s 0)) :=
 so Tryz.f50 8 (ir 0 4) (.lp s.ranks.length 6 [] [] (fun i=>[(13,vn i)]) (fun i=>[(5,.blk [vi (qsR s.ranks i)] 3)]) (fun i hi=>(.t (sQT ((i:Int) < (s.ranks.length:Int)) (by omega)) (.ix (i:=i) (m:=s.ranks.length) (by omega) (.el (e:=eBk) (gDx (l:=s.ranks) (i:=i) Mk (by omega)) (.e 21 (Ck (a:=(i:Int)) (b:=1) (c:=((i + 1:Nat):Int)) (by omega)) .nil))))) (.t (sQF ((s.ranks.length:Int) < (s.ranks.length:Int)) (by omega)) (.c [.id 2,.id 3] (B2d s.r.room s.pages) (.lp s.pages.length 9 [] [] (fun i=>[(10,vn i)]) (fun i=>[(5,.blk [vi (qsP (qsR s.ranks s.ranks.length) s.pages i)] 3),(7,.lo .ready none)]) (fun i hi=>(.t (sQT ((i:Int) < (s.pages.length:Int)) (by omega)) (.ix (i:=i) (m:=s.pages.length) (by omega) (.el (e:=ePg) (gDx (l:=s.pages) (i:=i) Ee (by omega)) (.n (.e 21 (Ck (a:=(i:Int)) (b:=1) (c:=((i + 1:Nat):Int)) (by omega)) .nil)))))) (.t (sQF ((s.pages.length:Int) < (s.pages.length:Int)) (by omega)) .nil)))))
