import Derived.Test.YtfhiggfmkjmeiaaGreatLNj
import Derived.Test.YtfhiggfmkjmeiaaGreatFL24
import Derived.Test.YtfhiggfmkjmeiaaGreatJRun
set_option linter.all false
namespace Go.Proofs.YtfhiggfmkjmeiaaGreat
open Go Go.RowKit
theorem Aed {s:DramS} {i:Int} (h:s.g.atE i=0):In s i=0:=by
 have hw:(Eg s i).g=s.g:=(Xw s i).2
 have hx:s.g.atE (E8 s i)=0:=by
  unfold E8
  refine Ad (p:=fun x:Int=>s.g.atE x=0) h (Ad (p:=fun x:Int=>s.g.atE x=0) h ?_)
  generalize (⟨(s.co.getD 0 Fs).rank,(s.co.getD 0 Fs).bank,(s.co.getD 0 Fs).row,(s.co.getD 0 Fs).col⟩:Pl)=q
  unfold Gm.ixE Gm.ix
  cases hh:s.g.holds q with
  | false=>exact h
  | true=>exact Ma (K5 hh)
 unfold In Q8
 rw [h,hw,hx]
 exact Ad (p:=fun x:Int=>x=0) (Ad (p:=fun x:Int=>x=0) rfl rfl) rfl
