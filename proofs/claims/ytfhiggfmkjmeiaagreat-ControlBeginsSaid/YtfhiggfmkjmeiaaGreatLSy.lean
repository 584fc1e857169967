import Derived.Test.YtfhiggfmkjmeiaaGreatLEl
import Derived.Test.YtfhiggfmkjmeiaaGreatFSpr
set_option linter.all false
namespace Go.Proofs.YtfhiggfmkjmeiaaGreat
open Go Go.RowKit
set_option maxRecDepth 100000
def df (m:Int) (r g:Nat->Nat) (x:Nat):Prop:=(m=1/\x < 576/\bt r x ≠ bt g x) ∨ (m=2/\x < 72/\r x ≠ g x)
theorem Abe {f:Nat->Nat}:∀ {n:Nat},(∀ p,p < n->bt f p=false)->Lj f n=0
 | 0,_=>rfl
 | n + 1,h=>by rw [Lj,h n (by omega)]; exact Abe fun p hp=>h p (by omega)
theorem Yp (r q:Nat->Nat) {k p:Nat} (hp:p < 72):bt (fun j=>xr ((A4 r (9 * k) 9).getD j 0) ((A4 q (9 * k) 9).getD j 0)) p=(bt r (72 * k + p) ^^ bt q (72 * k + p)):=by
 rw [Ajz]
 have key:∀ r:Nat->Nat,bt (fun j=>(A4 r (9 * k) 9).getD j 0) p=bt r (72 * k + p):=fun r=>by
  unfold bt
  show ((A4 r (9 * k) 9).getD (p / 8) 0).testBit (p % 8)=_
  rw [I3,if_pos (show p / 8 < 9 by omega),show (72 * k + p) / 8=9 * k + p / 8 by omega,show (72 * k + p) % 8=p % 8 by omega]
 rw [key r,key q]
def cov (m:Int) (f:Flt) (q:Pl) (x:Nat):Prop:=Ic f q=true/\(m=1->(f.kind=1 ∨ f.kind=2)/\f.bit=((x:Nat):Int))/\(m=2->((f.kind=1 ∨ f.kind=2)->f.bit / 8 % 36=((x % 36:Nat):Int))/\(3<=f.kind->f.chip=((x % 36:Nat):Int)))
