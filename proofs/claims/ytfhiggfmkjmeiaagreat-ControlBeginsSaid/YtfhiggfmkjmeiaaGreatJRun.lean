import Derived.Test.YtfhiggfmkjmeiaaGreatFSpr
import Derived.Test.YtfhiggfmkjmeiaaGreatFRun
set_option linter.all false
namespace Go.Proofs.YtfhiggfmkjmeiaaGreat
open Go Go.RowKit
theorem H6 {α:Type} {p:α->Prop} {c:Bool} {a b:α} (ha:p a) (hb:p b):p (bif c then a else b):=by cases c <;> assumption
theorem Xw (s:DramS) (i:Int):(Eg s i).mode=s.mode/\(Eg s i).g=s.g:=by unfold Eg; exact H6 (p:=fun t:DramS=>t.mode=s.mode/\t.g=s.g) ⟨rfl,rfl⟩ ⟨rfl,rfl⟩
theorem O0 (s:DramS) (i:Int) (r:Nat->Nat):(E9 s i r).mode=s.mode/\(E9 s i r).g=s.g:=by
 unfold E9
 exact H6 (p:=fun t:DramS=>t.mode=s.mode/\t.g=s.g) (H6 (p:=fun t:DramS=>t.mode=s.mode/\t.g=s.g) (Xw s i) (Xw s i)) ⟨rfl,rfl⟩
theorem Li (s:DramS) (i:Int):(Bz s i).mode=s.mode/\(Bz s i).g=s.g:=by
 unfold Bz
 exact H6 (p:=fun t:DramS=>t.mode=s.mode/\t.g=s.g) (Xw s i) ⟨rfl,rfl⟩
