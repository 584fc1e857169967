import Derived.Test.YtfhiggfmkjmeiaaGreatLSv
set_option linter.all false
namespace Go.Proofs.YtfhiggfmkjmeiaaGreat
open Go Go.RowKit
theorem Avx {s:MchS} {x:Stp} (hr:Br x=false):Al s x=s/\D7 s x=60/\Gy s x=0/\Eb s x=fun _=>0:=by
 unfold Al D7 Gy Eb
 rw [hr]; exact ⟨rfl,rfl,rfl,rfl⟩
theorem Ay8 (s:MchS) (x:Stp):(Al s x).steps=(bif Br x then IntKind.i64.wrap (s.steps + 1) else s.steps)/\(Al s x).scrubs=(bif Br x then (bif decide (x.kind=4) then IntKind.i64.wrap (s.scrubs + 1) else s.scrubs) else s.scrubs):=by
 let p:=fun t:MchS=>t.steps=IntKind.i64.wrap (s.steps + 1)/\t.scrubs=s.scrubs
 have hi:p (Bn { s with steps:=IntKind.i64.wrap (s.steps + 1) } x.f):=by unfold Bn; exact Ad (p:=p) ⟨rfl,rfl⟩ ⟨rfl,rfl⟩
 have hr:p (Az { s with steps:=IntKind.i64.wrap (s.steps + 1) } x):=by
  unfold Az
  exact Ad (p:=p) (Ad (p:=p) ⟨rfl,rfl⟩ ⟨rfl,rfl⟩) (Ad (p:=p) (Ad (p:=p) ⟨rfl,rfl⟩ ⟨rfl,rfl⟩) (Ad (p:=p) ⟨rfl,rfl⟩ ⟨rfl,rfl⟩))
 unfold Al
 cases Br x with
 | false=>exact ⟨rfl,rfl⟩
 | true =>
   simp only [cond_true]
   cases decide (x.kind=4) with
   | true=>exact ⟨rfl,rfl⟩
   | false =>
     simp only [cond_false]
     exact Ad (p:=p) ⟨rfl,rfl⟩ (Ad (p:=p) ⟨rfl,rfl⟩ (Ad (p:=p) ⟨rfl,rfl⟩ (Ad (p:=p) hi hr)))
