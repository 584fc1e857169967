import Derived.Test.YtfhiggfmkjmeiaaGreatLCm
import Derived.Test.YtfhiggfmkjmeiaaGreatLSy
import Derived.Test.YtfhiggfmkjmeiaaGreatLSv
import Derived.Test.YtfhiggfmkjmeiaaGreatLHn
import Derived.Test.YtfhiggfmkjmeiaaGreatLBg
set_option linter.all false
namespace Go.Proofs.YtfhiggfmkjmeiaaGreat
open Go Go.RowKit
set_option maxRecDepth 100000
theorem A2s {m:Int} {r:Nat->Nat} {x:Nat}:¬ df m r r x:=by
 rintro (⟨_,_,h⟩ | ⟨_,_,h⟩) <;> exact h rfl
def LnC (c:Cfg):Int:=IntKind.i64.wrap ((A0 c.ly) * c.ly.g.cols)
theorem Anc {c:Cfg} (hc:A8 c=true):1<=LnC c/\LnC c<=plG c.ly.g/\LnC c<=8388608:=by
 have hl:=C0 (Ho hc).1
 have hg:=Gm.rt hl.1
 obtain ⟨p1,p2,p3⟩:=J7 hl.1
 have hp:=(Q5 (j:=⟨0,0,0,0⟩) (l:=c.ly) hl.1).2.2
 have m1:=Il (a:=c.ly.g.banks) (b:=c.ly.g.rows) (A:=16) (B:=1024) (by omega) (by omega)
 have m2:=Il (a:=c.ly.g.banks * c.ly.g.rows) (b:=c.ly.g.cols) (A:=16384) (B:=64) (by omega) (by omega)
 have m3:=Il (a:=c.ly.g.ranks + c.ly.g.spares) (b:=c.ly.g.banks * c.ly.g.rows * c.ly.g.cols) (A:=8) (B:=1048576) (by omega) (by omega)
 have e:plG c.ly.g=(c.ly.g.ranks + c.ly.g.spares) * (c.ly.g.banks * c.ly.g.rows * c.ly.g.cols):=by
  unfold plG
  rw [Ca (x:=c.ly.g.ranks + c.ly.g.spares) (by omega),hp,Ca (by omega)]
 have m4:A0 c.ly * c.ly.g.cols<=c.ly.g.ranks * c.ly.g.banks * c.ly.g.rows * c.ly.g.cols:=Int.mul_le_mul_of_nonneg_right (by omega) (by omega)
 have m5:c.ly.g.ranks * (c.ly.g.banks * c.ly.g.rows * c.ly.g.cols)<=(c.ly.g.ranks + c.ly.g.spares) * (c.ly.g.banks * c.ly.g.rows * c.ly.g.cols):=Int.mul_le_mul_of_nonneg_right (by omega) (by omega)
 have m6:c.ly.g.ranks * (c.ly.g.banks * c.ly.g.rows * c.ly.g.cols)=c.ly.g.ranks * c.ly.g.banks * c.ly.g.rows * c.ly.g.cols:=by rw [← Int.mul_assoc,← Int.mul_assoc]
 have m7:=Int.mul_pos (a:=A0 c.ly) (b:=c.ly.g.cols) (by omega) (by omega)
 unfold LnC
 rw [e]
 omega
def rcn (c:Cfg) (a b n:Int):Prop:=∀ t:Int,a<=t->t < b->t % LnC c ≠ n
structure SP (c:Cfg) (N:Nat) (m:MchS):Prop where
 rt:∀ k,k < m.inj.length->C3 c.mode (m.inj.getD k Aa).f c.ly.g=true/\0<=(m.inj.getD k Aa).scrubs/\(m.inj.getD k Aa).scrubs<=m.scrubs
 mo:∀ j k,j < k->k < m.inj.length->(m.inj.getD j Aa).scrubs<=(m.inj.getD k Aa).scrubs
 sc:0<=m.scrubs/\m.scrubs<=((N:Nat):Int)
 cu:m.c.cur=m.scrubs % LnC c
 la:∀ f ∈ m.c.d.d.la,∃ k,k < m.inj.length/\(m.inj.getD k Aa).f=f.flt/\2<=f.kind
 dif:∀ n,Lns c.ly n->∀ x,df c.mode (m.c.d.d.c (RT m.c.le.rep n)) (m.c.d.gh (RT m.c.le.rep n)) x->∃ k,k < m.inj.length/\(m.inj.getD k Aa).f.kind=1/\cov c.mode (m.inj.getD k Aa).f (c.ly.g.at (RT m.c.le.rep n)) x /\
  ((∃ f ∈ m.c.d.d.la,cov c.mode f.flt (c.ly.g.at (RT m.c.le.rep n)) x) ∨ rcn c (m.inj.getD k Aa).scrubs m.scrubs n)
structure SM (c:Cfg) (N:Nat) (m:MchS):Prop where
 d:CD c m.ideal m.c
 sp:SP c N m
 ac:∀ a ∈ m.c.d.l,CA a
 sv:∀ x ∈ m.srv,x.ans.e=0/\Jq x=true
theorem B16 {c:Cfg} (hc:A8 c=true):SM c 0 (Ac c):=by
 obtain ⟨a,z⟩:=Tk hc
 have hw:=A7d hc
 obtain ⟨l1,_,_⟩:=Anc hc
 refine ⟨⟨hw,A7c hc,a.co,fun n hn=>?_⟩,⟨fun k hk=>absurd hk (Nat.not_lt_zero k),fun j k _ hk=>absurd hk (Nat.not_lt_zero k),⟨Int.le_refl _,Int.le_refl _⟩,?_,fun f hf=>?_,fun n hn x hx=>?_⟩,fun x hx=>?_,fun x hx=>by cases hx⟩
 ·obtain ⟨_,_,hat⟩:=hw.cat hn
  obtain ⟨_,z2,z3⟩:=z _ hat
  exact ⟨fun _=>0,fun _=>(by decide:(0:Nat) < 256),z2,by show (Lh c).d.mks (RT (Lh c).le.rep n) ≠ 1; rw [z3]; decide,fun _ _=>rfl⟩
 ·show (Lh c).cur=0 % LnC c
  rw [a.cur,Int.zero_emod]
 ·have hf:f ∈ (Lh c).d.d.la:=hf
  rw [a.la] at hf; cases hf
 ·obtain ⟨_,_,hat⟩:=hw.cat hn
  obtain ⟨z1,z2,_⟩:=z _ hat
  have hx:df c.mode ((Lh c).d.d.c (RT (Lh c).le.rep n)) ((Lh c).d.gh (RT (Lh c).le.rep n)) x:=hx
  rw [z1,z2] at hx; exact absurd hx A2s
 ·obtain ⟨b1,b2,b3,b4⟩:=a.wr x hx
  refine ⟨b2,?_⟩
  unfold Se
  rw [b4,if_neg (by decide),b3]; decide
