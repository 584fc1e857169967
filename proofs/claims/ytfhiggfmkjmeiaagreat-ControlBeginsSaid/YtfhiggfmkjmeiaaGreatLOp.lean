import Derived.Test.YtfhiggfmkjmeiaaGreatLSv
import Derived.Test.YtfhiggfmkjmeiaaGreatLEl
import Derived.Test.YtfhiggfmkjmeiaaGreatLRu
import Derived.Test.YtfhiggfmkjmeiaaGreatFJue
set_option linter.all false
namespace Go.Proofs.YtfhiggfmkjmeiaaGreat
open Go Go.RowKit
def rdA (s:DevS) (i:Int):Acc:=⟨false,i,B4 s.d i,D4 s.d i,((Ai s.d.mode (Cs s.d i) (s.gh (B4 s.d i)):Nat):Int),bif D4 s.d i then false else decide (s.mks (B4 s.d i)=1)⟩
def wrA (s:DevS) (i:Int) (r:Nat->Nat):Acc:=⟨true,i,Fv s.d i r,Fw s.d i r,0,false⟩
theorem A71 {s:DevS} {i:Int} (h:s.d.g.atE i=0):F8 s i=⟨Bz s.d i,s.gh,s.mks,s.l ++ [rdA s i]⟩/\Ab s i=Cs s.d i:=by
 unfold F8 Ab rdA
 rw [Aed h,(Li s.d i).1]
 cases D4 s.d i <;> exact ⟨rfl,rfl⟩
theorem Adr {s:DevS} {i m:Int} {r:Nat->Nat} (h:s.d.g.atE i=0):Df s i r m=⟨E9 s.d i r,upZ s.gh i r,upZ s.mks i m,s.l ++ [wrA s i r]⟩:=by
 have e:Eh s.d i r=0:=by unfold Eh; rw [h]; rfl
 unfold Df wrA
 rw [e]; rfl
def Iu (a:Acc):Prop:=a.drop=true ∨ a.went ≠ a.index
def Se (a:Acc):Int:=if a.mark=true then a.exp + 1 else a.exp
theorem Auj {m:Int} (hm:m=1 ∨ m=2) (r:Nat->Nat) (n:Int):Bt m r n<=3:=by
 rcases hm with rfl | rfl
 ·rw [(md1 r r n false).2.2.1]
  refine jkB.2 fun i _=>?_
  unfold C7
  split
  ·omega
  ·split
   ·omega
   ·split <;> omega
 ·rw [(md2 r r n false).2.2.1]
  refine jkC.2 fun i _=>?_
  unfold chK
  split
  ·omega
  ·split
   ·omega
   ·split <;> omega
theorem Apy {k:Nat} (f:Int) (h:k<=3):Iy ((k:Nat):Int) f=if k<=1 then 0 else if k=2 then 41 else 40:=by
 unfold Iy
 rcases (by omega:k=0 ∨ k=1 ∨ k=2 ∨ k=3) with rfl | rfl | rfl | rfl <;> rfl
structure GW (c:Cfg) (s:CtlS):Prop where
 ri:RI s.le.rep
 cf:s.le.c=c
 ly:s.le.rep.m.l=c.ly
 g:s.d.d.g=c.ly.g
 md:s.d.d.mode=c.mode
 gh:∀ i,c.ly.g.atB i=true->∃ l:Nat->Nat,(∀ j,l j < 256)/\s.d.gh i=Bm c.mode l i (decide (s.d.mks i=1))
theorem GW.cat {c:Cfg} {s:CtlS} (h:GW c s) {n:Int} (hn:Lns c.ly n):F0 s n=0/\Ae s n=RT s.le.rep n/\c.ly.g.atB (RT s.le.rep n)=true:=by
 have w:=h.ri.w
 have hn':Lns s.le.rep.m.l n:=by rw [h.ly]; exact hn
 have e:Ei s.le.rep.j s.le.rep.m n=0:=A00 w.ok.m w.mi.mp.lv w.ok.g hn'
 obtain ⟨a,b⟩:=Te w hn'
 refine ⟨by unfold F0; rw [e]; rfl,by unfold Ae; rw [e]; rfl,?_⟩
 rw [a]
 rw [h.ly] at b
 exact K5 b
theorem Aii (s:LedS) (x:Nt):(C8 s x).c=s.c:=O8 s x
theorem GW.take {c:Cfg} {s:CtlS} (h:GW c s) {i:Int} (hi:c.ly.g.atB i=true) (a b:Int):GW c (Aw s i a b)/\StH s.le.rep (Aw s i a b).le.rep/\(Aw s i a b).d=⟨Bz s.d.d i,s.d.gh,s.d.mks,s.d.l ++ [rdA s.d i]⟩/\(Aw s i a b).cur=s.cur:=by
 have hat:s.d.d.g.atE i=0:=by rw [h.g]; exact Ma hi
 obtain ⟨e,_⟩:=A71 hat
 have hd:(Aw s i a b).d=⟨Bz s.d.d i,s.d.gh,s.d.mks,s.d.l ++ [rdA s.d i]⟩:=e
 obtain ⟨q1,q2⟩:=Aux h.ri (x:=⟨1,((Bt s.le.c.mode (Ab s.d i) i:Nat):Int),((G9 s.le.c.mode (Ab s.d i) i:Nat):Int),i,a,b⟩) (show (1:Int) ≠ 3 by decide)
 refine ⟨⟨q1,(Aii _ _).trans h.cf,q2.l.trans h.ly,?_,?_,?_⟩,q2,hd,rfl⟩
 ·rw [hd]; exact (Li s.d.d i).2.trans h.g
 ·rw [hd]; exact (Li s.d.d i).1.trans h.md
 ·rw [hd]; exact h.gh
theorem GW.put {c:Cfg} {s:CtlS} (h:GW c s) {i:Int} (hi:c.ly.g.atB i=true) {l:Nat->Nat} (hl:∀ j,l j < 256) (b:Bool):GW c (As s i l b)/\(As s i l b).le=s.le/\(As s i l b).d=⟨E9 s.d.d i (Bm c.mode l i b),upZ s.d.gh i (Bm c.mode l i b),upZ s.d.mks i (if b=true then 1 else 0),s.d.l ++ [wrA s.d i (Bm c.mode l i b)]⟩/\(As s i l b).cur=s.cur:=by
 have hat:s.d.d.g.atE i=0:=by rw [h.g]; exact Ma hi
 have hd:(As s i l b).d=⟨E9 s.d.d i (Bm c.mode l i b),upZ s.d.gh i (Bm c.mode l i b),upZ s.d.mks i (if b=true then 1 else 0),s.d.l ++ [wrA s.d i (Bm c.mode l i b)]⟩:=by
  unfold As
  rw [h.cf]
  cases b with
  | true=>exact Adr hat
  | false=>exact Adr hat
 have hle:(As s i l b).le=s.le:=by unfold As; cases b <;> rfl
 have hcu:(As s i l b).cur=s.cur:=by unfold As; cases b <;> rfl
 refine ⟨⟨by rw [hle]; exact h.ri,by rw [hle]; exact h.cf,by rw [hle]; exact h.ly,?_,?_,fun k hk=>?_⟩,hle,hd,hcu⟩
 ·rw [hd]; exact (O0 s.d.d i _).2.trans h.g
 ·rw [hd]; exact (O0 s.d.d i _).1.trans h.md
 ·rw [hd]
  show ∃ l':Nat->Nat,_/\upZ s.d.gh i (Bm c.mode l i b) k=Bm c.mode l' k (decide (upZ s.d.mks i (if b=true then 1 else 0) k=1))
  unfold upZ
  by_cases e:k=i
  ·subst e
   rw [if_pos rfl,if_pos rfl]
   refine ⟨l,hl,?_⟩
   cases b <;> rfl
  ·rw [if_neg e,if_neg e]; exact h.gh k hk
def tE (k:Nat):Nat:=if k<=1 then 0 else if k=2 then 41 else 40
theorem Ajg {k:Nat}:tE k=0 ↔ k<=1:=by
 unfold tE
 by_cases h:k<=1
 ·rw [if_pos h]; exact ⟨fun _=>h,fun _=>rfl⟩
 ·rw [if_neg h]
  refine ⟨fun e=>?_,fun e=>absurd e h⟩
  split at e <;> cases e
def vK (c:Cfg) (s:CtlS) (i:Int):Nat:=Bt c.mode (Ab s.d i) i
def vD (c:Cfg) (s:CtlS) (i:Int):Nat->Nat:=Ek c.mode (Ab s.d i) i
section ops
variable {c:Cfg} {s:CtlS} (hc:A8 c=true) (h:GW c s)
include hc h
theorem A4p {n:Int} (hn:Lns c.ly n) (b:Bool):∃ a1 a2:Int,
    (An s n b=bif decide (vK c s (RT s.le.rep n)=1) then (bif b then As (Aw s (RT s.le.rep n) a1 a2) (RT s.le.rep n) (vD c s (RT s.le.rep n)) false else Aw s (RT s.le.rep n) a1 a2) else Aw s (RT s.le.rep n) a1 a2) /\
    Cl s n b=vD c s (RT s.le.rep n)/\Bv s n b=tE (vK c s (RT s.le.rep n)):=by
 obtain ⟨e0,e1,_⟩:=h.cat hn
 refine ⟨Ey s n,Ez s n,?_⟩
 unfold An Cl Bv vK vD
 rw [e0,e1,h.cf,Apy _ (Auj (Ho hc).2.1 _ _)]
 have e2:decide ((((Bt c.mode (Ab s.d (RT s.le.rep n)) (RT s.le.rep n):Nat)):Int)=1)=decide (Bt c.mode (Ab s.d (RT s.le.rep n)) (RT s.le.rep n)=1):=by
  by_cases q:Bt c.mode (Ab s.d (RT s.le.rep n)) (RT s.le.rep n)=1
  ·rw [q]; rfl
  ·rw [fq q,fq (by omega)]
 rw [e2]
 exact ⟨rfl,rfl,rfl⟩
end ops
theorem GW.rt {c:Cfg} {s t:CtlS} (h:GW c s) (k:GW c t) (e:StH s.le.rep t.le.rep) {n:Int} (hn:Lns c.ly n):RT t.le.rep n=RT s.le.rep n:=Au7 h.ri.w k.ri.w e (by rw [h.ly]; exact hn)
theorem GW.inj {c:Cfg} {s:CtlS} (h:GW c s) {n m:Int} (hn:Lns c.ly n) (hm:Lns c.ly m) (e:RT s.le.rep n=RT s.le.rep m):n=m:=Avt h.ri.w (by rw [h.ly]; exact hn) (by rw [h.ly]; exact hm) e
