import Derived.Test.YtfhiggfmkjmeiaaGreatLBg
import Derived.Test.YtfhiggfmkjmeiaaGreatLHn
set_option linter.all false
namespace Go.Proofs.YtfhiggfmkjmeiaaGreat
open Go Go.RowKit
def ovr (s:CtlS) (i:Int):Nat->Nat:=Gb s.d.d.mode s.d.d.la (s.d.d.g.at i) (s.d.d.c i)
def exP (s:CtlS) (i:Int):Nat:=Ai s.d.d.mode (ovr s i) (s.d.gh i)
def CA (a:Acc):Prop:=¬ Iu a/\Se a<=1
structure CD (c:Cfg) (id:Int->Nat->Nat) (s:CtlS):Prop where
 w:GW c s
 cu:Lns c.ly s.cur
 co:s.d.d.co=[]
 dat:∀ n,Lns c.ly n->∃ l:Nat->Nat,(∀ j,l j < 256)/\s.d.gh (RT s.le.rep n)=Bm c.mode l (RT s.le.rep n) false/\s.d.mks (RT s.le.rep n) ≠ 1/\∀ j,j < 64->l j=id n j
structure CL (c:Cfg) (s t:CtlS):Prop where
 la:t.d.d.la=s.d.d.la
 ce:∀ n,Lns c.ly n->t.d.d.c (RT t.le.rep n)=t.d.gh (RT t.le.rep n) ∨ (RT t.le.rep n=RT s.le.rep n/\t.d.d.c (RT s.le.rep n)=s.d.d.c (RT s.le.rep n)/\t.d.gh (RT s.le.rep n)=s.d.gh (RT s.le.rep n))
theorem CL.trans {c:Cfg} {s t u:CtlS} (h:CL c s t) (k:CL c t u):CL c s u:=⟨k.la.trans h.la,fun n hn=>by
 rcases k.ce n hn with a | ⟨a1,a2,a3⟩
 ·exact Or.inl a
 ·rcases h.ce n hn with b | ⟨b1,b2,b3⟩
  ·left; rw [a1,a2,a3]; exact b
  ·right
   rw [b1] at a1 a2 a3
   exact ⟨a1,a2.trans b2,a3.trans b3⟩⟩
theorem Rg {s:CtlS} (hco:s.d.d.co=[]) {i:Int} (h:s.d.d.g.atE i=0):Ab s.d i=ovr s i/\Bz s.d.d i=s.d.d/\rdA s.d i=⟨false,i,i,false,((exP s i:Nat):Int),decide (s.d.mks i=1)⟩:=by
 obtain ⟨w1,w2,w3⟩:=A73 hco i
 have e0:Cs s.d.d i=ovr s i:=by
  unfold Cs Mi ovr
  rw [h,w3,w1,w2,show decide ((0:Int)=0)=true from rfl,cond_true,cond_false,h]; rfl
 have e1:B4 s.d.d i=i/\D4 s.d.d i=false:=by unfold B4 D4; rw [h,w2,w3]; exact ⟨rfl,rfl⟩
 refine ⟨(A71 h).2.trans e0,by unfold Bz; rw [h,w1]; rfl,?_⟩
 unfold rdA exP
 rw [e1.1,e1.2,e0]; rfl
theorem Rq {s:DramS} (hco:s.co=[]) {i:Int} (h:s.g.atE i=0) (r:Nat->Nat):E9 s i r={ s with c:=upZ s.c i r }/\Fv s i r=i/\Fw s i r=false:=by
 obtain ⟨w1,w2,w3⟩:=A73 hco i
 unfold E9 Fv Fw
 rw [h,w3,w1,w2]; exact ⟨rfl,rfl,rfl⟩
theorem Ads {s:DevS} (hco:s.d.co=[]) {i:Int} (h:s.d.g.atE i=0) (r:Nat->Nat):CA (wrA s i r):=by
 obtain ⟨_,d2,d3⟩:=Rq hco h r
 refine ⟨?_,show (0:Int)<=1 by decide⟩
 unfold Iu wrA
 rw [d2,d3]
 rintro (x | x)
 ·cases x
 ·exact x rfl
theorem CD.take {c:Cfg} {id:Int->Nat->Nat} {s:CtlS} (h:CD c id s) {i:Int} (hi:c.ly.g.atB i=true) (a b:Int):CD c id (Aw s i a b)/\CL c s (Aw s i a b)/\(Aw s i a b).d.d=s.d.d/\(Aw s i a b).d.gh=s.d.gh:=by
 obtain ⟨g,hs,hd,hcu⟩:=h.w.take hi a b
 have hat:s.d.d.g.atE i=0:=by rw [h.w.g]; exact Ma hi
 obtain ⟨_,e2,_⟩:=Rg h.co hat
 rw [e2] at hd
 have hrt:=fun n hn=>h.w.rt g hs (n:=n) hn
 refine ⟨⟨g,by rw [hcu]; exact h.cu,by rw [hd]; exact h.co,fun n hn=>?_⟩,⟨by rw [hd],fun n hn=>Or.inr ⟨hrt n hn,by rw [hd],by rw [hd]⟩⟩,by rw [hd],by rw [hd]⟩
 rw [hrt n hn,hd]
 exact h.dat n hn
theorem CD.put {c:Cfg} {id id':Int->Nat->Nat} {s:CtlS} (h:CD c id s) {n:Int} (hn:Lns c.ly n) {l:Nat->Nat} (hl:∀ j,l j < 256) (hid:∀ j,j < 64->l j=id' n j) (ho:∀ m,m ≠ n->id' m=id m):CD c id' (As s (RT s.le.rep n) l false)/\CL c s (As s (RT s.le.rep n) l false) /\
   (∃ x,(As s (RT s.le.rep n) l false).d.l=s.d.l ++ [x]/\CA x)/\(As s (RT s.le.rep n) l false).d.d.c (RT s.le.rep n)=(As s (RT s.le.rep n) l false).d.gh (RT s.le.rep n)/\(As s (RT s.le.rep n) l false).le=s.le:=by
 obtain ⟨_,_,hat⟩:=h.w.cat hn
 have hat':s.d.d.g.atE (RT s.le.rep n)=0:=by rw [h.w.g]; exact Ma hat
 obtain ⟨g,hle,hd,hcu⟩:=h.w.put hat hl false
 obtain ⟨d1,d2,d3⟩:=Rq h.co hat' (Bm c.mode l (RT s.le.rep n) false)
 rw [d1] at hd
 refine ⟨⟨g,by rw [hcu]; exact h.cu,by rw [hd]; exact h.co,fun m hm=>?_⟩,⟨by rw [hd],fun m hm=>?_⟩,⟨_,by rw [hd],Ads h.co hat' _⟩,?_,hle⟩
 ·rw [hle,hd]
  show ∃ l':Nat->Nat,_/\upZ s.d.gh _ _ (RT s.le.rep m)=Bm c.mode l' (RT s.le.rep m) false/\upZ s.d.mks _ _ (RT s.le.rep m) ≠ 1/\_
  unfold upZ
  by_cases e:RT s.le.rep m=RT s.le.rep n
  ·have em:=h.w.inj hm hn e
   subst em
   rw [if_pos rfl,if_pos rfl]
   exact ⟨l,hl,rfl,by decide,hid⟩
  ·rw [if_neg e,if_neg e]
   obtain ⟨l',h1,h2,h3,h4⟩:=h.dat m hm
   have em:m ≠ n:=fun x=>e (by rw [x])
   exact ⟨l',h1,h2,h3,fun j hj=>by rw [ho m em]; exact h4 j hj⟩
 ·rw [hle,hd]
  show upZ s.d.d.c _ _ (RT s.le.rep m)=upZ s.d.gh _ _ (RT s.le.rep m) ∨ (_/\upZ s.d.d.c _ _ (RT s.le.rep m)=_/\upZ s.d.gh _ _ (RT s.le.rep m)=_)
  unfold upZ
  by_cases e:RT s.le.rep m=RT s.le.rep n
  ·left; rw [if_pos e,if_pos e]
  ·right; rw [if_neg e,if_neg e]; exact ⟨rfl,rfl,rfl⟩
 ·rw [hd]
  show upZ s.d.d.c _ _ (RT s.le.rep n)=upZ s.d.gh _ _ (RT s.le.rep n)
  unfold upZ; rw [if_pos rfl,if_pos rfl]
section
variable {c:Cfg} {id:Int->Nat->Nat} {s:CtlS} (hc:A8 c=true) (h:CD c id s) (dk:DevOk s.d)
include hc h dk
theorem CD.tells {n:Int} (hn:Lns c.ly n) (hx:exP s (RT s.le.rep n)<=1):vK c s (RT s.le.rep n)<=1/\(exP s (RT s.le.rep n)=0->vK c s (RT s.le.rep n)=0)/\(∀ j,j < 64->vD c s (RT s.le.rep n) j=id n j)/\CA (rdA s.d (RT s.le.rep n)):=by
 obtain ⟨_,_,hat⟩:=h.w.cat hn
 have hat':s.d.d.g.atE (RT s.le.rep n)=0:=by rw [h.w.g]; exact Ma hat
 obtain ⟨e1,_,e3⟩:=Rg h.co hat'
 obtain ⟨l,l1,l2,l3,l4⟩:=h.dat n hn
 have hr:=fun j=>Iv (s:=s.d) (i:=RT s.le.rep n) dk j
 have ee:exP s (RT s.le.rep n)=Ai c.mode (Ab s.d (RT s.le.rep n)) (Bm c.mode l (RT s.le.rep n) false):=by unfold exP; rw [e1,l2,h.w.md]
 have hd:=Ab8 l1 hr (RT s.le.rep n) (Ho hc).2.1 (by rw [← ee]; exact hx)
 refine ⟨hd.1,fun z=>hd.2.2 (by rw [← ee]; exact z),fun j hj=>(hd.2.1 j hj).trans (l4 j hj),?_⟩
 rw [e3,fq l3]
 refine ⟨fun x=>?_,?_⟩
 ·rcases x with x | x
  ·cases x
  ·exact x rfl
 ·show ((exP s (RT s.le.rep n):Nat):Int)<=1
  omega
theorem CD.read {n:Int} (hn:Lns c.ly n) (hx:exP s (RT s.le.rep n)<=1) (b:Bool):CD c id (An s n b)/\CL c s (An s n b)/\Bv s n b=0/\(∀ j,j < 64->Cl s n b j=id n j)/\(∃ z,(An s n b).d.l=s.d.l ++ z/\∀ x ∈ z,CA x) /\
   (vK c s (RT s.le.rep n)=1->b=true->(An s n b).d.d.c (RT (An s n b).le.rep n)=(An s n b).d.gh (RT (An s n b).le.rep n)):=by
 obtain ⟨_,_,hat⟩:=h.w.cat hn
 obtain ⟨k1,k2,k3,k4⟩:=h.tells hc dk hn hx
 obtain ⟨a1,a2,e1,e2,e3⟩:=A4p hc h.w hn b
 obtain ⟨ht,hct,htd,htg⟩:=h.take hat a1 a2
 obtain ⟨tg,ths,thd,_⟩:=h.w.take hat a1 a2
 have hrt:=h.w.rt tg ths hn
 obtain ⟨p1,p2,⟨x,p3,p4⟩,p5,p6⟩:=ht.put (id':=id) hn (Xo (c:=c) dk (RT s.le.rep n)) k3 (fun _ _=>rfl)
 rw [hrt] at p1 p2 p3 p5 p6
 rw [e2,e3]
 have h1 : CD c id (An s n b) /\ CL c s (An s n b) /\ (∃ z, (An s n b).d.l = s.d.l ++ z /\ ∀ x ∈ z, CA x) /\ (vK c s (RT s.le.rep n) = 1 -> b = true -> (An s n b).d.d.c (RT (An s n b).le.rep n) = (An s n b).d.gh (RT (An s n b).le.rep n)) := by
  rw [e1]
  have hz:∀ y ∈ [rdA s.d (RT s.le.rep n)],CA y:=fun y hy=>by rw [List.mem_singleton.1 hy]; exact k4
  have htl:(Aw s (RT s.le.rep n) a1 a2).d.l=s.d.l ++ [rdA s.d (RT s.le.rep n)]:=by rw [thd]
  cases q:decide (vK c s (RT s.le.rep n)=1) with
  | false=>exact ⟨ht,hct,⟨_,htl,hz⟩,fun y=>by rw [y] at q; exact absurd q (by decide)⟩
  | true =>
    cases b with
    | false=>exact ⟨ht,hct,⟨_,htl,hz⟩,fun _ y=>by cases y⟩
    | true =>
      refine ⟨p1,hct.trans p2,⟨_,by rw [cond_true,cond_true,p3,htl,List.append_assoc],fun y hy=>?_⟩,fun _ _=>?_⟩
      ·rcases List.mem_append.1 hy with hy | hy
       ·exact hz y hy
       ·rw [List.mem_singleton.1 hy]; exact p4
      ·rw [cond_true,cond_true,p6,hrt]; exact p5
 exact ⟨h1.1,h1.2.1,Ajg.2 k1,k3,h1.2.2.1,h1.2.2.2⟩
end
