import Derived.Test.YtfhiggfmkjmeiaaGreatLBg
import Derived.Test.YtfhiggfmkjmeiaaGreatLWh
set_option linter.all false
namespace Go.Proofs.YtfhiggfmkjmeiaaGreat
open Go Go.RowKit
def ovr (s:CtlS) (i:Int):Nat->Nat:=Gb s.d.d.mode s.d.d.la (s.d.d.g.at i) (s.d.d.c i)
def exP (s:CtlS) (i:Int):Nat:=Ai s.d.d.mode (ovr s i) (s.d.gh i)
def CA (a:Acc):Prop:=¬ Iu a/\Se a<=1
structure CD (c:Cfg) (id:Int->Nat->Nat) (s:CtlS):Prop where
 w:GW c s
 cu:Lns c.ly s.cur
 co:s.d.d.co=[]
 dat:∀ n,Lns c.ly n->∃ l:Nat->Nat,(∀ j,l j < 256)/\s.d.gh (RT s.le.rep n)=Bm c.mode l (RT s.le.rep n) false/\s.d.mks (RT s.le.rep n) ≠ 1/\∀ j,j < 64->l j=id n j
structure CL (c:Cfg) (s t:CtlS):Prop where
 la:t.d.d.la=s.d.d.la
 ce:∀ n,Lns c.ly n->t.d.d.c (RT t.le.rep n)=t.d.gh (RT t.le.rep n) ∨ (RT t.le.rep n=RT s.le.rep n/\t.d.d.c (RT s.le.rep n)=s.d.d.c (RT s.le.rep n)/\t.d.gh (RT s.le.rep n)=s.d.gh (RT s.le.rep n))
theorem CL.refl (c:Cfg) (s:CtlS):CL c s s:=⟨rfl,fun n _=>Or.inr ⟨rfl,rfl,rfl⟩⟩
theorem CL.trans {c:Cfg} {s t u:CtlS} (h:CL c s t) (k:CL c t u):CL c s u:=⟨k.la.trans h.la,fun n hn=>by
 rcases k.ce n hn with a | ⟨a1,a2,a3⟩
 ·exact Or.inl a
 ·rcases h.ce n hn with b | ⟨b1,b2,b3⟩
  ·left; rw [a1,a2,a3]; exact b
  ·right
   rw [b1] at a1 a2 a3
   exact ⟨a1,a2.trans b2,a3.trans b3⟩⟩
theorem Rg {s:CtlS} (hco:s.d.d.co=[]) {i:Int} (h:s.d.d.g.atE i=0):Ab s.d i=ovr s i/\Bz s.d.d i=s.d.d/\rdA s.d i=⟨false,i,i,false,((exP s i:Nat):Int),decide (s.d.mks i=1)⟩:=by
 obtain ⟨w1,w2,w3⟩:=A73 hco i
 have e0:Cs s.d.d i=ovr s i:=by
  unfold Cs Mi ovr
  rw [h,w3,w1,w2,show decide ((0:Int)=0)=true from rfl,cond_true,cond_false,h]; rfl
 have e1:B4 s.d.d i=i/\D4 s.d.d i=false:=by unfold B4 D4; rw [h,w2,w3]; exact ⟨rfl,rfl⟩
 refine ⟨(A71 h).2.trans e0,by unfold Bz; rw [h,w1]; rfl,?_⟩
 unfold rdA exP
 rw [e1.1,e1.2,e0]; rfl
theorem Rq {s:DramS} (hco:s.co=[]) {i:Int} (h:s.g.atE i=0) (r:Nat->Nat):E9 s i r={ s with c:=upZ s.c i r }/\Fv s i r=i/\Fw s i r=false:=by
 obtain ⟨w1,w2,w3⟩:=A73 hco i
 unfold E9 Fv Fw
 rw [h,w3,w1,w2]; exact ⟨rfl,rfl,rfl⟩
theorem Ads {s:DevS} (hco:s.d.co=[]) {i:Int} (h:s.d.g.atE i=0) (r:Nat->Nat):CA (wrA s i r):=by
 obtain ⟨_,d2,d3⟩:=Rq hco h r
 refine ⟨?_,show (0:Int)<=1 by decide⟩
 unfold Iu wrA
 rw [d2,d3]
 rintro (x | x)
 ·cases x
 ·exact x rfl
theorem CD.take {c:Cfg} {id:Int->Nat->Nat} {s:CtlS} (h:CD c id s) {i:Int} (hi:c.ly.g.atB i=true) (a b:Int):CD c id (Aw s i a b)/\CL c s (Aw s i a b)/\(Aw s i a b).d.d=s.d.d/\(Aw s i a b).d.gh=s.d.gh:=by
 obtain ⟨g,hs,hd,hcu⟩:=h.w.take hi a b
 have hat:s.d.d.g.atE i=0:=by rw [h.w.g]; exact Ma hi
 obtain ⟨_,e2,_⟩:=Rg h.co hat
 rw [e2] at hd
 have hrt:=fun n hn=>h.w.rt g hs (n:=n) hn
 refine ⟨⟨g,by rw [hcu]; exact h.cu,by rw [hd]; exact h.co,fun n hn=>?_⟩,⟨by rw [hd],fun n hn=>Or.inr ⟨hrt n hn,by rw [hd],by rw [hd]⟩⟩,by rw [hd],by rw [hd]⟩
 rw [hrt n hn,hd]
 exact h.dat n hn
theorem CD.put {c:Cfg} {id id':Int->Nat->Nat} {s:CtlS} (h:CD c id s) {n:Int} (hn:Lns c.ly n) {l:Nat->Nat} (hl:∀ j,l j < 256) (hid:∀ j,j < 64->l j=id' n j) (ho:∀ m,m ≠ n->id' m=id m):CD c id' (As s (RT s.le.rep n) l false)/\CL c s (As s (RT s.le.rep n) l false) /\
   (∃ x,(As s (RT s.le.rep n) l false).d.l=s.d.l ++ [x]/\CA x)/\(As s (RT s.le.rep n) l false).d.d.c (RT s.le.rep n)=(As s (RT s.le.rep n) l false).d.gh (RT s.le.rep n)/\(As s (RT s.le.rep n) l false).le=s.le:=by
 obtain ⟨_,_,hat⟩:=h.w.cat hn
 have hat':s.d.d.g.atE (RT s.le.rep n)=0:=by rw [h.w.g]; exact Ma hat
 obtain ⟨g,hle,hd,hcu⟩:=h.w.put hat hl false
 obtain ⟨d1,d2,d3⟩:=Rq h.co hat' (Bm c.mode l (RT s.le.rep n) false)
 rw [d1] at hd
 refine ⟨⟨g,by rw [hcu]; exact h.cu,by rw [hd]; exact h.co,fun m hm=>?_⟩,⟨by rw [hd],fun m hm=>?_⟩,⟨_,by rw [hd],Ads h.co hat' _⟩,?_,hle⟩
 ·rw [hle,hd]
  show ∃ l':Nat->Nat,_/\upZ s.d.gh _ _ (RT s.le.rep m)=Bm c.mode l' (RT s.le.rep m) false/\upZ s.d.mks _ _ (RT s.le.rep m) ≠ 1/\_
  unfold upZ
  by_cases e:RT s.le.rep m=RT s.le.rep n
  ·have em:=h.w.inj hm hn e
   subst em
   rw [if_pos rfl,if_pos rfl]
   exact ⟨l,hl,rfl,by decide,hid⟩
  ·rw [if_neg e,if_neg e]
   obtain ⟨l',h1,h2,h3,h4⟩:=h.dat m hm
   have em:m ≠ n:=fun x=>e (by rw [x])
   exact ⟨l',h1,h2,h3,fun j hj=>by rw [ho m em]; exact h4 j hj⟩
 ·rw [hle,hd]
  show upZ s.d.d.c _ _ (RT s.le.rep m)=upZ s.d.gh _ _ (RT s.le.rep m) ∨ (_/\upZ s.d.d.c _ _ (RT s.le.rep m)=_/\upZ s.d.gh _ _ (RT s.le.rep m)=_)
  unfold upZ
  by_cases e:RT s.le.rep m=RT s.le.rep n
  ·left; rw [if_pos e,if_pos e]
  ·right; rw [if_neg e,if_neg e]; exact ⟨rfl,rfl,rfl⟩
 ·rw [hd]
  show upZ s.d.d.c _ _ (RT s.le.rep n)=upZ s.d.gh _ _ (RT s.le.rep n)
  unfold upZ; rw [if_pos rfl,if_pos rfl]
theorem CD.same {c:Cfg} {id:Int->Nat->Nat} {s t:CtlS} (h:CD c id s) (g:GW c t) (hs:StH s.le.rep t.le.rep) (h1:t.d=s.d) (h3:t.cur=s.cur):CD c id t/\CL c s t :=
 ⟨⟨g,by rw [h3]; exact h.cu,by rw [h1]; exact h.co,fun n hn=>by rw [h.w.rt g hs hn,h1]; exact h.dat n hn⟩,⟨by rw [h1],fun n hn=>Or.inr ⟨h.w.rt g hs hn,by rw [h1],by rw [h1]⟩⟩⟩
section
variable {c:Cfg} {id:Int->Nat->Nat} {s:CtlS} (hc:A8 c=true) (h:CD c id s) (dk:DevOk s.d)
include hc h dk
theorem CD.tells {n:Int} (hn:Lns c.ly n) (hx:exP s (RT s.le.rep n)<=1):vK c s (RT s.le.rep n)<=1/\(exP s (RT s.le.rep n)=0->vK c s (RT s.le.rep n)=0)/\(∀ j,j < 64->vD c s (RT s.le.rep n) j=id n j)/\CA (rdA s.d (RT s.le.rep n)):=by
 obtain ⟨_,_,hat⟩:=h.w.cat hn
 have hat':s.d.d.g.atE (RT s.le.rep n)=0:=by rw [h.w.g]; exact Ma hat
 obtain ⟨e1,_,e3⟩:=Rg h.co hat'
 obtain ⟨l,l1,l2,l3,l4⟩:=h.dat n hn
 have hr:=fun j=>Iv (s:=s.d) (i:=RT s.le.rep n) dk j
 have ee:exP s (RT s.le.rep n)=Ai c.mode (Ab s.d (RT s.le.rep n)) (Bm c.mode l (RT s.le.rep n) false):=by unfold exP; rw [e1,l2,h.w.md]
 have hd:=Ab8 l1 hr (RT s.le.rep n) (Ho hc).2.1 (by rw [← ee]; exact hx)
 refine ⟨hd.1,fun z=>hd.2.2 (by rw [← ee]; exact z),fun j hj=>(hd.2.1 j hj).trans (l4 j hj),?_⟩
 rw [e3,fq l3]
 refine ⟨fun x=>?_,?_⟩
 ·rcases x with x | x
  ·cases x
  ·exact x rfl
 ·show ((exP s (RT s.le.rep n):Nat):Int)<=1
  omega
theorem CD.read {n:Int} (hn:Lns c.ly n) (hx:exP s (RT s.le.rep n)<=1) (b:Bool):CD c id (An s n b)/\CL c s (An s n b)/\Bv s n b=0/\(∀ j,j < 64->Cl s n b j=id n j)/\(∃ z,(An s n b).d.l=s.d.l ++ z/\∀ x ∈ z,CA x) /\
   (vK c s (RT s.le.rep n)=1->b=true->(An s n b).d.d.c (RT (An s n b).le.rep n)=(An s n b).d.gh (RT (An s n b).le.rep n)):=by
 obtain ⟨_,_,hat⟩:=h.w.cat hn
 obtain ⟨k1,k2,k3,k4⟩:=h.tells hc dk hn hx
 obtain ⟨a1,a2,e1,e2,e3⟩:=A4p hc h.w hn b
 obtain ⟨ht,hct,htd,htg⟩:=h.take hat a1 a2
 obtain ⟨tg,ths,thd,_⟩:=h.w.take hat a1 a2
 have hrt:=h.w.rt tg ths hn
 obtain ⟨p1,p2,⟨x,p3,p4⟩,p5,p6⟩:=ht.put (id':=id) hn (Xo (c:=c) dk (RT s.le.rep n)) k3 (fun _ _=>rfl)
 rw [hrt] at p1 p2 p3 p5 p6
 rw [e2,e3]
 have h1 : CD c id (An s n b) /\ CL c s (An s n b) /\ (∃ z, (An s n b).d.l = s.d.l ++ z /\ ∀ x ∈ z, CA x) /\ (vK c s (RT s.le.rep n) = 1 -> b = true -> (An s n b).d.d.c (RT (An s n b).le.rep n) = (An s n b).d.gh (RT (An s n b).le.rep n)) := by
  rw [e1]
  have hz:∀ y ∈ [rdA s.d (RT s.le.rep n)],CA y:=fun y hy=>by rw [List.mem_singleton.1 hy]; exact k4
  have htl:(Aw s (RT s.le.rep n) a1 a2).d.l=s.d.l ++ [rdA s.d (RT s.le.rep n)]:=by rw [thd]
  cases q:decide (vK c s (RT s.le.rep n)=1) with
  | false=>exact ⟨ht,hct,⟨_,htl,hz⟩,fun y=>by rw [y] at q; exact absurd q (by decide)⟩
  | true =>
    cases b with
    | false=>exact ⟨ht,hct,⟨_,htl,hz⟩,fun _ y=>by cases y⟩
    | true =>
      refine ⟨p1,hct.trans p2,⟨_,by rw [cond_true,cond_true,p3,htl,List.append_assoc],fun y hy=>?_⟩,fun _ _=>?_⟩
      ·rcases List.mem_append.1 hy with hy | hy
       ·exact hz y hy
       ·rw [List.mem_singleton.1 hy]; exact p4
      ·rw [cond_true,cond_true,p6,hrt]; exact p5
 exact ⟨h1.1,h1.2.1,Ajg.2 k1,k3,h1.2.2.1,h1.2.2.2⟩
theorem CD.masked {n:Int} (hn:Lns c.ly n) (hx:exP s (RT s.le.rep n)<=1) {l:List Nat} (bl:B8 l) {m:Nat} (hm:m ≠ 0) (hm2:m < 18446744073709551616) {x:Nat->Nat} (hxx:∀ j,j < 64->mgF (id n) (Uc l) m j=x j):CD c (upZ id n x) (Ah s n l m)/\CL c s (Ah s n l m)/\Ar s n l m=0/\(∃ z,(Ah s n l m).d.l=s.d.l ++ z/\∀ x ∈ z,CA x):=by
 obtain ⟨_,_,hat⟩:=h.w.cat hn
 obtain ⟨k1,k2,k3,k4⟩:=h.tells hc dk hn hx
 obtain ⟨a1,a2,e1,e2⟩:=Vl hc h.w hn l hm
 have ho:∀ k,k ≠ n->upZ id n x k=id k:=fun k hk=>by unfold upZ; rw [if_neg hk]
 have hi:upZ id n x n=x:=by unfold upZ; rw [if_pos rfl]
 rw [e1,e2]
 by_cases q:wt m=64
 ·rw [if_pos q,if_pos q]
  obtain ⟨p1,p2,⟨y,p3,p4⟩,_,_⟩:=h.put (id':=upZ id n x) hn (Lp bl) (fun j hj=>by rw [hi,← hxx j hj]; exact (Asz hm2 q hj).symm) ho
  exact ⟨p1,p2,rfl,_,p3,fun z hz=>by rw [List.mem_singleton.1 hz]; exact p4⟩
 ·rw [if_neg q,if_neg q,if_pos k1,Ajg.2 k1]
  obtain ⟨ht,hct,htd,htg⟩:=h.take hat a1 a2
  obtain ⟨tg,ths,thd,_⟩:=h.w.take hat a1 a2
  have hrt:=h.w.rt tg ths hn
  obtain ⟨p1,p2,⟨y,p3,p4⟩,_,_⟩:=ht.put (id':=upZ id n x) hn (A0g (Xo (c:=c) dk (RT s.le.rep n)) (Lp bl) m) (fun j hj=>by rw [hi,← hxx j hj]; exact Ayb (k3 j hj)) ho
  rw [hrt] at p1 p2 p3
  refine ⟨p1,hct.trans p2,rfl,_,by rw [p3,thd,List.append_assoc],fun z hz=>?_⟩
  rcases List.mem_append.1 hz with hz | hz
  ·rw [List.mem_singleton.1 hz]; exact k4
  ·rw [List.mem_singleton.1 hz]; exact p4
def Azn (c:Cfg) (k:Int):Int:=(IntKind.i64.wrap (k + 1)).tmod (IntKind.i64.wrap ((A0 c.ly) * c.ly.g.cols))
omit hc h dk in
theorem A7p (s:CtlS) (n:Int) (b:Bool):(An s n b).cur=s.cur:=by
 let p:=fun t:CtlS=>t.cur=s.cur
 have ht:p (Aw s (Ae s n) (Ey s n) (Ez s n)):=rfl
 have hp:∀ (t:CtlS) i l,p t->p (As t i l false):=fun t i l h=>h
 unfold An
 exact Ad (p:=p) (Ad (p:=p) (Ad (p:=p) (hp _ _ _ ht) ht) ht) rfl
theorem CD.scrub (hx:exP s (RT s.le.rep s.cur)<=1):CD c id (D8 s)/\CL c s (D8 s)/\Vm s=0/\(D8 s).cur=Azn c s.cur/\(∃ z,(D8 s).d.l=s.d.l ++ z/\∀ x ∈ z,CA x) /\
    (vK c s (RT s.le.rep s.cur)=1->(D8 s).d.d.c (RT (D8 s).le.rep s.cur)=(D8 s).d.gh (RT (D8 s).le.rep s.cur)):=by
 have hcf:=h.w.cf
 have h2:CD c id { s with cur:=(IntKind.i64.wrap (s.cur + 1)).tmod (IntKind.i64.wrap ((A0 s.le.c.ly) * s.le.c.ly.g.cols)) } :=
  ⟨⟨h.w.ri,h.w.cf,h.w.ly,h.w.g,h.w.md,h.w.gh⟩,by rw [hcf]; exact Z8 hc h.cu,h.co,h.dat⟩
 obtain ⟨a,b,d,_,f,g⟩:=h2.read hc dk h.cu hx true
 refine ⟨a,⟨b.la,b.ce⟩,d,?_,f,fun y=>g y rfl⟩
 unfold D8
 rw [A7p,hcf]; rfl
theorem CD.copy (hx:∀ n,Lns c.ly n->exP s (RT s.le.rep n)<=1):CD c id (Db s)/\CL c s (Db s)/\(Db s).cur=s.cur/\(∃ z,(Db s).d.l=s.d.l ++ z/\∀ x ∈ z,CA x):=by
 by_cases hk:s.le.rep.j.kind=0
 ·rw [(A4h hc h.w hk).1]; exact ⟨h,.refl _ _,rfl,[],(List.append_nil _).symm,fun x hx=>by cases hx⟩
 ·obtain ⟨a1,a2,e1,_⟩:=Ae1 hc h.w hk
  obtain ⟨f1,f2⟩:=h.w.next hk
  have f2':s.d.d.g.atE (Ax s.le.rep)=0:=by rw [h.w.g]; exact Ma f2
  rw [e1]
  unfold cpS
  cases hu:Gp s.le.rep.m (R9 s.le.rep) with
  | false =>
    rw [cond_false]
    obtain ⟨pg,ple,phd,pcu⟩:=h.w.put f2 (l:=fun _=>0) (fun _=>(by decide:(0:Nat) < 256)) false
    obtain ⟨d1,d2,d3⟩:=Rq h.co f2' (Bm c.mode (fun _=>0) (Ax s.le.rep) false)
    rw [d1] at phd
    obtain ⟨mg,md,mcu,mrt⟩:=pg.move (by rw [ple]; exact hk)
    have hr:∀ n,Lns c.ly n->RT (Dm (As s (Ax s.le.rep) (fun _=>0) false) ⟨3,0,0,0,0,0⟩).le.rep n=RT s.le.rep n/\RT s.le.rep n ≠ Ax s.le.rep:=fun n hn=>by
     obtain ⟨r1,r2⟩:=mrt n hn
     rw [ple] at r1 r2
     rw [if_neg (Agu h.w.ri hk hu (by rw [h.w.ly]; exact hn))] at r1
     exact ⟨r1,r2⟩
    refine ⟨⟨mg,by rw [mcu,pcu]; exact h.cu,by rw [md,phd]; exact h.co,fun n hn=>?_⟩,⟨by rw [md,phd],fun n hn=>?_⟩,by rw [mcu,pcu],_,by rw [md,phd],fun x hx=>?_⟩
    ·obtain ⟨r1,r2⟩:=hr n hn
     rw [r1,md,phd]
     show ∃ l':Nat->Nat,_/\upZ s.d.gh _ _ _=_/\upZ s.d.mks _ _ _ ≠ 1/\_
     unfold upZ
     rw [if_neg r2,if_neg r2]
     exact h.dat n hn
    ·obtain ⟨r1,r2⟩:=hr n hn
     right
     rw [r1,md,phd]
     show _/\upZ s.d.d.c _ _ _=_/\upZ s.d.gh _ _ _=_
     unfold upZ
     rw [if_neg r2,if_neg r2]; exact ⟨rfl,rfl,rfl⟩
    ·rw [List.mem_singleton.1 hx]; exact Ads h.co f2' _
  | true =>
    rw [cond_true]
    obtain ⟨n0,hn0,en0⟩:=Aq7 h.w.ri hk hu
    have hn0:Lns c.ly n0:=by rw [← h.w.ly]; exact hn0
    obtain ⟨k1,k2,k3,k4⟩:=h.tells hc dk hn0 (hx n0 hn0)
    rw [en0] at k1 k3 k4
    obtain ⟨ht,hct,htd,htg⟩:=h.take f1 a1 a2
    obtain ⟨tg,ths,thd,tcu⟩:=h.w.take f1 a1 a2
    obtain ⟨tj,tm⟩:=A3t hk (A5 s.le.rep) a1 a2
    obtain ⟨m0,m1,nrt⟩:=A3d tj tm
    have hkf:decide (2<=vK c s (A5 s.le.rep))=false:=fq (by omega)
    rw [hkf]
    have f3:(Aw s (A5 s.le.rep) a1 a2).d.d.g.atE (Ax s.le.rep)=0:=by rw [htd]; exact f2'
    obtain ⟨pg,ple,phd,pcu⟩:=tg.put f2 (Xo (c:=c) dk (A5 s.le.rep)) false
    obtain ⟨d1,d2,d3⟩:=Rq ht.co f3 (Bm c.mode (vD c s (A5 s.le.rep)) (Ax s.le.rep) false)
    rw [d1] at phd
    obtain ⟨mg,md,mcu,mrt⟩:=pg.move (by rw [ple,tj]; exact hk)
    have hr:∀ n,Lns c.ly n->RT (Dm (As (Aw s (A5 s.le.rep) a1 a2) (Ax s.le.rep) (vD c s (A5 s.le.rep)) false) ⟨3,0,0,0,0,0⟩).le.rep n=(if RT s.le.rep n=A5 s.le.rep then Ax s.le.rep else RT s.le.rep n)/\RT s.le.rep n ≠ Ax s.le.rep:=fun n hn=>by
     obtain ⟨r1,r2⟩:=mrt n hn
     rw [ple,m0,m1,nrt n] at r1
     rw [ple,m1,nrt n] at r2
     exact ⟨r1,r2⟩
    refine ⟨⟨mg,by rw [mcu,pcu,tcu]; exact h.cu,by rw [md,phd]; exact ht.co,fun n hn=>?_⟩,⟨by rw [md,phd]; exact hct.la,fun n hn=>?_⟩,by rw [mcu,pcu,tcu],_,by rw [md,phd,thd,List.append_assoc],fun x hx=>?_⟩
    ·obtain ⟨r1,r2⟩:=hr n hn
     rw [r1,md,phd,htg]
     show ∃ l':Nat->Nat,_/\upZ s.d.gh _ _ _=_/\upZ (Aw s (A5 s.le.rep) a1 a2).d.mks _ _ _ ≠ 1/\_
     rw [thd]
     show ∃ l':Nat->Nat,_/\upZ s.d.gh _ _ _=_/\upZ s.d.mks _ _ _ ≠ 1/\_
     unfold upZ
     by_cases e:RT s.le.rep n=A5 s.le.rep
     ·rw [if_pos e,if_pos rfl,if_pos rfl]
      have en:n=n0:=h.w.inj hn hn0 (e.trans en0.symm)
      subst en
      exact ⟨vD c s (A5 s.le.rep),Xo dk _,rfl,by decide,k3⟩
     ·rw [if_neg e,if_neg r2,if_neg r2]
      exact h.dat n hn
    ·obtain ⟨r1,r2⟩:=hr n hn
     rw [r1,md,phd,htg,htd]
     show upZ s.d.d.c _ _ _=upZ s.d.gh _ _ _ ∨ (_/\upZ s.d.d.c _ _ _=_/\upZ s.d.gh _ _ _=_)
     unfold upZ
     by_cases e:RT s.le.rep n=A5 s.le.rep
     ·left; rw [if_pos e,if_pos rfl,if_pos rfl]
     ·right; rw [if_neg e,if_neg r2,if_neg r2]; exact ⟨rfl,rfl,rfl⟩
    ·rcases List.mem_append.1 hx with hx | hx
     ·rw [List.mem_singleton.1 hx]; exact k4
     ·have f1':s.d.d.g.atE (A5 s.le.rep)=0:=by rw [h.w.g]; exact Ma f1
      have hE:=(Rg h.co f1').2.1
      rw [List.mem_singleton.1 hx]
      exact Ads (s:=⟨Bz s.d.d (A5 s.le.rep),s.d.gh,s.d.mks,s.d.l ++ [rdA s.d (A5 s.le.rep)]⟩) (by show (Bz s.d.d (A5 s.le.rep)).co=[]; rw [hE]; exact h.co) (by show (Bz s.d.d (A5 s.le.rep)).g.atE _=0; rw [hE]; exact f2') _
end
