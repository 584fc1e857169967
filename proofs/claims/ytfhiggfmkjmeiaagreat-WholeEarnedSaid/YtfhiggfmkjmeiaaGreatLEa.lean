import Derived.Test.YtfhiggfmkjmeiaaGreatLWh
set_option linter.all false
namespace Go.Proofs.YtfhiggfmkjmeiaaGreat
open Go Go.RowKit
def Aw0 (a:Acc):Prop:=Iu a ∨ 2<=Se a
def badW (f:Int) (l:List Acc):Prop:=∃ k:Nat,f<=((k:Nat):Int)/\k < l.length/\Aw0 (l.getD k Mj)
theorem badW.app {f:Int} {l:List Acc} (h:badW f l) (z:List Acc):badW f (l ++ z):=by
 obtain ⟨k,h1,h2,h3⟩:=h
 refine ⟨k,h1,by rw [List.length_append]; omega,?_⟩
 rw [List.getD_eq_getElem?_getD,List.getElem?_append_left h2,← List.getD_eq_getElem?_getD]; exact h3
theorem badW.last {f:Int} {l:List Acc} {a:Acc} (hf:f<=((l.length:Nat):Int)) (h:Aw0 a):badW f (l ++ [a]) :=
 ⟨l.length,hf,by rw [List.length_append]; exact Nat.lt_succ_self _,by rw [Ru]; exact h⟩
structure EH (c:Cfg) (f:Int->Int) (s:CtlS):Prop where
 w:GW c s
 cu:Lns c.ly s.cur
 h:∀ n,Lns c.ly n->s.d.mks (RT s.le.rep n)=1->badW (f n) s.d.l
theorem EH.take {c:Cfg} {f:Int->Int} {s:CtlS} (h:EH c f s) {i:Int} (hi:c.ly.g.atB i=true) (a b:Int):EH c f (Aw s i a b):=by
 obtain ⟨g,hs,hd,hcu⟩:=h.w.take hi a b
 refine ⟨g,by rw [hcu]; exact h.cu,fun n hn hm=>?_⟩
 rw [h.w.rt g hs hn,hd] at hm
 rw [hd]
 exact (h.h n hn hm).app _
theorem EH.put {c:Cfg} {f:Int->Int} {s:CtlS} (h:EH c f s) {n:Int} (hn:Lns c.ly n) {l:Nat->Nat} (hl:∀ j,l j < 256) (b:Bool) (hb:b=true->badW (f n) s.d.l):EH c f (As s (RT s.le.rep n) l b)/\(b=false->(As s (RT s.le.rep n) l b).d.mks (RT s.le.rep n)=0):=by
 obtain ⟨_,_,hat⟩:=h.w.cat hn
 obtain ⟨g,hle,hd,hcu⟩:=h.w.put hat hl b
 refine ⟨⟨g,by rw [hcu]; exact h.cu,fun m hm hk=>?_⟩,fun e=>?_⟩
 ·rw [hle,hd] at hk
  rw [hd]
  have hk:upZ s.d.mks (RT s.le.rep n) (if b=true then 1 else 0) (RT s.le.rep m)=1:=hk
  unfold upZ at hk
  by_cases e:RT s.le.rep m=RT s.le.rep n
  ·have em:=h.w.inj hm hn e
   subst em
   rw [if_pos rfl] at hk
   cases b with
   | false=>cases hk
   | true=>exact (hb rfl).app _
  ·rw [if_neg e] at hk
   exact (h.h m hm hk).app _
 ·rw [hd]
  show upZ s.d.mks (RT s.le.rep n) (if b=true then 1 else 0) (RT s.le.rep n)=0
  unfold upZ
  rw [if_pos rfl,e]; rfl
theorem EH.same {c:Cfg} {f:Int->Int} {s t:CtlS} (h:EH c f s) (g:GW c t) (hs:StH s.le.rep t.le.rep) (h1:t.d.l=s.d.l) (h2:t.d.mks=s.d.mks) (h3:t.cur=s.cur):EH c f t :=
 ⟨g,by rw [h3]; exact h.cu,fun n hn hm=>by rw [h.w.rt g hs hn,h2] at hm; rw [h1]; exact h.h n hn hm⟩
section
variable {c:Cfg} {f:Int->Int} {s:CtlS} (hc:A8 c=true) (h:EH c f s) (dk:DevOk s.d) (hf:∀ n,f n<=((s.d.l.length:Nat):Int))
include hc h dk hf
theorem EH.tells {n:Int} (hn:Lns c.ly n) (hk:2<=vK c s (RT s.le.rep n)):badW (f n) (s.d.l ++ [rdA s.d (RT s.le.rep n)]):=by
 obtain ⟨_,_,hat⟩:=h.w.cat hn
 rcases (h.w.verdict hc dk hat).1 hk with x | x | x
 ·exact .last (hf n) (Or.inl x)
 ·exact .last (hf n) (Or.inr x)
 ·exact (h.h n hn x).app _
theorem EH.read {n:Int} (hn:Lns c.ly n) (b:Bool):EH c f (An s n b)/\(Bv s n b ≠ 0->badW (f n) (An s n b).d.l):=by
 obtain ⟨_,_,hat⟩:=h.w.cat hn
 obtain ⟨a1,a2,e1,e2,e3⟩:=A4p hc h.w hn b
 have ht:=h.take hat a1 a2
 obtain ⟨tg,ths,thd,_⟩:=h.w.take hat a1 a2
 have hrt:=h.w.rt tg ths hn
 have hp:=ht.put hn (Xo (c:=c) dk (RT s.le.rep n)) false (fun e=>by cases e)
 rw [hrt] at hp
 obtain ⟨_,_,phd,_⟩:=tg.put hat (Xo (c:=c) dk (RT s.le.rep n)) false
 rw [thd] at phd
 rw [e3]
 have key:∀ t:CtlS,t=An s n b->EH c f t/\∃ z,t.d.l=(s.d.l ++ [rdA s.d (RT s.le.rep n)]) ++ z:=fun t et=>by
  rw [et,e1]
  cases decide (vK c s (RT s.le.rep n)=1) with
  | false=>rw [cond_false]; exact ⟨ht,[],by rw [thd,List.append_nil]⟩
  | true =>
    cases b with
    | false=>exact ⟨ht,[],by rw [cond_true,cond_false,thd,List.append_nil]⟩
    | true=>exact ⟨hp.1,_,by rw [cond_true,cond_true,phd]⟩
 obtain ⟨k1,z,k2⟩:=key _ rfl
 refine ⟨k1,fun h0=>?_⟩
 rw [k2]
 have hk:¬ vK c s (RT s.le.rep n)<=1:=fun x=>h0 (Ajg.2 x)
 exact (h.tells hc dk hf hn (by omega)).app _
theorem EH.masked {n:Int} (hn:Lns c.ly n) {l:List Nat} (bl:B8 l) {m:Nat} (hm:m ≠ 0):EH c f (Ah s n l m)/\(Ar s n l m ≠ 0->badW (f n) (Ah s n l m).d.l)/\(wt m=64->(Ah s n l m).d.mks (RT (Ah s n l m).le.rep n)=0):=by
 obtain ⟨_,_,hat⟩:=h.w.cat hn
 obtain ⟨a1,a2,e1,e2⟩:=Vl hc h.w hn l hm
 have ht:=h.take hat a1 a2
 obtain ⟨tg,ths,thd,_⟩:=h.w.take hat a1 a2
 have hrt:=h.w.rt tg ths hn
 rw [e1,e2]
 by_cases q:wt m=64
 ·rw [if_pos q,if_pos q]
  obtain ⟨p1,p2⟩:=h.put hn (Lp bl) false (fun e=>by cases e)
  obtain ⟨_,ple,_,_⟩:=h.w.put hat (Lp bl) false
  exact ⟨p1,fun x=>absurd rfl x,fun _=>by rw [ple]; exact p2 rfl⟩
 ·rw [if_neg q,if_neg q]
  refine (fun x=>⟨x.1,x.2,fun y=>absurd y q⟩:_/\_->_) ?_
  by_cases k:vK c s (RT s.le.rep n)<=1
  ·rw [if_pos k,Ajg.2 k]
   have hp:=(ht.put hn (A0g (Xo (c:=c) dk (RT s.le.rep n)) (Lp bl) m) false (fun e=>by cases e)).1
   rw [hrt] at hp
   exact ⟨hp,fun x=>absurd rfl x⟩
  ·rw [if_neg k]
   have hbad:=h.tells hc dk hf hn (show 2<=vK c s (RT s.le.rep n) by omega)
   have hp:=(ht.put hn (l:=fun _=>0) (fun _=>(by decide:(0:Nat) < 256)) true (fun _=>by rw [thd]; exact hbad)).1
   rw [hrt] at hp
   obtain ⟨_,_,phd,_⟩:=tg.put hat (l:=fun _=>0) (fun _=>(by decide:(0:Nat) < 256)) true
   refine ⟨hp,fun _=>?_⟩
   rw [phd,thd]
   exact hbad.app _
theorem EH.scrub:EH c f (D8 s):=by
 have hcf:=h.w.cf
 have h2:EH c f { s with cur:=(IntKind.i64.wrap (s.cur + 1)).tmod (IntKind.i64.wrap ((A0 s.le.c.ly) * s.le.c.ly.g.cols)) } :=
  ⟨⟨h.w.ri,h.w.cf,h.w.ly,h.w.g,h.w.md,h.w.gh⟩,by rw [hcf]; exact Z8 hc h.cu,h.h⟩
 exact (h2.read hc dk hf h.cu true).1
theorem EH.copy:EH c f (Db s):=by
 by_cases hk:s.le.rep.j.kind=0
 ·rw [(A4h hc h.w hk).1]; exact h
 ·obtain ⟨a1,a2,e1,_⟩:=Ae1 hc h.w hk
  obtain ⟨f1,f2⟩:=h.w.next hk
  rw [e1]
  unfold cpS
  cases hu:Gp s.le.rep.m (R9 s.le.rep) with
  | false =>
    rw [cond_false]
    obtain ⟨pg,ple,phd,pcu⟩:=h.w.put f2 (l:=fun _=>0) (fun _=>(by decide:(0:Nat) < 256)) false
    obtain ⟨mg,md,mcu,mrt⟩:=pg.move (by rw [ple]; exact hk)
    refine ⟨mg,by rw [mcu,pcu]; exact h.cu,fun n hn hm=>?_⟩
    obtain ⟨r1,r2⟩:=mrt n hn
    rw [ple] at r1 r2
    rw [if_neg (Agu h.w.ri hk hu (by rw [h.w.ly]; exact hn))] at r1
    rw [r1,md,phd] at hm
    have hm:upZ s.d.mks (Ax s.le.rep) 0 (RT s.le.rep n)=1:=hm
    unfold upZ at hm
    rw [if_neg r2] at hm
    rw [md,phd]
    exact (h.h n hn hm).app _
  | true =>
    rw [cond_true]
    obtain ⟨tg,ths,thd,tcu⟩:=h.w.take f1 a1 a2
    obtain ⟨tj,tm⟩:=A3t hk (A5 s.le.rep) a1 a2
    obtain ⟨n0,n1,nrt⟩:=A3d tj tm
    obtain ⟨pg,ple,phd,pcu⟩:=tg.put f2 (Xo (c:=c) dk (A5 s.le.rep)) (decide (2<=vK c s (A5 s.le.rep)))
    obtain ⟨mg,md,mcu,mrt⟩:=pg.move (by rw [ple,tj]; exact hk)
    refine ⟨mg,by rw [mcu,pcu,tcu]; exact h.cu,fun n hn hm=>?_⟩
    obtain ⟨r1,r2⟩:=mrt n hn
    rw [ple,n0,n1,nrt n] at r1
    rw [ple,n1,nrt n] at r2
    rw [r1,md,phd,thd] at hm
    rw [md,phd,thd]
    have hm:upZ s.d.mks (Ax s.le.rep) (if decide (2<=vK c s (A5 s.le.rep))=true then 1 else 0) (if RT s.le.rep n=A5 s.le.rep then Ax s.le.rep else RT s.le.rep n)=1:=hm
    unfold upZ at hm
    by_cases e:RT s.le.rep n=A5 s.le.rep
    ·rw [if_pos e,if_pos rfl] at hm
     have hk2:2<=vK c s (A5 s.le.rep):=by
      rcases Nat.lt_or_ge 1 (vK c s (A5 s.le.rep)) with y | y
      ·exact y
      ·rw [fq (show ¬ 2<=vK c s (A5 s.le.rep) by omega)] at hm; cases hm
     rw [← e] at hk2 ⊢
     exact (h.tells hc dk hf hn hk2).app _
    ·rw [if_neg e,if_neg r2] at hm
     exact ((h.h n hn hm).app _).app _
end
theorem Aeh (l:List Srv) (x:Srv):∀ i,i<=l.length->efr (l ++ [x]) i=efr l i
 | 0,_=>rfl
 | i + 1,h=>by rw [efr,efr,Aeh l x i (by omega),Rt _ _ _ (by omega)]
def ES (m:MchS) (i:Nat):Prop:=(m.srv.getD i Aj).last<=((m.c.d.l.length:Nat):Int)/\((m.srv.getD i Aj).ans.e ≠ 0->∃ k:Nat,efr m.srv i (m.srv.getD i Aj).step.line<=((k:Nat):Int)/\((k:Nat):Int) < (m.srv.getD i Aj).last/\Aw0 (m.c.d.l.getD k Mj))
structure EM (c:Cfg) (m:MchS):Prop where
 h:EH c (efr m.srv m.srv.length) m.c
 fr:∀ i,i<=m.srv.length->∀ n,0<=efr m.srv i n/\efr m.srv i n<=((m.c.d.l.length:Nat):Int)
 sv:∀ i,i < m.srv.length->ES m i
theorem ES.mono {m t:MchS} {i:Nat} {z:List Acc} (h:ES m i) (e:t.c.d.l=m.c.d.l ++ z) (e2:t.srv.getD i Aj=m.srv.getD i Aj) (e3:efr t.srv i=efr m.srv i):ES t i:=by
 obtain ⟨h1,h2⟩:=h
 unfold ES
 rw [e2,e3,e]
 refine ⟨by rw [List.length_append]; omega,fun q=>?_⟩
 obtain ⟨k,k1,k2,k3⟩:=h2 q
 refine ⟨k,k1,k2,?_⟩
 rw [List.getD_eq_getElem?_getD,List.getElem?_append_left (by omega),← List.getD_eq_getElem?_getD]; exact k3
theorem Azb:wt 18446744073709551615=64:=by decide +kernel
theorem EH.fr {c:Cfg} {f g:Int->Int} {s:CtlS} (h:EH c f s) (e:∀ n,Lns c.ly n->s.d.mks (RT s.le.rep n)=1->g n=f n):EH c g s:=⟨h.w,h.cu,fun n hn hm=>by rw [e n hn hm]; exact h.h n hn hm⟩
theorem EM.step {c:Cfg} (hc:A8 c=true) {m:MchS} (h:EM c m) (dk:DevOk m.c.d) {x:Stp} (hx:StpOk x) (hci:CIn m.c):EM c (Al m x):=by
 have hly:=h.h.w.ly
 obtain ⟨z,hz⟩:=(Anm m x).d.l
 have hf:∀ n,efr m.srv m.srv.length n<=((m.c.d.l.length:Nat):Int):=fun n=>(h.fr _ (Nat.le_refl _) n).2
 cases hq:Lr c x with
 | true =>
   obtain ⟨s1,s2,_⟩:=Afu hci hly hq
   obtain ⟨hr,hk,hn,hm⟩:=A5w hq
   have hn:Lns c.ly x.line:=hn
   have k1:=Ur hr
   obtain ⟨e1,e2,e3,e4⟩:=Afs (s:=m) hr hk
   have ec:(Al m x).c=bif decide (x.kind=1) then An m.c x.line m.c.le.c.back else (bif decide (x.kind=2) then Ah m.c x.line (arL x.data 64 0) 18446744073709551615 else Ah m.c x.line (arL x.data 64 0) x.mask):=by rw [e1]; exact A5y _ _
   have bl:B8 (arL x.data 64 0):=Ij hx.d 64 0
   have hlen:(Al m x).srv.length=m.srv.length + 1:=by rw [s1,List.length_append]; rfl
   have hge:m.c.d.l.length<=(Al m x).c.d.l.length:=by rw [hz,List.length_append]; omega
   have hefr:∀ i,i<=m.srv.length->efr (Al m x).srv i=efr m.srv i:=fun i hi=>by rw [s1]; exact Aeh _ _ i hi
   have hnew:(Al m x).srv.getD m.srv.length Aj=Apg m x:=by rw [s1,Ru]
   have hefr1:efr (Al m x).srv (Al m x).srv.length=bif Ff x then upZ (efr m.srv m.srv.length) x.line ((m.c.d.l.length:Nat):Int) else efr m.srv m.srv.length:=by
    rw [hlen,efr,hefr _ (Nat.le_refl _),hnew]; rfl
   -- what the request does
   have hreq:EH c (efr m.srv m.srv.length) (Al m x).c/\(D7 m x ≠ 0->badW (efr m.srv m.srv.length x.line) (Al m x).c.d.l)/\(Ff x=true->(Al m x).c.d.mks (RT (Al m x).c.le.rep x.line)=0):=by
    rcases (by omega:x.kind=1 ∨ x.kind=2 ∨ x.kind=3) with q | q | q
    ·rw [tq q,cond_true] at ec
     have ea:D7 m x=((Bv m.c x.line m.c.le.c.back:Nat):Int):=by rw [e2]; unfold Cx; rw [tq q]; rfl
     obtain ⟨a,b⟩:=h.h.read hc dk hf hn m.c.le.c.back
     rw [ec,ea]
     refine ⟨a,fun y=>b (by omega),fun y=>?_⟩
     unfold Ff at y
     rw [fq (show ¬ x.kind=2 by omega),fq (show ¬ x.kind=3 by omega)] at y
     cases y
    ·rw [fq (show ¬ x.kind=1 by omega),tq q,cond_false,cond_true] at ec
     have ea:D7 m x=((Ar m.c x.line (arL x.data 64 0) 18446744073709551615:Nat):Int):=by rw [e2]; unfold Cx; rw [fq (show ¬ x.kind=1 by omega),tq q]; rfl
     obtain ⟨a,b,d⟩:=h.h.masked hc dk hf hn bl (m:=18446744073709551615) (by decide)
     rw [ec,ea]
     exact ⟨a,fun y=>b (by omega),fun _=>d Azb⟩
    ·rw [fq (show ¬ x.kind=1 by omega),fq (show ¬ x.kind=2 by omega),cond_false,cond_false] at ec
     have ea:D7 m x=((Ar m.c x.line (arL x.data 64 0) x.mask:Nat):Int):=by rw [e2]; unfold Cx; rw [fq (show ¬ x.kind=1 by omega),fq (show ¬ x.kind=2 by omega)]; rfl
     obtain ⟨a,b,d⟩:=h.h.masked hc dk hf hn bl (hm q)
     rw [ec,ea]
     refine ⟨a,fun y=>b (by omega),fun y=>d ?_⟩
     unfold Ff at y
     rw [fq (show ¬ x.kind=2 by omega),tq q,cond_false,cond_true] at y
     have y:=otq y
     omega
   obtain ⟨r1,r2,r3⟩:=hreq
   refine ⟨?_,fun i hi n=>?_,fun i hi=>?_⟩
   ·rw [hefr1]
    cases hw:Ff x with
    | false=>exact r1
    | true =>
      refine r1.fr fun n hn' hmk=>?_
      show upZ _ _ _ n=_
      unfold upZ
      by_cases en:n=x.line
      ·subst en; rw [r3 hw] at hmk; cases hmk
      ·rw [if_neg en]
   ·rcases Nat.lt_or_ge m.srv.length i with q | q
    ·have ei:i=(Al m x).srv.length:=by omega
     rw [ei,hefr1]
     have h0:=h.fr _ (Nat.le_refl _) n
     cases Ff x with
     | false=>show 0<=efr m.srv m.srv.length n/\efr m.srv m.srv.length n<=_; omega
     | true =>
       show 0<=upZ _ _ _ n/\upZ _ _ _ n<=_
       unfold upZ
       by_cases en:n=x.line
       ·rw [if_pos en]; omega
       ·rw [if_neg en]; omega
    ·rw [hefr i q]
     have h0:=h.fr i q n
     omega
   ·rcases Nat.lt_or_ge i m.srv.length with q | q
    ·exact (h.sv i q).mono hz (by rw [s1,Rt _ _ _ q]) (hefr i (by omega))
    ·have ei:i=m.srv.length:=by omega
     subst ei
     unfold ES
     rw [hnew,hefr _ (Nat.le_refl _)]
     refine ⟨Int.le_refl _,fun y=>?_⟩
     obtain ⟨k,b1,b2,b3⟩:=r2 y
     exact ⟨k,b1,by show ((k:Nat):Int) < (((Al m x).c.d.l.length:Nat):Int); omega,b3⟩
 | false =>
   obtain ⟨s1,s2⟩:=A9b hly hq
   refine ⟨?_,fun i hi n=>?_,fun i hi=>?_⟩
   ·rw [s1]
    rcases A5v hq with hb | ⟨hr,k1,k2⟩
    ·rw [(A43 hly hb).1.c]; exact h.h
    ·obtain ⟨q4,q5,q6,q7,q8⟩:=Anl m hr
     rcases (by omega:x.kind=4 ∨ x.kind=5 ∨ x.kind=6 ∨ x.kind=7 ∨ x.kind=8) with q | q | q | q | q
     ·rw [q4 q]; exact h.h.scrub hc dk hf
     ·rw [q5 q]; exact h.h.copy hc dk hf
     ·rw [q6 q]
      unfold Dl
      obtain ⟨g,hs⟩:=h.h.w.note (x:=⟨2,0,0,0,0,0⟩) (by decide)
      exact Ad (p:=EH c (efr m.srv m.srv.length)) h.h (h.h.same g hs rfl rfl rfl)
     ·rw [q7 q]
      obtain ⟨g,hs⟩:=h.h.w.note (x:=⟨4,0,0,0,0,0⟩) (by decide)
      exact h.h.same g hs rfl rfl rfl
     ·rw [q8 q]
      exact h.h.same (h.h.w.inject x.f) (.refl _) rfl rfl rfl
   ·rw [s1] at hi ⊢
    have h0:=h.fr i hi n
    rw [hz,List.length_append]; omega
   ·rw [s1] at hi
    exact (h.sv i hi).mono hz (by rw [s1]) (by rw [s1])
theorem B1s {c:Cfg} (hc:A8 c=true):EM c (Ac c):=by
 have hw:=A7d hc
 refine ⟨⟨hw,A7c hc,fun n hn hm=>?_⟩,fun i hi n=>?_,fun i hi=>absurd hi (Nat.not_lt_zero i)⟩
 ·obtain ⟨_,_,hat⟩:=hw.cat hn
  obtain ⟨_,_,z3⟩:=(Tk hc).2 _ hat
  have hm:(Lh c).d.mks (RT (Lh c).le.rep n)=1:=hm
  rw [z3] at hm; cases hm
 ·have hi:i=0:=Nat.le_zero.1 hi
  subst hi
  show (0:Int)<=0/\(0:Int)<=_
  omega
theorem Al9 {c:Cfg} {l:List Stp} (hc:A8 c=true) (hl:∀ x ∈ l,StpOk x):∀ i,i<=l.length->EM c (mrS (Ac c) l i)
 | 0,_=>B1s hc
 | i + 1,hi=>(Al9 hc hl i (by omega)).step hc (Wb (Kx hc) hl (by omega)).c.d (Tb hl hi) (Anx hc l i)
theorem Al4 {c:Cfg} {m:MchS} (h:EM c m) (ai:AccIn m.c.d.l):J0 m=true:=by
 have e:efi m=m.srv.length:=A2z (Nat.le_refl _) (fun j hj=>?_) (fun h=>absurd h (Nat.lt_irrefl _))
 ·unfold J0
  rw [e,fq (Int.lt_irrefl _)]; rfl
 ·obtain ⟨h1,h2⟩:=h.sv j hj
  have hfr:=h.fr j (by omega) (m.srv.getD j Aj).step.line
  unfold Abd
  by_cases q:(m.srv.getD j Aj).ans.e=0
  ·rw [tq q]; rfl
  ·obtain ⟨k,k1,k2,k3⟩:=h2 q
   rw [fq q,cond_false]
   cases ha:(Ft m (efr m.srv j (m.srv.getD j Aj).step.line) (m.srv.getD j Aj).last).astray with
   | true=>rfl
   | false =>
     rw [cond_false]
     unfold Ft W4 at ha
     have ha:=A6n.1 ha
     have hx:k - (efr m.srv j (m.srv.getD j Aj).step.line).toNat < min m.c.d.l.length (m.srv.getD j Aj).last.toNat - (efr m.srv j (m.srv.getD j Aj).step.line).toNat:=by omega
     have ek:(efr m.srv j (m.srv.getD j Aj).step.line).toNat + (k - (efr m.srv j (m.srv.getD j Aj).step.line).toNat)=k:=by omega
     have hns:=ha _ hx
     rw [ek] at hns
     have h2e:2<=Se (m.c.d.l.getD k Mj):=by
      rcases k3 with y | y
      ·exact absurd y hns
      ·exact y
     refine fq fun hlt=>?_
     unfold Ft W4 at hlt
     have:=(A6o ai (k:=1) (by decide)).1 (Int.le_of_lt_add_one (show _ < (1:Int) + 1 from hlt)) _ hx
     rw [ek] at this
     have:=this hns
     omega
theorem Al6 {c:Cfg} {l:List Stp} (hc:A8 c=true) (hl:∀ x ∈ l,StpOk x):J0 (mrS (Ac c) l l.length)=true:=Al4 (Al9 hc hl _ (Nat.le_refl _)) (Auy hc hl)
