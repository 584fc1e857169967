import Derived.Test.YtfhiggfmkjmeiaaGreatLOp
import Derived.Test.YtfhiggfmkjmeiaaGreatLBg
set_option linter.unusedVariables false
set_option linter.unusedSimpArgs false
set_option linter.unusedSectionVars false
namespace Go.Proofs.YtfhiggfmkjmeiaaGreat
open Go Go.RowKit
structure HD (c:Cfg) (id:Int->Nat->Nat) (s:CtlS):Prop where
 w:GW c s
 cu:Lns c.ly s.cur
 dat:∀ n,Lns c.ly n->∃ l:Nat->Nat,(∀ j,l j < 256)∧s.d.gh (RT s.le.rep n)=enc_v0 c.mode l (RT s.le.rep n) (decide (s.d.mks (RT s.le.rep n)=1))∧(s.d.mks (RT s.le.rep n) ≠ 1->∀ j,j < 64->l j=id n j)
theorem HD.take {c:Cfg} {id:Int->Nat->Nat} {s:CtlS} (h:HD c id s) {i:Int} (hi:c.ly.g.atB i=true) (a b:Int):HD c id (ctake_s s i a b):=by
 obtain ⟨g,hs,hd,hcu⟩:=h.w.take hi a b
 refine ⟨g,by rw [hcu]; exact h.cu,fun n hn=>?_⟩
 rw [h.w.rt g hs hn,hd]
 exact h.dat n hn
theorem HD.put {c:Cfg} {id id':Int->Nat->Nat} {s:CtlS} (h:HD c id s) {n:Int} (hn:Lns c.ly n) {l:Nat->Nat} (hl:∀ j,l j < 256) (b:Bool) (hid:b=false->∀ j,j < 64->l j=id' n j) (ho:∀ m,m ≠ n->id' m=id m):HD c id' (cput_s s (RT s.le.rep n) l b):=by
 obtain ⟨_,_,hat⟩:=h.w.cat hn
 obtain ⟨g,hle,hd,hcu⟩:=h.w.put hat hl b
 refine ⟨g,by rw [hcu]; exact h.cu,fun m hm=>?_⟩
 rw [hle,hd]
 show ∃ l':Nat->Nat,_∧upZ s.d.gh _ _ (RT s.le.rep m)=enc_v0 c.mode l' (RT s.le.rep m) (decide (upZ s.d.mks _ _ (RT s.le.rep m)=1))∧(upZ s.d.mks _ _ (RT s.le.rep m) ≠ 1->_)
 unfold upZ
 by_cases e:RT s.le.rep m=RT s.le.rep n
 ·have em:=h.w.inj hm hn e
  subst em
  rw [if_pos rfl,if_pos rfl]
  refine ⟨l,hl,by cases b <;> rfl,fun x=>hid ?_⟩
  cases b with
  | false=>rfl
  | true=>exact absurd rfl x
 ·rw [if_neg e,if_neg e]
  obtain ⟨l',h1,h2,h3⟩:=h.dat m hm
  have em:m ≠ n:=fun x=>e (by rw [x])
  refine ⟨l',h1,h2,fun x j hj=>?_⟩
  rw [ho m em]; exact h3 x j hj
theorem HD.same {c:Cfg} {id:Int->Nat->Nat} {s t:CtlS} (h:HD c id s) (g:GW c t) (hs:StH s.le.rep t.le.rep) (h1:t.d.gh=s.d.gh) (h2:t.d.mks=s.d.mks) (h3:t.cur=s.cur):HD c id t :=
 ⟨g,by rw [h3]; exact h.cu,fun n hn=>by rw [h.w.rt g hs hn,h1,h2]; exact h.dat n hn⟩
theorem vD_lt {c:Cfg} {s:CtlS} (dk:DevOk s.d) (i:Int) (j:Nat):vD c s i j < 256:=dec_lt (fun j=>vRead_lt dk j) j
section
variable {c:Cfg} {id:Int->Nat->Nat} {s:CtlS} (hc:cfgRight_v0 c=true) (h:HD c id s) (dk:DevOk s.d)
include hc h dk
theorem HD.tells {n:Int} (hn:Lns c.ly n) (hw:WA c.mode (rdA s.d (RT s.le.rep n))) (hk:vK c s (RT s.le.rep n)<=1):aExp (rdA s.d (RT s.le.rep n))<=1∧s.d.mks (RT s.le.rep n) ≠ 1∧∀ j,j < 64->vD c s (RT s.le.rep n) j=id n j:=by
 obtain ⟨_,_,hat⟩:=h.w.cat hn
 obtain ⟨_,a2,a3,a4⟩:=(h.w.verdict hc dk hat).2 hk hw
 obtain ⟨l,h1,h2,h3⟩:=h.dat n hn
 refine ⟨a2,a3,fun j hj=>?_⟩
 rw [decide_eq_false a3] at h2
 exact (a4 l h1 h2 j hj).trans (h3 a3 j hj)
theorem HD.read {n:Int} (hn:Lns c.ly n) (b:Bool) (hw:∀ x ∈ (cread_s s n b).d.l,WA c.mode x):HD c id (cread_s s n b) ∧
   (cread_v1 s n b=0->(∀ j,j < 64->cread_v0 s n b j=id n j)∧∃ z,(cread_s s n b).d.l=s.d.l ++ z∧∀ x ∈ z,aExp x<=1)∧(cread_v1 s n b ≠ 0->cread_v0 s n b=fun _=>0):=by
 obtain ⟨_,_,hat⟩:=h.w.cat hn
 obtain ⟨a1,a2,e1,e2,e3⟩:=cread_k hc h.w hn b
 have ht:=h.take hat a1 a2
 obtain ⟨tg,ths,thd,_⟩:=h.w.take hat a1 a2
 have hrt:=h.w.rt tg ths hn
 have hp:=ht.put (id':=id) hn (vD_lt (c:=c) dk (RT s.le.rep n)) false
 rw [hrt] at hp
 obtain ⟨_,_,phd,_⟩:=tg.put hat (vD_lt (c:=c) dk (RT s.le.rep n)) false
 rw [thd] at phd
 rw [e2,e3]
 have hr:∀ x ∈ (cread_s s n b).d.l,WA c.mode x:=hw
 have hacc : ∃ z, (cread_s s n b).d.l = s.d.l ++ (rdA s.d (RT s.le.rep n) :: z) ∧ ∀ x ∈ z, aExp x = 0 := by
  rw [e1]
  cases decide (vK c s (RT s.le.rep n)=1) with
  | false=>rw [cond_false,thd]; exact ⟨[],rfl,fun x hx=>by cases hx⟩
  | true =>
    cases b with
    | false=>rw [cond_true,cond_false,thd]; exact ⟨[],rfl,fun x hx=>by cases hx⟩
    | true =>
      rw [cond_true,cond_true,phd]
      refine ⟨[_],by show (s.d.l ++ [_]) ++ [_]=_; rw [List.append_assoc]; rfl,fun x hx=>?_⟩
      rw [List.mem_singleton.1 hx]; rfl
 obtain ⟨z,z1,z2⟩:=hacc
 have hwr:WA c.mode (rdA s.d (RT s.le.rep n)):=hr _ (by rw [z1]; exact List.mem_append_right _ (List.mem_cons_self ..))
 refine ⟨?_,fun h0=>?_,fun h0=>?_⟩
 ·rw [e1]
  by_cases q:vK c s (RT s.le.rep n)=1
  ·rw [decide_eq_true q,cond_true]
   cases b with
   | false=>exact ht
   | true=>exact hp (fun _=>(h.tells hc dk hn hwr (by omega)).2.2) (fun _ _=>rfl)
  ·rw [decide_eq_false q]; exact ht
 ·have hk:=tE_0.1 h0
  obtain ⟨b1,b2,b3⟩:=h.tells hc dk hn hwr hk
  refine ⟨b3,_,z1,fun x hx=>?_⟩
  rcases List.mem_cons.1 hx with rfl | hx
  ·exact b1
  ·rw [z2 x hx]; decide
 ·have hk:¬ vK c s (RT s.le.rep n)<=1:=fun x=>h0 (tE_0.2 x)
  exact dec_z (cfg_t hc).2.1 (show 2<=dec_v1 c.mode (vRead_v0 s.d (RT s.le.rep n)) (RT s.le.rep n) by unfold vK at hk; omega)
theorem HD.masked {n:Int} (hn:Lns c.ly n) {l:List Nat} (bl:B8 l) {m:Nat} (hm:m ≠ 0) (hm2:m < 18446744073709551616) (hw:∀ x ∈ (cMasked_s s n l m).d.l,WA c.mode x) {x:Nat->Nat} (hx:∀ j,j < 64->mgF (id n) (lnOf l) m j=x j):HD c (upZ id n x) (cMasked_s s n l m):=by
 obtain ⟨_,_,hat⟩:=h.w.cat hn
 obtain ⟨a1,a2,e1,e2⟩:=cMasked_k hc h.w hn l hm
 have ho:∀ k,k ≠ n->upZ id n x k=id k:=fun k hk=>by unfold upZ; rw [if_neg hk]
 have hi:upZ id n x n=x:=by unfold upZ; rw [if_pos rfl]
 have ht:=h.take hat a1 a2
 obtain ⟨tg,ths,thd,_⟩:=h.w.take hat a1 a2
 have hrt:=h.w.rt tg ths hn
 rw [e1] at hw ⊢
 by_cases q:wt m=64
 ·rw [if_pos q]
  exact h.put hn (lnOf_lt bl) false (fun _ j hj=>by rw [hi,← hx j hj]; exact (mg_full hm2 q hj).symm) ho
 ·rw [if_neg q] at hw ⊢
  by_cases k:vK c s (RT s.le.rep n)<=1
  ·rw [if_pos k] at hw ⊢
   have hwr:WA c.mode (rdA s.d (RT s.le.rep n)):=by
    obtain ⟨_,_,phd,_⟩:=tg.put hat (mgF_lt (vD_lt (c:=c) dk (RT s.le.rep n)) (lnOf_lt bl) m) false
    refine hw _ ?_
    rw [phd,thd]
    exact List.mem_append_left _ (List.mem_append_right _ (List.mem_singleton.2 rfl))
   have hd:=(h.tells hc dk hn hwr k).2.2
   have hp:=ht.put (id':=upZ id n x) hn (mgF_lt (vD_lt (c:=c) dk (RT s.le.rep n)) (lnOf_lt bl) m) false (fun _ j hj=>by rw [hi,← hx j hj]; exact mg_ext (hd j hj)) ho
   rw [hrt] at hp; exact hp
  ·rw [if_neg k]
   have hp:=ht.put (id':=upZ id n x) hn (fun _=>(by decide:(0:Nat) < 256)) true (fun e=>by cases e) ho
   rw [hrt] at hp; exact hp
theorem HD.scrub (hw:∀ x ∈ (cScrub_s s).d.l,WA c.mode x):HD c id (cScrub_s s):=by
 have hcf:=h.w.cf
 have h2:HD c id { s with cur:=(IntKind.i64.wrap (s.cur + 1)).tmod (IntKind.i64.wrap ((lySeen_v0 s.le.c.ly) * s.le.c.ly.g.cols)) } :=
  ⟨⟨h.w.ri,h.w.cf,h.w.ly,h.w.g,h.w.md,h.w.gh⟩,by rw [hcf]; exact cur_next hc h.cu,h.dat⟩
 exact (h2.read hc dk h.cu true hw).1
theorem HD.copy (hw:∀ x ∈ (cCopy_s s).d.l,WA c.mode x):HD c id (cCopy_s s):=by
 by_cases hk:s.le.rep.j.kind=0
 ·rw [(ccopy_0 hc h.w hk).1]; exact h
 ·obtain ⟨a1,a2,e1,_⟩:=ccopy_k hc h.w hk
  obtain ⟨f1,f2⟩:=h.w.next hk
  rw [e1] at hw ⊢
  unfold cpS at hw ⊢
  cases hu:mUsed_v0 s.le.rep.m (srcH s.le.rep) with
  | false =>
    rw [hu,cond_false] at hw
    rw [cond_false]
    obtain ⟨pg,ple,phd,pcu⟩:=h.w.put f2 (l:=fun _=>0) (fun _=>(by decide:(0:Nat) < 256)) false
    obtain ⟨mg,md,mcu,mrt⟩:=pg.move (by rw [ple]; exact hk)
    refine ⟨mg,by rw [mcu,pcu]; exact h.cu,fun n hn=>?_⟩
    obtain ⟨r1,r2⟩:=mrt n hn
    rw [ple] at r1 r2
    rw [if_neg (used_no h.w.ri hk hu (by rw [h.w.ly]; exact hn))] at r1
    rw [r1,md,phd]
    show ∃ l':Nat->Nat,_∧upZ s.d.gh _ _ _=enc_v0 c.mode l' _ (decide (upZ s.d.mks _ _ _=1))∧(upZ s.d.mks _ _ _ ≠ 1->_)
    unfold upZ
    rw [if_neg r2,if_neg r2]
    exact h.dat n hn
  | true =>
    rw [hu,cond_true] at hw
    rw [cond_true]
    have ht:=h.take f1 a1 a2
    obtain ⟨tg,ths,thd,tcu⟩:=h.w.take f1 a1 a2
    obtain ⟨tj,tm⟩:=take_busy hk (rpNext_v0 s.le.rep) a1 a2
    obtain ⟨n0,n1,nrt⟩:=next_same tj tm
    obtain ⟨pg,ple,phd,pcu⟩:=tg.put f2 (vD_lt (c:=c) dk (rpNext_v0 s.le.rep)) (decide (2<=vK c s (rpNext_v0 s.le.rep)))
    obtain ⟨mg,md,mcu,mrt⟩:=pg.move (by rw [ple,tj]; exact hk)
    have hwr:WA c.mode (rdA s.d (rpNext_v0 s.le.rep)):=by
     refine hw _ ?_
     rw [md,phd,thd]
     exact List.mem_append_left _ (List.mem_append_right _ (List.mem_singleton.2 rfl))
    refine ⟨mg,by rw [mcu,pcu,tcu]; exact h.cu,fun n hn=>?_⟩
    obtain ⟨r1,r2⟩:=mrt n hn
    rw [ple,n0,n1,nrt n] at r1
    rw [ple,n1,nrt n] at r2
    rw [r1,md,phd,thd]
    show ∃ l':Nat->Nat,_∧upZ s.d.gh _ _ _=enc_v0 c.mode l' _ (decide (upZ s.d.mks _ _ _=1))∧(upZ s.d.mks _ _ _ ≠ 1->_)
    unfold upZ
    by_cases e:RT s.le.rep n=rpNext_v0 s.le.rep
    ·rw [if_pos e,if_pos rfl,if_pos rfl]
     refine ⟨vD c s (rpNext_v0 s.le.rep),vD_lt dk _,by cases decide (2<=vK c s (rpNext_v0 s.le.rep)) <;> rfl,fun x=>?_⟩
     have hk1:vK c s (rpNext_v0 s.le.rep)<=1:=by
      rcases Nat.lt_or_ge 1 (vK c s (rpNext_v0 s.le.rep)) with y | y
      ·exact absurd (by rw [decide_eq_true (show 2<=vK c s (rpNext_v0 s.le.rep) by omega)]; rfl) x
      ·exact y
     rw [← e] at hwr hk1 ⊢
     exact (h.tells hc dk hn hwr hk1).2.2
    ·rw [if_neg e,if_neg r2,if_neg r2]
     exact h.dat n hn
end
def HS (m:MchS) (x:Srv):Prop:=(0<=x.first∧x.first<=x.last∧x.last<=((m.c.d.l.length:Nat):Int)) ∧
 (x.ans.e=0->jgt_v0 x=true∧(x.step.kind=1->∀ k:Nat,x.first<=((k:Nat):Int)->((k:Nat):Int) < x.last->aExp (m.c.d.l.getD k eAcc0)<=1))∧(x.ans.e ≠ 0->∀ j,j < 64->x.ans.line j=0)
structure HM (c:Cfg) (m:MchS):Prop where
 d:HD c m.ideal m.c
 sv:∀ x ∈ m.srv,HS m x
theorem HS.mono {m t:MchS} {x:Srv} {z:List Acc} (h:HS m x) (e:t.c.d.l=m.c.d.l ++ z):HS t x:=by
 obtain ⟨⟨h1,h2,h3⟩,h4,h5⟩:=h
 refine ⟨⟨h1,h2,?_⟩,fun q=>⟨(h4 q).1,fun k i hi hj=>?_⟩,h5⟩
 ·rw [e,List.length_append]; omega
 ·have:=(h4 q).2 k i hi hj
  rw [e,List.getD_eq_getElem?_getD,List.getElem?_append_left (by omega),← List.getD_eq_getElem?_getD]
  exact this
theorem HM.step {c:Cfg} (hc:cfgRight_v0 c=true) {m:MchS} (h:HM c m) (dk:DevOk m.c.d) {x:Stp} (hx:StpOk x) (hci:CIn m.c) (hw:∀ a ∈ (mDo_s m x).c.d.l,WA c.mode a):HM c (mDo_s m x):=by
 have hly:=h.d.w.ly
 obtain ⟨z,hz⟩:=(mDo_x m x).d.l
 cases hq:lreq_v0 c x with
 | true =>
   obtain ⟨s1,s2,_⟩:=mDo_req hci hly hq
   obtain ⟨hr,hk,hn,hm⟩:=lreq_t hq
   have hn:Lns c.ly x.line:=hn
   have k1:=right_k hr
   obtain ⟨e1,e2,e3,e4⟩:=mDo_1 (s:=m) hr hk
   have ec:(mDo_s m x).c=bif decide (x.kind=1) then cread_s m.c x.line m.c.le.c.back else (bif decide (x.kind=2) then cMasked_s m.c x.line (arL x.data 64 0) 18446744073709551615 else cMasked_s m.c x.line (arL x.data 64 0) x.mask):=by rw [e1]; exact mReq_c _ _
   have bl:B8 (arL x.data 64 0):=arL_B8 hx.d 64 0
   have mg:∀ q j,j < 64->mgF (m.ideal x.line) (lnOf (arL x.data 64 0)) q j=mgF (m.ideal x.line) x.data q j:=fun q j hj=>by unfold mgF; rw [lnA hj]
   have hold:∀ y ∈ m.srv,HS (mDo_s m x) y:=fun y hy=>(h.sv y hy).mono hz
   have hsv:HD c (mDo_s m x).ideal (mDo_s m x).c∧HS (mDo_s m x) (srvOf m x):=by
    have hfl:(0:Int)<=((m.c.d.l.length:Nat):Int)∧((m.c.d.l.length:Nat):Int)<=(((mDo_s m x).c.d.l.length:Nat):Int)∧(((mDo_s m x).c.d.l.length:Nat):Int)<=(((mDo_s m x).c.d.l.length:Nat):Int):=by rw [hz,List.length_append]; omega
    rcases (by omega:x.kind=1 ∨ x.kind=2 ∨ x.kind=3) with q | q | q
    ·rw [decide_eq_true q,cond_true] at ec
     rw [ec] at hw
     obtain ⟨a,b,d⟩:=h.d.read hc dk hn m.c.le.c.back hw
     have ei:(mDo_s m x).ideal=m.ideal:=by rw [s2]; unfold idOf; rw [decide_eq_false (show ¬ x.kind=2 by omega),decide_eq_false (show ¬ x.kind=3 by omega)]; rfl
     have ea:mDo_v0 m x=((cread_v1 m.c x.line m.c.le.c.back:Nat):Int)∧mDo_v2 m x=cread_v0 m.c x.line m.c.le.c.back:=by
      rw [e2,e4]; unfold mRequest_v0 mRequest_v1; rw [decide_eq_true q]; exact ⟨rfl,rfl⟩
     rw [ei,ec]
     refine ⟨a,hfl,fun hz0=>?_,fun hz0 j hj=>?_⟩
     ·have h0:cread_v1 m.c x.line m.c.le.c.back=0:=by
       have:mDo_v0 m x=0:=hz0
       omega
      obtain ⟨b1,z',b2,b3⟩:=b h0
      constructor
      ·unfold jgt_v0
       show (bif decide (x.kind=1) then eqA (nf (mDo_v2 m x)) (nf (m.ideal x.line)) 64 0 else true)=true
       rw [decide_eq_true q,cond_true]
       refine eqA_iff.2 fun j _ hj=>?_
       show ((mDo_v2 m x j:Nat):Int)=((m.ideal x.line j:Nat):Int)
       rw [ea.2,b1 j (by omega)]
      ·intro _ k hk1 hk2
       have hk1:((m.c.d.l.length:Nat):Int)<=((k:Nat):Int):=hk1
       have hk2:((k:Nat):Int) < (((mDo_s m x).c.d.l.length:Nat):Int):=hk2
       rw [ec,b2,List.length_append] at hk2
       show aExp ((mDo_s m x).c.d.l.getD k eAcc0)<=1
       rw [ec,b2,List.getD_eq_getElem?_getD,List.getElem?_append_right (by omega),← List.getD_eq_getElem?_getD]
       exact b3 _ (gDm eAcc0 (by omega))
     ·have h0:cread_v1 m.c x.line m.c.le.c.back ≠ 0:=fun e=>hz0 (by show mDo_v0 m x=0; rw [ea.1,e]; rfl)
      show mDo_v2 m x j=0
      rw [ea.2,d h0]
    ·rw [decide_eq_false (show ¬ x.kind=1 by omega),decide_eq_true q,cond_false,cond_true] at ec
     rw [ec] at hw
     have ei:(mDo_s m x).ideal=upZ m.ideal x.line (mgF (m.ideal x.line) x.data 18446744073709551615):=by rw [s2]; unfold idOf; rw [decide_eq_true q]; rfl
     have ea:mDo_v2 m x=fun _=>0:=by rw [e4]; unfold mRequest_v1; rw [decide_eq_false (show ¬ x.kind=1 by omega)]; rfl
     rw [ei]
     refine ⟨by rw [ec]; exact h.d.masked hc dk hn bl (by decide) (by decide) hw (mg _),hfl,fun _=>⟨?_,fun e=>?_⟩,fun _ j _=>?_⟩
     ·unfold jgt_v0
      show (bif decide (x.kind=1) then _ else true)=true
      rw [decide_eq_false (show ¬ x.kind=1 by omega)]; rfl
     ·have:x.kind=1:=e
      omega
     ·show mDo_v2 m x j=0
      rw [ea]
    ·rw [decide_eq_false (show ¬ x.kind=1 by omega),decide_eq_false (show ¬ x.kind=2 by omega),cond_false,cond_false] at ec
     rw [ec] at hw
     have ei:(mDo_s m x).ideal=upZ m.ideal x.line (mgF (m.ideal x.line) x.data x.mask):=by rw [s2]; unfold idOf; rw [decide_eq_false (show ¬ x.kind=2 by omega),decide_eq_true q]; rfl
     have ea:mDo_v2 m x=fun _=>0:=by rw [e4]; unfold mRequest_v1; rw [decide_eq_false (show ¬ x.kind=1 by omega)]; rfl
     rw [ei]
     refine ⟨by rw [ec]; exact h.d.masked hc dk hn bl (hm q) hx.m hw (mg _),hfl,fun _=>⟨?_,fun e=>?_⟩,fun _ j _=>?_⟩
     ·unfold jgt_v0
      show (bif decide (x.kind=1) then _ else true)=true
      rw [decide_eq_false (show ¬ x.kind=1 by omega)]; rfl
     ·have:x.kind=1:=e
      omega
     ·show mDo_v2 m x j=0
      rw [ea]
   refine ⟨hsv.1,fun y hy=>?_⟩
   rw [s1] at hy
   rcases List.mem_append.1 hy with hy | hy
   ·exact hold y hy
   ·rw [List.mem_singleton.1 hy]; exact hsv.2
 | false =>
   obtain ⟨s1,s2⟩:=mDo_nreq hly hq
   refine ⟨?_,fun y hy=>by rw [s1] at hy; exact (h.sv y hy).mono hz⟩
   rw [s2]
   rcases lreq_f hq with hb | ⟨hr,k1,k2⟩
   ·rw [(bad_do hly hb).1.c]; exact h.d
   ·obtain ⟨q4,q5,q6,q7,q8⟩:=mDo_k m hr
    rcases (by omega:x.kind=4 ∨ x.kind=5 ∨ x.kind=6 ∨ x.kind=7 ∨ x.kind=8) with q | q | q | q | q
    ·rw [q4 q] at hw ⊢; exact h.d.scrub hc dk hw
    ·rw [q5 q] at hw ⊢; exact h.d.copy hc dk hw
    ·rw [q6 q]
     unfold cTick_s
     obtain ⟨g,hs⟩:=h.d.w.note (x:=⟨2,0,0,0,0,0⟩) (by decide)
     exact bifG (p:=HD c m.ideal) h.d (h.d.same g hs rfl rfl rfl)
    ·rw [q7 q]
     obtain ⟨g,hs⟩:=h.d.w.note (x:=⟨4,0,0,0,0,0⟩) (by decide)
     exact h.d.same g hs rfl rfl rfl
    ·rw [q8 q]
     exact h.d.same (h.d.w.inject x.f) (.refl _) rfl rfl rfl
theorem mW_ok {c:Cfg} {l:List Stp} (h:cfgRight_v0 c=true) (hl:∀ x ∈ l,StpOk x) (hn:l.length<=1000):MchOk 8400000 (mrS (mNewM_s c) l l.length):=(mrS_ok (mNewM_ok h) hl (Nat.le_refl _)).mono (by omega)
theorem mW_x (c:Cfg) (l:List Stp) (i:Nat):MExt (mNewM_s c) (mrS (mNewM_s c) l i):=by
 have h:=mrS_x (mNewM_s c) l 0 i
 rw [Nat.zero_add] at h; exact h
theorem mW_md (c:Cfg) (l:List Stp) (i:Nat):(mrS (mNewM_s c) l i).c.d.d.mode=c.mode:=(mW_x c l i).d.m.trans (ctlN_x c).m
theorem mW_ai {c:Cfg} {l:List Stp} (h:cfgRight_v0 c=true) (hl:∀ x ∈ l,StpOk x):AccIn (mrS (mNewM_s c) l l.length).c.d.l:=mrS_ai (mNewM_ok h) hl (begun_ai h) _ (Nat.le_refl _)
theorem mW_pre (c:Cfg) (l:List Stp) {i:Nat} (hi:i<=l.length):∃ z,(mrS (mNewM_s c) l l.length).c.d.l=(mrS (mNewM_s c) l i).c.d.l ++ z:=by
 have h:=mrS_x (mNewM_s c) l i (l.length - i)
 rw [show i + (l.length - i)=l.length by omega] at h
 exact h.d.l
theorem mem_gD {l:List Acc} {a:Acc} (h:a ∈ l):∃ i,i < l.length∧l.getD i eAcc0=a:=by
 obtain ⟨i,hi,e⟩:=List.getElem_of_mem h
 exact ⟨i,hi,by rw [List.getD_eq_getElem?_getD,List.getElem?_eq_getElem hi,e]; rfl⟩
theorem watched_w {c:Cfg} {m:MchS} (hc:cfgRight_v0 c=true) (md:m.c.d.d.mode=c.mode) (ai:AccIn m.c.d.l) (h:jWatched_v0 m=true):∀ a ∈ m.c.d.l,WA c.mode a:=by
 have hm:=(cfg_t hc).2.1
 unfold jWatched_v0 jreads_r at h
 rw [md] at h
 obtain ⟨h1,h2⟩:=cT h
 have h1:=of_decide_eq_true h1
 rw [wrapN (by omega)] at h1
 have h3:(jrd c.mode m.c.d.l m.c.d.l.length).drop=false∧(jrd c.mode m.c.d.l m.c.d.l.length).tell=true:=by
  cases q:(jrd c.mode m.c.d.l m.c.d.l.length).drop with
  | true=>rw [q] at h2; cases h2
  | false=>rw [q] at h2; exact ⟨rfl,h2⟩
 intro a ha
 obtain ⟨i,hi,rfl⟩:=mem_gD ha
 exact fun hwr=>rd_see ai (show (0:Int)<=1 + c.mode by omega) ⟨h1,h3⟩ i hi hwr
theorem honest_m {c:Cfg} {m:MchS} (h:HM c m) (ai:AccIn m.c.d.l):jHonest_v0 m=true:=by
 have e:hfi m=m.srv.length:=ff_unique (Nat.le_refl _) (fun j hj=>?_) (fun h=>absurd h (Nat.lt_irrefl _))
 ·unfold jHonest_v0
  rw [e,decide_eq_false (Int.lt_irrefl _)]; rfl
 ·obtain ⟨⟨h1,h2,h3⟩,h4,h5⟩:=h.sv _ (gDm eSrv0 hj)
  show hbad m (m.srv.getD j eSrv0)=false
  generalize m.srv.getD j eSrv0=x at *
  unfold hbad
  by_cases q:x.ans.e=0
  ·obtain ⟨a,b⟩:=h4 q
   rw [decide_eq_true q,a,cond_true,cond_true]
   by_cases k:x.step.kind=1
   ·rw [decide_eq_true k,cond_true]
    have hx:(jAt_r m x.first x.last).exp<=1:=by
     unfold jAt_r jcnt
     refine (see_exp ai (by decide)).2 fun i hi _=>b k _ (by omega) (by omega)
    exact decide_eq_false (by omega)
   ·rw [decide_eq_false k]; rfl
  ·rw [decide_eq_false q,cond_false]
   have:eqA (nf x.ans.line) (nf (fun _=>0)) 64 0=true:=eqA_iff.2 fun i _ hi=>by
    show ((x.ans.line i:Nat):Int)=((0:Nat):Int)
    rw [h5 q i (by omega)]
   rw [this]; rfl
theorem hm_0 {c:Cfg} (hc:cfgRight_v0 c=true):HM c (mNewM_s c):=by
 have hw:=begun_gw hc
 refine ⟨⟨hw,begun_cu hc,fun n hn=>⟨fun _=>0,fun _=>(by decide:(0:Nat) < 256),?_,fun _ _ _=>rfl⟩⟩,fun x hx=>by cases hx⟩
 obtain ⟨_,_,hat⟩:=hw.cat hn
 obtain ⟨_,z2,z3⟩:=(begun_c hc).2 _ hat
 show (ctlN c).d.gh (RT (ctlN c).le.rep n)=enc_v0 c.mode (fun _=>0) (RT (ctlN c).le.rep n) (decide ((ctlN c).d.mks (RT (ctlN c).le.rep n)=1))
 rw [z2,z3]; rfl
theorem hm_all {c:Cfg} {l:List Stp} (hc:cfgRight_v0 c=true) (hl:∀ x ∈ l,StpOk x) (hw:∀ a ∈ (mrS (mNewM_s c) l l.length).c.d.l,WA c.mode a):∀ i,i<=l.length->HM c (mrS (mNewM_s c) l i)
 | 0,_=>hm_0 hc
 | i + 1,hi=>by
   obtain ⟨z,hz⟩:=mW_pre c l hi
   exact (hm_all hc hl hw i (by omega)).step hc (mrS_ok (mNewM_ok hc) hl (by omega)).c.d (stp_at hl hi) (mrS_ci hc l i) fun a ha=>hw a (by rw [hz]; exact List.mem_append_left _ ha)
theorem honest_w {c:Cfg} {l:List Stp} (hc:cfgRight_v0 c=true) (hl:∀ x ∈ l,StpOk x) (h:jWatched_v0 (mrS (mNewM_s c) l l.length)=true):jHonest_v0 (mrS (mNewM_s c) l l.length)=true :=
 honest_m (hm_all hc hl (watched_w hc (mW_md c l _) (mW_ai hc hl) h) _ (Nat.le_refl _)) (mW_ai hc hl)
end Go.Proofs.YtfhiggfmkjmeiaaGreat
