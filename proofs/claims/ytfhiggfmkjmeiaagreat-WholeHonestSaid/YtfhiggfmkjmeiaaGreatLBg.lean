import Derived.Test.YtfhiggfmkjmeiaaGreatLNj
import Derived.Test.YtfhiggfmkjmeiaaGreatLCl
import Derived.Test.YtfhiggfmkjmeiaaGreatLSv
import Derived.Test.YtfhiggfmkjmeiaaGreatLOp
set_option linter.unusedVariables false
set_option linter.unusedSimpArgs false
set_option linter.unusedSectionVars false
namespace Go.Proofs.YtfhiggfmkjmeiaaGreat
open Go Go.RowKit
theorem went_0 {d:DramS} (h:d.co=[]) (i:Int):dWent_s d i=d∧dWent_v0 d i=i∧dWent_v1 d i=false:=by
 unfold dWent_s dWent_v0 dWent_v1
 rw [h]; exact ⟨rfl,rfl,rfl⟩
theorem put_0 {s:DevS} (hc:s.d.co=[]) {i m:Int} {r:Nat->Nat} (h:s.d.g.atE i=0):(vput_s s i r m).d={ s.d with c:=upZ s.d.c i r }:=by
 obtain ⟨w1,w2,w3⟩:=went_0 hc i
 have e:dWrite_v2 s.d i r=0:=by unfold dWrite_v2; rw [h]; rfl
 have hd:dWrite_s s.d i r={ s.d with c:=upZ s.d.c i r }:=by
  unfold dWrite_s
  rw [h,w3,w1,w2]; rfl
 unfold vput_s
 rw [e,hd]; rfl
theorem wt_of {x k:Nat} (h1:clrs x k=0) (h2:∀ i,i < k->clrs x i ≠ 0):wt x=k:=by
 rcases Nat.lt_trichotomy (wt x) k with h | h | h
 ·exact absurd (wt_end x) (h2 _ h)
 ·exact h
 ·exact absurd h1 (wt_ne h)
theorem wt_two (y:Nat):wt (2 * y)=wt y:=wt_of (by rw [clrs_two,wt_end]) fun i hi=>by rw [clrs_two]; have:=wt_ne hi; omega
theorem wt_odd (y:Nat):wt (2 * y + 1)=wt y + 1:=by
 refine wt_of (by rw [clrs_succ,clr_odd,clrs_two,wt_end]) fun i hi=>?_
 cases i with
 | zero=>rw [clrs]; omega
 | succ i=>rw [clrs_succ,clr_odd,clrs_two]; have:=wt_ne (x:=y) (i:=i) (by omega); omega
theorem wt_full:∀ {n x:Nat},x < 2 ^ n->wt x=n->x=2 ^ n - 1
 | 0,x,h,_=>by simp at h; subst h; rfl
 | n + 1,x,h,hw=>by
   have hp:0 < 2 ^ n:=Nat.pos_of_ne_zero (by simp)
   have h1:x / 2 < 2 ^ n:=by rw [Nat.pow_succ] at h; omega
   have hl:=wt_le h1
   rcases Nat.mod_two_eq_zero_or_one x with h2 | h2
   ·rw [show x=2 * (x / 2) by omega,wt_two] at hw; omega
   ·have e:x=2 * (x / 2) + 1:=by omega
    rw [e,wt_odd] at hw
    have ih:=wt_full h1 (by omega)
    rw [Nat.pow_succ]; omega
theorem hv_one {n j:Nat} (h:j < n):hv (2 ^ n - 1) j % 2=1:=by
 have hp:0 < 2 ^ (n - j):=Nat.pos_of_ne_zero (by simp)
 have hq:0 < 2 ^ j:=Nat.pos_of_ne_zero (by simp)
 rw [hv_eq]
 have e:2 ^ n=2 ^ j * 2 ^ (n - j):=by rw [← Nat.pow_add]; congr 1; omega
 have e2:2 ^ n - 1=2 ^ j * (2 ^ (n - j) - 1) + (2 ^ j - 1):=by
  rw [Nat.mul_sub,Nat.mul_one,← e]
  have:2 ^ j<=2 ^ n:=Nat.pow_le_pow_right (by decide) (by omega)
  omega
 rw [e2,Nat.mul_add_div hq,Nat.div_eq_of_lt (by omega),Nat.add_zero]
 have e3:2 ^ (n - j)=2 * 2 ^ (n - j - 1):=by rw [Nat.mul_comm,← Nat.pow_succ]; congr 1; omega
 omega
theorem mg_full {a o:Nat->Nat} {m:Nat} (hm:m < 18446744073709551616) (hw:wt m=64) {j:Nat} (hj:j < 64):mgF a o m j=o j:=by
 have e:=wt_full (n:=64) hm hw
 unfold mgF
 rw [e,decide_eq_true (by have:=hv_one (n:=64) hj; omega)]; rfl
section
variable {c:Cfg} {I:CtlS->Prop} {Z:CtlS->Int->Prop} (st:∀ s (p:Pl),I s->c.ly.g.holds p=true->I (cput_s s p.ix (fun _=>0) false)∧Z (cput_s s p.ix (fun _=>0) false) p.ix∧∀ i,Z s i->Z (cput_s s p.ix (fun _=>0) false) i)
include st
theorem nwC_a {s:CtlS} (h:I s) {r b w:Nat}:∀ C,(∀ k,k < C->c.ly.g.holds ⟨((r:Nat):Int),((b:Nat):Int),((w:Nat):Int),((k:Nat):Int)⟩=true)->I (nwC s r b w C)∧(∀ i,Z s i->Z (nwC s r b w C) i)∧∀ k,k < C->Z (nwC s r b w C) (Pl.ix ⟨((r:Nat):Int),((b:Nat):Int),((w:Nat):Int),((k:Nat):Int)⟩)
 | 0,_=>⟨h,fun i hi=>hi,fun k hk=>absurd hk (Nat.not_lt_zero k)⟩
 | C + 1,hh=>by
   obtain ⟨a,m,z⟩:=nwC_a h C fun k hk=>hh k (by omega)
   obtain ⟨a',z',m'⟩:=st _ _ a (hh C (by omega))
   refine ⟨a',fun i hi=>m' i (m i hi),fun k hk=>?_⟩
   by_cases e:k=C
   ·subst e; exact z'
   ·exact m' _ (z k (by omega))
theorem nwW_a {s:CtlS} (h:I s) {r b C:Nat}:∀ W,(∀ w,w < W->∀ k,k < C->c.ly.g.holds ⟨((r:Nat):Int),((b:Nat):Int),((w:Nat):Int),((k:Nat):Int)⟩=true)->I (nwW s r b C W)∧(∀ i,Z s i->Z (nwW s r b C W) i)∧∀ w,w < W->∀ k,k < C->Z (nwW s r b C W) (Pl.ix ⟨((r:Nat):Int),((b:Nat):Int),((w:Nat):Int),((k:Nat):Int)⟩)
 | 0,_=>⟨h,fun i hi=>hi,fun k hk=>absurd hk (Nat.not_lt_zero k)⟩
 | W + 1,hh=>by
   obtain ⟨a,m,z⟩:=nwW_a h W fun w hw=>hh w (by omega)
   obtain ⟨a',m',z'⟩:=nwC_a st a C (hh W (by omega))
   refine ⟨a',fun i hi=>m' i (m i hi),fun w hw k hk=>?_⟩
   by_cases e:w=W
   ·subst e; exact z' k hk
   ·exact m' _ (z w (by omega) k hk)
theorem nwB_a {s:CtlS} (h:I s) {r W C:Nat}:∀ B,(∀ b,b < B->∀ w,w < W->∀ k,k < C->c.ly.g.holds ⟨((r:Nat):Int),((b:Nat):Int),((w:Nat):Int),((k:Nat):Int)⟩=true)->I (nwB s r W C B)∧(∀ i,Z s i->Z (nwB s r W C B) i)∧∀ b,b < B->∀ w,w < W->∀ k,k < C->Z (nwB s r W C B) (Pl.ix ⟨((r:Nat):Int),((b:Nat):Int),((w:Nat):Int),((k:Nat):Int)⟩)
 | 0,_=>⟨h,fun i hi=>hi,fun k hk=>absurd hk (Nat.not_lt_zero k)⟩
 | B + 1,hh=>by
   obtain ⟨a,m,z⟩:=nwB_a h B fun w hw=>hh w (by omega)
   obtain ⟨a',m',z'⟩:=nwW_a st a W (hh B (by omega))
   refine ⟨a',fun i hi=>m' i (m i hi),fun b hb w hw k hk=>?_⟩
   by_cases e:b=B
   ·subst e; exact z' w hw k hk
   ·exact m' _ (z b (by omega) w hw k hk)
theorem nwR_a {s:CtlS} (h:I s) {B W C:Nat}:∀ R,(∀ r,r < R->∀ b,b < B->∀ w,w < W->∀ k,k < C->c.ly.g.holds ⟨((r:Nat):Int),((b:Nat):Int),((w:Nat):Int),((k:Nat):Int)⟩=true)->I (nwR s B W C R)∧(∀ i,Z s i->Z (nwR s B W C R) i)∧∀ r,r < R->∀ b,b < B->∀ w,w < W->∀ k,k < C->Z (nwR s B W C R) (Pl.ix ⟨((r:Nat):Int),((b:Nat):Int),((w:Nat):Int),((k:Nat):Int)⟩)
 | 0,_=>⟨h,fun i hi=>hi,fun k hk=>absurd hk (Nat.not_lt_zero k)⟩
 | R + 1,hh=>by
   obtain ⟨a,m,z⟩:=nwR_a h R fun w hw=>hh w (by omega)
   obtain ⟨a',m',z'⟩:=nwB_a st a B (hh R (by omega))
   refine ⟨a',fun i hi=>m' i (m i hi),fun r hr b hb w hw k hk=>?_⟩
   by_cases e:r=R
   ·subst e; exact z' b hb w hw k hk
   ·exact m' _ (z r (by omega) b hb w hw k hk)
theorem ctlN_a (hc:cfgRight_v0 c=true) (h:I (ctl0 c)):I (ctlN c)∧∀ i,c.ly.g.atB i=true->Z (ctlN c) i:=by
 have hl:=ly_rt (cfg_t hc).1
 have hg:=Gm.rt hl.1
 obtain ⟨a,_,z⟩:=nwR_a st h (B:=cB c) (W:=cW c) (C:=cC c) (cRk c) fun r h1 b h2 w h3 k h4=>holds_of hl.1 ⟨by show (0:Int)<=((r:Nat):Int); omega,by show ((r:Nat):Int) < _; unfold cRk at h1; omega⟩ ⟨by show (0:Int)<=((b:Nat):Int); omega,by show ((b:Nat):Int) < _; unfold cB at h2; omega⟩ ⟨by show (0:Int)<=((w:Nat):Int); omega,by show ((w:Nat):Int) < _; unfold cW at h3; omega⟩ ⟨by show (0:Int)<=((k:Nat):Int); omega,by show ((k:Nat):Int) < _; unfold cC at h4; omega⟩
 refine ⟨a,fun i hi=>?_⟩
 unfold Gm.atB at hi
 simp only [Bool.and_eq_true] at hi
 obtain ⟨h1,h2⟩:=hi
 have h1:0<=i:=by
  rcases Int.lt_or_le i 0 with q | q
  ·rw [decide_eq_true q] at h1; cases h1
  ·exact q
 obtain ⟨_,q1,q2,q3,q4⟩:=holds_t h2
 have hr:(plOf i).rank=i / 1048576:=by
  unfold plOf
  show i.fdiv (2 ^ 20)=_
  rw [Int.fdiv_eq_ediv_of_nonneg _ (by decide)]; rfl
 have hi2:0<=i∧i < 16777216:=by omega
 obtain ⟨p1,p2,p3,p4⟩:=holds_16 h2
 have hx:=ix_eq p1 p2 p3 p4
 have he:=plOf_eq hi2
 have hz:=z (plOf i).rank.toNat (by unfold cRk; omega) (plOf i).bank.toNat (by unfold cB; omega) (plOf i).row.toNat (by unfold cW; omega) (plOf i).col.toNat (by unfold cC; omega)
 have e:(⟨(((plOf i).rank.toNat:Nat):Int),(((plOf i).bank.toNat:Nat):Int),(((plOf i).row.toNat:Nat):Int),(((plOf i).col.toNat:Nat):Int)⟩:Pl)=plOf i:=by
  generalize plOf i=p at q1 q2 q3 q4 ⊢
  obtain ⟨x1,x2,x3,x4⟩:=p
  simp only at q1 q2 q3 q4
  simp only [Pl.mk.injEq]
  omega
 rw [e,hx,he] at hz
 have e2:(⟨i / 1048576,i / 65536 % 16,i / 64 % 1024,i % 64⟩:Pl).rank * 1048576 + (⟨i / 1048576,i / 65536 % 16,i / 64 % 1024,i % 64⟩:Pl).bank * 65536 + (⟨i / 1048576,i / 65536 % 16,i / 64 % 1024,i % 64⟩:Pl).row * 64 + (⟨i / 1048576,i / 65536 % 16,i / 64 % 1024,i % 64⟩:Pl).col=i:=by
  show i / 1048576 * 1048576 + i / 65536 % 16 * 65536 + i / 64 % 1024 * 64 + i % 64=i
  omega
 rw [e2] at hz
 exact hz
end
structure IB (c:Cfg) (s:CtlS):Prop where
 le:s.le=copen_s c
 g:s.d.d.g=c.ly.g
 md:s.d.d.mode=c.mode
 la:s.d.d.la=[]
 co:s.d.d.co=[]
 cur:s.cur=0
 nt:s.notes=[]
 wr:∀ a ∈ s.d.l,a.write=true∧¬ stray a∧a.exp=0∧a.mark=false
def ZB (c:Cfg) (s:CtlS) (i:Int):Prop:=s.d.d.c i=enc_v0 c.mode (fun _=>0) i false∧s.d.gh i=enc_v0 c.mode (fun _=>0) i false∧s.d.mks i=0
theorem begun_c {c:Cfg} (hc:cfgRight_v0 c=true):IB c (ctlN c)∧∀ i,c.ly.g.atB i=true->ZB c (ctlN c) i:=by
 refine ctlN_a (I:=IB c) (Z:=ZB c) (fun s p h hp=>?_) hc ⟨rfl,rfl,rfl,rfl,rfl,rfl,rfl,fun a ha=>by cases ha⟩
 have hat:s.d.d.g.atE p.ix=0:=by rw [h.g]; exact atE_0 (atB_ix hp)
 have hle:s.le.c=c:=by rw [h.le]; rfl
 generalize p.ix=j at hat ⊢
 have hd:=vput_a (s:=s.d) (m:=0) (r:=enc_v0 c.mode (fun _=>0) j false) hat
 have hd0:=put_0 (s:=s.d) (m:=0) (r:=enc_v0 c.mode (fun _=>0) j false) h.co hat
 have e:cput_s s j (fun _=>0) false={ s with d:=vput_s s.d j (enc_v0 c.mode (fun _=>0) j false) 0 }:=by
  unfold cput_s; rw [hle]; rfl
 obtain ⟨w1,w2,w3⟩:=went_0 h.co j
 have ew:dWrite_v0 s.d.d j (enc_v0 c.mode (fun _=>0) j false)=j∧dWrite_v1 s.d.d j (enc_v0 c.mode (fun _=>0) j false)=false:=by
  unfold dWrite_v0 dWrite_v1; rw [hat,w2,w3]; exact ⟨rfl,rfl⟩
 rw [e]
 have hdd:({ s with d:=vput_s s.d j (enc_v0 c.mode (fun _=>0) j false) 0 }:CtlS).d.d={ s.d.d with c:=upZ s.d.d.c j (enc_v0 c.mode (fun _=>0) j false) }:=hd0
 refine ⟨⟨h.le,by rw [hdd]; exact h.g,by rw [hdd]; exact h.md,by rw [hdd]; exact h.la,by rw [hdd]; exact h.co,h.cur,h.nt,fun a ha=>?_⟩,?_,fun i hi=>?_⟩
 ·have ha:a ∈ (vput_s s.d j (enc_v0 c.mode (fun _=>0) j false) 0).l:=ha
  rw [hd] at ha
  rcases List.mem_append.1 ha with ha | ha
  ·exact h.wr a ha
  ·rw [List.mem_singleton.1 ha]
   refine ⟨rfl,?_,rfl,rfl⟩
   unfold stray wrA
   rw [ew.1,ew.2]
   rintro (x | x)
   ·cases x
   ·exact x rfl
 ·unfold ZB
  rw [hdd]
  show upZ s.d.d.c j _ j=_∧(vput_s s.d j _ 0).gh j=_∧(vput_s s.d j _ 0).mks j=0
  rw [hd]
  show upZ s.d.d.c j _ j=_∧upZ s.d.gh j _ j=_∧upZ s.d.mks j _ j=0
  unfold upZ
  rw [if_pos rfl,if_pos rfl,if_pos rfl]; exact ⟨rfl,rfl,rfl⟩
 ·unfold ZB at hi ⊢
  rw [hdd]
  show upZ s.d.d.c j _ i=_∧(vput_s s.d j _ 0).gh i=_∧(vput_s s.d j _ 0).mks i=0
  rw [hd]
  show upZ s.d.d.c j _ i=_∧upZ s.d.gh j _ i=_∧upZ s.d.mks j _ i=0
  unfold upZ
  by_cases e2:i=j
  ·subst e2; rw [if_pos rfl,if_pos rfl,if_pos rfl]; exact ⟨rfl,rfl,rfl⟩
  ·rw [if_neg e2,if_neg e2,if_neg e2]; exact hi
theorem begun_gw {c:Cfg} (hc:cfgRight_v0 c=true):GW c (ctlN c):=by
 obtain ⟨a,z⟩:=begun_c hc
 refine ⟨by rw [a.le]; exact rpNew_ri (cfg_t hc).1,by rw [a.le]; rfl,by rw [a.le]; rfl,a.g,a.md,fun i hi=>⟨fun _=>0,fun _=>(by decide:(0:Nat) < 256),?_⟩⟩
 obtain ⟨_,z2,z3⟩:=z i hi
 rw [z2,z3]; rfl
theorem begun_cu {c:Cfg} (hc:cfgRight_v0 c=true):Lns c.ly (ctlN c).cur:=by
 have hl:=ly_rt (cfg_t hc).1
 rw [(begun_c hc).1.cur]
 unfold Lns
 have:=Int.mul_pos (a:=lySeen_v0 c.ly) (b:=c.ly.g.cols) (by omega) (by omega)
 omega
theorem begun_ai {c:Cfg} (hc:cfgRight_v0 c=true):AccIn (ctlN c).d.l:=fun i=>by
 rcases Nat.lt_or_ge i (ctlN c).d.l.length with q | q
 ·have h:=(begun_c hc).1.wr _ (gDm eAcc0 q)
  rw [h.2.2.1]; exact ⟨Int.le_refl _,by decide⟩
 ·rw [List.getD_eq_getElem?_getD,List.getElem?_eq_none q]; exact ⟨Int.le_refl _,by decide⟩
theorem vRead_ai {s:DevS} {i:Int} (ok:DevOk s) (h:AccIn s.l):AccIn (vRead_s s i).l:=by
 have hx:∀ m q,(0:Int)<=((exposure_v0 m (dRead_v0 s.d i) (s.gh q):Nat):Int)∧((exposure_v0 m (dRead_v0 s.d i) (s.gh q):Nat):Int)<=100:=fun m q=>by
  have:=expo_le (m:=m) (fun j=>dRead_lt ok.d (i:=i) j) (ok.gh q)
  omega
 unfold vRead_s
 exact bifG (p:=fun t:DevS=>AccIn t.l) (bifG (p:=fun t:DevS=>AccIn t.l) (h.app (hx _ _)) (h.app (hx _ _))) h
theorem vput_ai {s:DevS} {i m:Int} {r:Nat->Nat} (h:AccIn s.l):AccIn (vput_s s i r m).l:=by
 unfold vput_s
 exact bifG (p:=fun t:DevS=>AccIn t.l) (h.app ⟨Int.le_refl _,show (0:Int)<=100 by decide⟩) h
theorem cput_ai {s:CtlS} {i:Int} {l:Nat->Nat} {b:Bool} (h:AccIn s.d.l):AccIn (cput_s s i l b).d.l:=by
 unfold cput_s
 exact bifG (p:=fun t:CtlS=>AccIn t.d.l) (vput_ai h) (vput_ai h)
theorem ctake_ai {s:CtlS} {i a b:Int} (ok:DevOk s.d) (h:AccIn s.d.l):AccIn (ctake_s s i a b).d.l:=vRead_ai ok h
theorem cread_ai {s:CtlS} {n:Int} {b:Bool} (ok:DevOk s.d) (h:AccIn s.d.l):AccIn (cread_s s n b).d.l:=by
 let p:=fun t:CtlS=>AccIn t.d.l
 have ht:p (ctake_s s (cat_v0 s n) (cat_v1 s n) (cat_v2 s n)):=ctake_ai ok h
 unfold cread_s
 exact bifG (p:=p) (bifG (p:=p) (bifG (p:=p) (cput_ai ht) ht) ht) h
theorem cMasked_ai {s:CtlS} {n:Int} {l:List Nat} {m:Nat} (ok:DevOk s.d) (h:AccIn s.d.l):AccIn (cMasked_s s n l m).d.l:=by
 let p:=fun t:CtlS=>AccIn t.d.l
 have ht:p (ctake_s s (cat_v0 s n) (cat_v1 s n) (cat_v2 s n)):=ctake_ai ok h
 unfold cMasked_s
 exact bifG (p:=p) (bifG (p:=p) h (bifG (p:=p) (cput_ai h) (bifG (p:=p) (cput_ai ht) (cput_ai ht)))) h
theorem mDo_ai {m:MchS} {x:Stp} (ok:DevOk m.c.d) (h:AccIn m.c.d.l):AccIn (mDo_s m x).c.d.l:=by
 let p:=fun t:MchS=>AccIn t.c.d.l
 have hr:p (mRequest_s { m with steps:=IntKind.i64.wrap (m.steps + 1) } x):=by
  show AccIn _
  rw [mReq_c]
  exact bifG (p:=fun t:CtlS=>AccIn t.d.l) (cread_ai ok h) (bifG (p:=fun t:CtlS=>AccIn t.d.l) (cMasked_ai ok h) (cMasked_ai ok h))
 have hi:p (mInject_s { m with steps:=IntKind.i64.wrap (m.steps + 1) } x.f):=by unfold mInject_s; exact bifG (p:=p) h h
 have hc:AccIn (cCopy_s m.c).d.l:=by
  unfold cCopy_s
  refine bifG (p:=fun t:CtlS=>AccIn t.d.l) ?_ h
  show AccIn (ccopy_j1 m.c).d.l
  unfold ccopy_j1
  exact bifG (p:=fun t:CtlS=>AccIn t.d.l) (cput_ai (ctake_ai ok h)) (cput_ai h)
 have hs:AccIn (cScrub_s m.c).d.l:=cread_ai ok h
 have ht:AccIn (cTick_s m.c).d.l:=by unfold cTick_s; exact bifG (p:=fun t:CtlS=>AccIn t.d.l) h h
 unfold mDo_s
 exact bifG (p:=p) (bifG (p:=p) hs (bifG (p:=p) hc (bifG (p:=p) ht (bifG (p:=p) h (bifG (p:=p) hi hr))))) h
theorem mrS_ai {m:MchS} {l:List Stp} {n:Nat} (hm:MchOk n m) (hl:∀ x ∈ l,StpOk x) (h:AccIn m.c.d.l):∀ i,i<=l.length->AccIn (mrS m l i).c.d.l
 | 0,_=>h
 | i + 1,hi=>mDo_ai (mrS_ok hm hl (Nat.le_of_succ_le hi)).c.d (mrS_ai hm hl h i (Nat.le_of_succ_le hi))
end Go.Proofs.YtfhiggfmkjmeiaaGreat
