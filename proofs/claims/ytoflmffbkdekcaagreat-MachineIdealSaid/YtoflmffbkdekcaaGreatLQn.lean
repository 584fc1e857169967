import Derived.Test.YtoflmffbkdekcaaGreatLQm
namespace Go.Proofs.YtoflmffbkdekcaaGreat
open Go Go.RowKit
set_option linter.unusedVariables false
set_option linter.unusedSimpArgs false
structure IQ (c:Cfg) (s:CtlS):Prop where
  le:s.le=copen_s c
  g:s.d.d.g=c.ly.g
  md:s.d.d.mode=c.mode
  la:s.d.d.la=[]
  co:s.d.d.co=[]
def Z0 (c:Cfg) (s:CtlS) (i:Int):Prop:=s.d.d.c i=enc_v0 c.mode (fun _=>0) i false
structure IG (c:Cfg) (s t:CtlS):Prop where
  i:IQ c t
  z:∀ i,Z0 c s i→Z0 c t i
theorem IG.trans {c:Cfg} {a b d:CtlS} (h:IG c a b) (k:IG c b d):IG c a d:=⟨k.i,fun i hi=>k.z i (h.z i hi)⟩
theorem wr0_q {c:Cfg} {s:CtlS} (h:IQ c s) {r b w k:Nat} (hh:c.ly.g.holds ⟨((r:Nat):Int),((b:Nat):Int),((w:Nat):Int),((k:Nat):Int)⟩=true):IG c s (wr0 s r b w k)∧Z0 c (wr0 s r b w k) (Pl.ix ⟨((r:Nat):Int),((b:Nat):Int),((w:Nat):Int),((k:Nat):Int)⟩):=by
  have hat:s.d.d.g.atE (Pl.ix ⟨((r:Nat):Int),((b:Nat):Int),((w:Nat):Int),((k:Nat):Int)⟩)=0:=by rw [h.g]; exact atE_0 (atB_ix hh)
  unfold wr0
  generalize Pl.ix ⟨((r:Nat):Int),((b:Nat):Int),((w:Nat):Int),((k:Nat):Int)⟩=j at hat ⊢
  have hle:s.le.c=c:=by rw [h.le]; rfl
  have hd:(cput_s s j (fun _=>0) false).d.d={ s.d.d with c:=upZ s.d.d.c j (enc_v0 c.mode (fun _=>0) j false) }:=by
    show (vput_s s.d j (enc_v0 s.le.c.mode (fun _=>0) j false) 0).d=_
    rw [hle]; exact put_0 h.co hat
  refine ⟨⟨⟨h.le,by rw [hd]; exact h.g,by rw [hd]; exact h.md,by rw [hd]; exact h.la,by rw [hd]; exact h.co⟩,fun i hi=>?_⟩,?_⟩
  · unfold Z0 at hi ⊢
    rw [hd]
    show upZ s.d.d.c j _ i=_
    unfold upZ
    by_cases e:i=j
    · subst e; rw [if_pos rfl]
    · rw [if_neg e]; exact hi
  · unfold Z0
    rw [hd]
    show upZ s.d.d.c j _ j=_
    unfold upZ
    rw [if_pos rfl]
theorem nwC_q {c:Cfg} {s:CtlS} (h:IQ c s) {r b w:Nat}:∀ C,(∀ k,k < C→c.ly.g.holds ⟨((r:Nat):Int),((b:Nat):Int),((w:Nat):Int),((k:Nat):Int)⟩=true)→IG c s (nwC s r b w C)∧∀ k,k < C→Z0 c (nwC s r b w C) (Pl.ix ⟨((r:Nat):Int),((b:Nat):Int),((w:Nat):Int),((k:Nat):Int)⟩)
  | 0,_=>⟨⟨h,fun i hi=>hi⟩,fun k hk=>absurd hk (Nat.not_lt_zero k)⟩
  | C + 1,hh=>by
    obtain ⟨a,z⟩:=nwC_q h C fun k hk=>hh k (by omega)
    obtain ⟨a',z'⟩:=wr0_q a.i (hh C (by omega))
    refine ⟨a.trans a',fun k hk=>?_⟩
    by_cases e:k=C
    · subst e; exact z'
    · exact a'.z _ (z k (by omega))
theorem nwW_q {c:Cfg} {s:CtlS} (h:IQ c s) {r b C:Nat}:∀ W,(∀ w,w < W→∀ k,k < C→c.ly.g.holds ⟨((r:Nat):Int),((b:Nat):Int),((w:Nat):Int),((k:Nat):Int)⟩=true)→IG c s (nwW s r b C W)∧∀ w,w < W→∀ k,k < C→Z0 c (nwW s r b C W) (Pl.ix ⟨((r:Nat):Int),((b:Nat):Int),((w:Nat):Int),((k:Nat):Int)⟩)
  | 0,_=>⟨⟨h,fun i hi=>hi⟩,fun k hk=>absurd hk (Nat.not_lt_zero k)⟩
  | W + 1,hh=>by
    obtain ⟨a,z⟩:=nwW_q h W fun w hw=>hh w (by omega)
    obtain ⟨a',z'⟩:=nwC_q a.i C (hh W (by omega))
    refine ⟨a.trans a',fun w hw k hk=>?_⟩
    by_cases e:w=W
    · subst e; exact z' k hk
    · exact a'.z _ (z w (by omega) k hk)
theorem nwB_q {c:Cfg} {s:CtlS} (h:IQ c s) {r W C:Nat}:∀ B,(∀ b,b < B→∀ w,w < W→∀ k,k < C→c.ly.g.holds ⟨((r:Nat):Int),((b:Nat):Int),((w:Nat):Int),((k:Nat):Int)⟩=true)→IG c s (nwB s r W C B)∧∀ b,b < B→∀ w,w < W→∀ k,k < C→Z0 c (nwB s r W C B) (Pl.ix ⟨((r:Nat):Int),((b:Nat):Int),((w:Nat):Int),((k:Nat):Int)⟩)
  | 0,_=>⟨⟨h,fun i hi=>hi⟩,fun k hk=>absurd hk (Nat.not_lt_zero k)⟩
  | B + 1,hh=>by
    obtain ⟨a,z⟩:=nwB_q h B fun w hw=>hh w (by omega)
    obtain ⟨a',z'⟩:=nwW_q a.i W (hh B (by omega))
    refine ⟨a.trans a',fun b hb w hw k hk=>?_⟩
    by_cases e:b=B
    · subst e; exact z' w hw k hk
    · exact a'.z _ (z b (by omega) w hw k hk)
theorem nwR_q {c:Cfg} {s:CtlS} (h:IQ c s) {B W C:Nat}:∀ R,(∀ r,r < R→∀ b,b < B→∀ w,w < W→∀ k,k < C→c.ly.g.holds ⟨((r:Nat):Int),((b:Nat):Int),((w:Nat):Int),((k:Nat):Int)⟩=true)→IG c s (nwR s B W C R)∧∀ r,r < R→∀ b,b < B→∀ w,w < W→∀ k,k < C→Z0 c (nwR s B W C R) (Pl.ix ⟨((r:Nat):Int),((b:Nat):Int),((w:Nat):Int),((k:Nat):Int)⟩)
  | 0,_=>⟨⟨h,fun i hi=>hi⟩,fun k hk=>absurd hk (Nat.not_lt_zero k)⟩
  | R + 1,hh=>by
    obtain ⟨a,z⟩:=nwR_q h R fun w hw=>hh w (by omega)
    obtain ⟨a',z'⟩:=nwB_q a.i B (hh R (by omega))
    refine ⟨a.trans a',fun r hr b hb w hw k hk=>?_⟩
    by_cases e:r=R
    · subst e; exact z' b hb w hw k hk
    · exact a'.z _ (z r (by omega) b hb w hw k hk)
theorem ctlN_q {c:Cfg} (hc:cfgRight_v0 c=true):QC c (fun _ _=>0) (ctlN c):=by
  have hr:=(cfg_t hc).1
  have hl:=ly_rt hr
  have hg:=Gm.rt hl.1
  have h0:IQ c (ctl0 c):=⟨rfl,rfl,rfl,rfl,rfl⟩
  obtain ⟨a,z⟩:=nwR_q h0 (B:=cB c) (W:=cW c) (C:=cC c) (cRk c) fun r h1 b h2 w h3 k h4=>holds_of hl.1 ⟨by show (0:Int)≤((r:Nat):Int); omega,by show ((r:Nat):Int) < _; unfold cRk at h1; omega⟩ ⟨by show (0:Int)≤((b:Nat):Int); omega,by show ((b:Nat):Int) < _; unfold cB at h2; omega⟩ ⟨by show (0:Int)≤((w:Nat):Int); omega,by show ((w:Nat):Int) < _; unfold cW at h3; omega⟩ ⟨by show (0:Int)≤((k:Nat):Int); omega,by show ((k:Nat):Int) < _; unfold cC at h4; omega⟩
  have a:IQ c (ctlN c):=a.i
  refine ⟨⟨by rw [a.le]; rfl,by rw [a.le]; rfl,by rw [a.le]; rfl⟩,a.g,a.md,a.la,a.co,fun n hn=>⟨fun _=>0,fun _=>(by decide:(0:Nat) < 256),fun _ _=>rfl,?_⟩⟩
  obtain ⟨i1,i2,_⟩:=ixl_eq hr hn
  obtain ⟨_,q1,q2,q3,q4⟩:=holds_t i2
  rw [i1]
  have hz:=z (plN0 c.ly n).rank.toNat (by unfold cRk; omega) (plN0 c.ly n).bank.toNat (by unfold cB; omega) (plN0 c.ly n).row.toNat (by unfold cW; omega) (plN0 c.ly n).col.toNat (by unfold cC; omega)
  have e:(⟨(((plN0 c.ly n).rank.toNat:Nat):Int),(((plN0 c.ly n).bank.toNat:Nat):Int),(((plN0 c.ly n).row.toNat:Nat):Int),(((plN0 c.ly n).col.toNat:Nat):Int)⟩:Pl)=plN0 c.ly n:=by
    generalize plN0 c.ly n=p at q1 q2 q3 q4 ⊢
    obtain ⟨x1,x2,x3,x4⟩:=p
    simp only at q1 q2 q3 q4
    simp only [Pl.mk.injEq]
    omega
  rw [e] at hz
  exact hz
theorem QC.do {c:Cfg} {s:MchS} {x:Stp} (hc:cfgRight_v0 c=true) (h:QC c s.ideal s.c) (hx:StpOk x) (hq:lreq_v0 c x=true):QC c (mDo_s s x).ideal (mDo_s s x).c∧mDo_v0 s x=0∧mDo_v1 s x=0∧(x.kind=1→(mDo_s s x).ideal=s.ideal∧∀ j,j < 64→mDo_v2 s x j=s.ideal x.line j):=by
  obtain ⟨hr,hk,hn,hm⟩:=lreq_t hq
  have k1:=right_k hr
  obtain ⟨e1,e2,e3,e4⟩:=mDo_1 (s:=s) hr hk
  have hl:∀ j,j < 64→lnOf (arL x.data 64 0) j=x.data j:=fun j hj=>by
    show (arL x.data 64 0).getD j 0=_
    rw [arL_at,if_pos hj,Nat.zero_add]
  have mg:∀ m j,j < 64→mgF (s.ideal x.line) (lnOf (arL x.data 64 0)) m j=mgF (s.ideal x.line) x.data m j:=fun m j hj=>by unfold mgF; rw [hl j hj]
  rw [e1,e2,e3,e4]
  unfold mRequest_s mRequest_v0 mRequest_v1
  rcases (by omega:x.kind=1 ∨ x.kind=2 ∨ x.kind=3) with q | q | q
  · obtain ⟨a1,a2,a3⟩:=h.read hc hn s.c.le.c.back
    rw [decide_eq_true q,decide_eq_false (show ¬ ((cread_v1 s.c x.line s.c.le.c.back:Nat):Int)=30 by rw [a2]; decide)]
    exact ⟨a1,by show ((cread_v1 s.c x.line s.c.le.c.back:Nat):Int)=0; rw [a2]; rfl,rfl,fun _=>⟨rfl,a3⟩⟩
  · obtain ⟨a1,a2⟩:=h.masked hc hn (arL_B8 hx.d 64 0) (m:=18446744073709551615) (by decide) (by decide) (mg _)
    rw [decide_eq_false (show ¬ x.kind=1 by omega),decide_eq_true q,decide_eq_false (show ¬ ((cMasked_v0 s.c x.line (arL x.data 64 0) 18446744073709551615:Nat):Int)=30 by rw [a2]; decide)]
    exact ⟨a1,by show ((cMasked_v0 s.c x.line (arL x.data 64 0) 18446744073709551615:Nat):Int)=0; rw [a2]; rfl,rfl,fun h=>by omega⟩
  · obtain ⟨a1,a2⟩:=h.masked hc hn (arL_B8 hx.d 64 0) (hm q) hx.m (mg _)
    rw [decide_eq_false (show ¬ x.kind=1 by omega),decide_eq_false (show ¬ x.kind=2 by omega),decide_eq_false (show ¬ ((cMasked_v0 s.c x.line (arL x.data 64 0) x.mask:Nat):Int)=30 by rw [a2]; decide)]
    exact ⟨a1,by show ((cMasked_v0 s.c x.line (arL x.data 64 0) x.mask:Nat):Int)=0; rw [a2]; rfl,rfl,fun h=>by omega⟩
end Go.Proofs.YtoflmffbkdekcaaGreat
