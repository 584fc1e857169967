import Derived.Test.YtfhiggfmkjmeiaaGreatLNj
import Derived.Test.YtfhiggfmkjmeiaaGreatLCl
import Derived.Test.YtfhiggfmkjmeiaaGreatLSv
import Derived.Test.YtfhiggfmkjmeiaaGreatLOp
set_option linter.all false
namespace Go.Proofs.YtfhiggfmkjmeiaaGreat
open Go Go.RowKit
theorem A73 {d:DramS} (h:d.co=[]) (i:Int):Eg d i=d/\E8 d i=i/\G4 d i=false:=by
 unfold Eg E8 G4
 rw [h]; exact ⟨rfl,rfl,rfl⟩
theorem B27 (m:Int) (x:Pl) (r:Nat->Nat):Gb m [] x r=r:=by
 unfold Gb
 exact Ad (p:=fun f:Nat->Nat=>f=r) rfl rfl
theorem B0n {s:DevS} (hc:s.d.co=[]) {i m:Int} {r:Nat->Nat} (h:s.d.g.atE i=0):(Df s i r m).d={ s.d with c:=upZ s.d.c i r }:=by
 obtain ⟨w1,w2,w3⟩:=A73 hc i
 have e:Eh s.d i r=0:=by unfold Eh; rw [h]; rfl
 have hd:E9 s.d i r={ s.d with c:=upZ s.d.c i r }:=by
  unfold E9
  rw [h,w3,w1,w2]; rfl
 unfold Df
 rw [e,hd]; rfl
section
variable {c:Cfg} {I:CtlS->Prop} {Z:CtlS->Int->Prop} (st:∀ s (p:Pl),I s->c.ly.g.holds p=true->I (As s p.ix (fun _=>0) false)/\Z (As s p.ix (fun _=>0) false) p.ix/\∀ i,Z s i->Z (As s p.ix (fun _=>0) false) i)
include st
theorem Av1 {s:CtlS} (h:I s) {r b w:Nat}:∀ C,(∀ k,k < C->c.ly.g.holds ⟨((r:Nat):Int),((b:Nat):Int),((w:Nat):Int),((k:Nat):Int)⟩=true)->I (nwC s r b w C)/\(∀ i,Z s i->Z (nwC s r b w C) i)/\∀ k,k < C->Z (nwC s r b w C) (Pl.ix ⟨((r:Nat):Int),((b:Nat):Int),((w:Nat):Int),((k:Nat):Int)⟩)
 | 0,_=>⟨h,fun i hi=>hi,fun k hk=>absurd hk (Nat.not_lt_zero k)⟩
 | C + 1,hh=>by
   obtain ⟨a,m,z⟩:=Av1 h C fun k hk=>hh k (by omega)
   obtain ⟨a',z',m'⟩:=st _ _ a (hh C (by omega))
   refine ⟨a',fun i hi=>m' i (m i hi),fun k hk=>?_⟩
   by_cases e:k=C
   ·subst e; exact z'
   ·exact m' _ (z k (by omega))
theorem Av3 {s:CtlS} (h:I s) {r b C:Nat}:∀ W,(∀ w,w < W->∀ k,k < C->c.ly.g.holds ⟨((r:Nat):Int),((b:Nat):Int),((w:Nat):Int),((k:Nat):Int)⟩=true)->I (nwW s r b C W)/\(∀ i,Z s i->Z (nwW s r b C W) i)/\∀ w,w < W->∀ k,k < C->Z (nwW s r b C W) (Pl.ix ⟨((r:Nat):Int),((b:Nat):Int),((w:Nat):Int),((k:Nat):Int)⟩)
 | 0,_=>⟨h,fun i hi=>hi,fun k hk=>absurd hk (Nat.not_lt_zero k)⟩
 | W + 1,hh=>by
   obtain ⟨a,m,z⟩:=Av3 h W fun w hw=>hh w (by omega)
   obtain ⟨a',m',z'⟩:=Av1 st a C (hh W (by omega))
   refine ⟨a',fun i hi=>m' i (m i hi),fun w hw k hk=>?_⟩
   by_cases e:w=W
   ·subst e; exact z' k hk
   ·exact m' _ (z w (by omega) k hk)
theorem Av0 {s:CtlS} (h:I s) {r W C:Nat}:∀ B,(∀ b,b < B->∀ w,w < W->∀ k,k < C->c.ly.g.holds ⟨((r:Nat):Int),((b:Nat):Int),((w:Nat):Int),((k:Nat):Int)⟩=true)->I (nwB s r W C B)/\(∀ i,Z s i->Z (nwB s r W C B) i)/\∀ b,b < B->∀ w,w < W->∀ k,k < C->Z (nwB s r W C B) (Pl.ix ⟨((r:Nat):Int),((b:Nat):Int),((w:Nat):Int),((k:Nat):Int)⟩)
 | 0,_=>⟨h,fun i hi=>hi,fun k hk=>absurd hk (Nat.not_lt_zero k)⟩
 | B + 1,hh=>by
   obtain ⟨a,m,z⟩:=Av0 h B fun w hw=>hh w (by omega)
   obtain ⟨a',m',z'⟩:=Av3 st a W (hh B (by omega))
   refine ⟨a',fun i hi=>m' i (m i hi),fun b hb w hw k hk=>?_⟩
   by_cases e:b=B
   ·subst e; exact z' w hw k hk
   ·exact m' _ (z b (by omega) w hw k hk)
theorem Av2 {s:CtlS} (h:I s) {B W C:Nat}:∀ R,(∀ r,r < R->∀ b,b < B->∀ w,w < W->∀ k,k < C->c.ly.g.holds ⟨((r:Nat):Int),((b:Nat):Int),((w:Nat):Int),((k:Nat):Int)⟩=true)->I (nwR s B W C R)/\(∀ i,Z s i->Z (nwR s B W C R) i)/\∀ r,r < R->∀ b,b < B->∀ w,w < W->∀ k,k < C->Z (nwR s B W C R) (Pl.ix ⟨((r:Nat):Int),((b:Nat):Int),((w:Nat):Int),((k:Nat):Int)⟩)
 | 0,_=>⟨h,fun i hi=>hi,fun k hk=>absurd hk (Nat.not_lt_zero k)⟩
 | R + 1,hh=>by
   obtain ⟨a,m,z⟩:=Av2 h R fun w hw=>hh w (by omega)
   obtain ⟨a',m',z'⟩:=Av0 st a B (hh R (by omega))
   refine ⟨a',fun i hi=>m' i (m i hi),fun r hr b hb w hw k hk=>?_⟩
   by_cases e:r=R
   ·subst e; exact z' b hb w hw k hk
   ·exact m' _ (z r (by omega) b hb w hw k hk)
theorem Awg (hc:A8 c=true) (h:I (Mh c)):I (Lh c)/\∀ i,c.ly.g.atB i=true->Z (Lh c) i:=by
 have hl:=C0 (Ho hc).1
 have hg:=Gm.rt hl.1
 obtain ⟨a,_,z⟩:=Av2 st h (B:=cB c) (W:=cW c) (C:=cC c) (cRk c) fun r h1 b h2 w h3 k h4=>Kv hl.1 ⟨by show (0:Int)<=((r:Nat):Int); omega,by show ((r:Nat):Int) < _; unfold cRk at h1; omega⟩ ⟨by show (0:Int)<=((b:Nat):Int); omega,by show ((b:Nat):Int) < _; unfold cB at h2; omega⟩ ⟨by show (0:Int)<=((w:Nat):Int); omega,by show ((w:Nat):Int) < _; unfold cW at h3; omega⟩ ⟨by show (0:Int)<=((k:Nat):Int); omega,by show ((k:Nat):Int) < _; unfold cC at h4; omega⟩
 refine ⟨a,fun i hi=>?_⟩
 unfold Gm.atB at hi
 simp only [bq] at hi
 obtain ⟨h1,h2⟩:=hi
 have h1:0<=i:=by
  rcases Int.lt_or_le i 0 with q | q
  ·rw [tq q] at h1; cases h1
  ·exact q
 obtain ⟨_,q1,q2,q3,q4⟩:=U7 h2
 have hr:(Gd i).rank=i / 1048576:=by
  unfold Gd
  show i.fdiv (2 ^ 20)=_
  rw [Int.fdiv_eq_ediv_of_nonneg _ (by decide)]; rfl
 have hi2:0<=i/\i < 16777216:=by omega
 obtain ⟨p1,p2,p3,p4⟩:=Ip h2
 have hx:=Zv p1 p2 p3 p4
 have he:=Ag7 hi2
 have hz:=z (Gd i).rank.toNat (by unfold cRk; omega) (Gd i).bank.toNat (by unfold cB; omega) (Gd i).row.toNat (by unfold cW; omega) (Gd i).col.toNat (by unfold cC; omega)
 have e:(⟨(((Gd i).rank.toNat:Nat):Int),(((Gd i).bank.toNat:Nat):Int),(((Gd i).row.toNat:Nat):Int),(((Gd i).col.toNat:Nat):Int)⟩:Pl)=Gd i:=by
  generalize Gd i=p at q1 q2 q3 q4 ⊢
  obtain ⟨x1,x2,x3,x4⟩:=p
  simp only at q1 q2 q3 q4
  simp only [Pl.mk.injEq]
  omega
 rw [e,hx,he] at hz
 have e2:(⟨i / 1048576,i / 65536 % 16,i / 64 % 1024,i % 64⟩:Pl).rank * 1048576 + (⟨i / 1048576,i / 65536 % 16,i / 64 % 1024,i % 64⟩:Pl).bank * 65536 + (⟨i / 1048576,i / 65536 % 16,i / 64 % 1024,i % 64⟩:Pl).row * 64 + (⟨i / 1048576,i / 65536 % 16,i / 64 % 1024,i % 64⟩:Pl).col=i:=by
  show i / 1048576 * 1048576 + i / 65536 % 16 * 65536 + i / 64 % 1024 * 64 + i % 64=i
  omega
 rw [e2] at hz
 exact hz
end
structure IB (c:Cfg) (s:CtlS):Prop where
 le:s.le=Iw c
 g:s.d.d.g=c.ly.g
 md:s.d.d.mode=c.mode
 la:s.d.d.la=[]
 co:s.d.d.co=[]
 cur:s.cur=0
 nt:s.notes=[]
 wr:∀ a ∈ s.d.l,a.write=true/\¬ Iu a/\a.exp=0/\a.mark=false
def ZB (c:Cfg) (s:CtlS) (i:Int):Prop:=s.d.d.c i=Bm c.mode (fun _=>0) i false/\s.d.gh i=Bm c.mode (fun _=>0) i false/\s.d.mks i=0
theorem Tk {c:Cfg} (hc:A8 c=true):IB c (Lh c)/\∀ i,c.ly.g.atB i=true->ZB c (Lh c) i:=by
 refine Awg (I:=IB c) (Z:=ZB c) (fun s p h hp=>?_) hc ⟨rfl,rfl,rfl,rfl,rfl,rfl,rfl,fun a ha=>by cases ha⟩
 have hat:s.d.d.g.atE p.ix=0:=by rw [h.g]; exact Ma (K5 hp)
 have hle:s.le.c=c:=by rw [h.le]; rfl
 generalize p.ix=j at hat ⊢
 have hd:=Adr (s:=s.d) (m:=0) (r:=Bm c.mode (fun _=>0) j false) hat
 have hd0:=B0n (s:=s.d) (m:=0) (r:=Bm c.mode (fun _=>0) j false) h.co hat
 have e:As s j (fun _=>0) false={ s with d:=Df s.d j (Bm c.mode (fun _=>0) j false) 0 }:=by
  unfold As; rw [hle]; rfl
 obtain ⟨w1,w2,w3⟩:=A73 h.co j
 have ew:Fv s.d.d j (Bm c.mode (fun _=>0) j false)=j/\Fw s.d.d j (Bm c.mode (fun _=>0) j false)=false:=by
  unfold Fv Fw; rw [hat,w2,w3]; exact ⟨rfl,rfl⟩
 rw [e]
 have hdd:({ s with d:=Df s.d j (Bm c.mode (fun _=>0) j false) 0 }:CtlS).d.d={ s.d.d with c:=upZ s.d.d.c j (Bm c.mode (fun _=>0) j false) }:=hd0
 refine ⟨⟨h.le,by rw [hdd]; exact h.g,by rw [hdd]; exact h.md,by rw [hdd]; exact h.la,by rw [hdd]; exact h.co,h.cur,h.nt,fun a ha=>?_⟩,?_,fun i hi=>?_⟩
 ·have ha:a ∈ (Df s.d j (Bm c.mode (fun _=>0) j false) 0).l:=ha
  rw [hd] at ha
  rcases List.mem_append.1 ha with ha | ha
  ·exact h.wr a ha
  ·rw [List.mem_singleton.1 ha]
   refine ⟨rfl,?_,rfl,rfl⟩
   unfold Iu wrA
   rw [ew.1,ew.2]
   rintro (x | x)
   ·cases x
   ·exact x rfl
 ·unfold ZB
  rw [hdd]
  show upZ s.d.d.c j _ j=_/\(Df s.d j _ 0).gh j=_/\(Df s.d j _ 0).mks j=0
  rw [hd]
  show upZ s.d.d.c j _ j=_/\upZ s.d.gh j _ j=_/\upZ s.d.mks j _ j=0
  unfold upZ
  rw [if_pos rfl,if_pos rfl,if_pos rfl]; exact ⟨rfl,rfl,rfl⟩
 ·unfold ZB at hi ⊢
  rw [hdd]
  show upZ s.d.d.c j _ i=_/\(Df s.d j _ 0).gh i=_/\(Df s.d j _ 0).mks i=0
  rw [hd]
  show upZ s.d.d.c j _ i=_/\upZ s.d.gh j _ i=_/\upZ s.d.mks j _ i=0
  unfold upZ
  by_cases e2:i=j
  ·subst e2; rw [if_pos rfl,if_pos rfl,if_pos rfl]; exact ⟨rfl,rfl,rfl⟩
  ·rw [if_neg e2,if_neg e2,if_neg e2]; exact hi
theorem A7d {c:Cfg} (hc:A8 c=true):GW c (Lh c):=by
 obtain ⟨a,z⟩:=Tk hc
 refine ⟨by rw [a.le]; exact Aos (Ho hc).1,by rw [a.le]; rfl,by rw [a.le]; rfl,a.g,a.md,fun i hi=>⟨fun _=>0,fun _=>(by decide:(0:Nat) < 256),?_⟩⟩
 obtain ⟨_,z2,z3⟩:=z i hi
 rw [z2,z3]; rfl
theorem A7c {c:Cfg} (hc:A8 c=true):Lns c.ly (Lh c).cur:=by
 have hl:=C0 (Ho hc).1
 rw [(Tk hc).1.cur]
 unfold Lns
 have:=Int.mul_pos (a:=A0 c.ly) (b:=c.ly.g.cols) (by omega) (by omega)
 omega
