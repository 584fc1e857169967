import Derived.Test.YtfhiggfmkjmeiaaGreatLSp
set_option linter.all false
namespace Go.Proofs.YtfhiggfmkjmeiaaGreat
open Go Go.RowKit
theorem Alt {m:Int} (hm:m=1 ∨ m=2) {r q:Nat->Nat} (hr:∀ j,r j < 256) (hq:∀ j,q j < 256) (h:∀ x,¬ df m r q x):Ai m r q=0:=by
 rw [Ai6 hr hr hm]
 rcases hm with rfl | rfl
 ·rw [if_pos rfl]
  refine Nat.le_zero.1 (K9.2 fun i hi=>Nat.le_of_eq ?_)
  rw [Q9 (Au hr _ _) (Au hq _ _)]
  refine Abe fun p hp=>?_
  have hp:p < 72:=hp
  rw [Yp r q hp]
  have e:bt r (72 * i + p)=bt q (72 * i + p):=by
   cases a:bt r (72 * i + p) <;> cases b:bt q (72 * i + p) <;> first | rfl | exact absurd (Or.inl ⟨rfl,by omega,by rw [a,b]; decide⟩) (h (72 * i + p))
  rw [e,Bool.xor_self]
 ·rw [if_neg (by decide)]
  refine Nat.le_zero.1 (Ka.2 fun i hi=>Nat.le_of_eq ?_)
  rw [Vc]
  refine Ae7 fun p hp=>?_
  rw [I3,I3,if_pos hp,if_pos hp]
  have e:r (36 * i + p)=q (36 * i + p):=by
   rcases Classical.em (r (36 * i + p)=q (36 * i + p)) with e | e
   ·exact e
   ·exact absurd (Or.inr ⟨rfl,by omega,e⟩) (h (36 * i + p))
  rw [e,Dd]
structure KQ (s:TrkS):Prop where
 pg:s.pages=[]
 lv:∀ i,i < s.ranks.length->(s.ranks.getD i Mk).level=0
theorem Aak {n a b:Int} (h:G2 n a b=true):a<=n/\n<=b:=by
 unfold G2 at h
 obtain ⟨h1,h2⟩:=cT h
 exact ⟨otq h1,otq h2⟩
theorem Ajx {b:Bk} {r:Rl} (h:b.level=0):Fj b r 1=0:=by
 unfold Fj
 rw [h]
 cases hr:Dv b r with
 | false=>rfl
 | true =>
   rw [cond_true,fq (show ¬ (1:Int) < 1 by decide),cond_false]
   unfold Dv Fp at hr
   obtain ⟨h1,h2⟩:=cT hr
   obtain ⟨_,h1⟩:=cT h1
   obtain ⟨_,h2⟩:=cT h2
   have h1:=Aak h1
   rw [Ca (by omega)] at h2
   have h2:=Aak h2
   rw [Ca (x:=r.every - b.age) (by omega)]
   cases q:decide (1 < r.every - b.age) with
   | true=>rfl
   | false =>
     have q:=ofq q
     rw [cond_false,show 1 - (r.every - b.age)=0 by omega,show IntKind.i64.wrap 0=0 from rfl,Int.zero_tdiv]
     rfl
theorem Aso {s:TrkS} (h:KQ s):KQ (Lo s):=by
 have h1:∀ k,k<=s.ranks.length->∀ i,i < s.ranks.length->((rkT s.r s.ranks k).getD i Mk).level=0:=by
  intro k
  induction k with
  | zero=>intro _ i hi; exact h.lv i hi
  | succ k ih =>
    intro hk i hi
    have h0:=ih (by omega)
    rw [rkT]
    by_cases e:k=i
    ·subst e
     rw [List.getD_eq_getElem?_getD,List.getElem?_set_self (by rw [Ko]; omega)]
     exact Ajx (h0 _ hi)
    ·rw [List.getD_eq_getElem?_getD,List.getElem?_set_ne e,← List.getD_eq_getElem?_getD]
     exact h0 i hi
 refine ⟨?_,fun i hi=>?_⟩
 ·show N2 s.r s.pages s.pages.length=[]
  rw [h.pg]; rfl
 ·have hi:i < (rkT s.r s.ranks s.ranks.length).length:=hi
  rw [Ko] at hi
  exact h1 _ (Nat.le_refl _) i hi
structure LQ (c:Cfg) (s:LedS):Prop where
 rep:s.rep=A9w c.ly
 log:s.log=Afl c.log
 trk:KQ s.trk
structure RQ (c:Cfg) (id:Int->Nat->Nat) (s:CtlS):Prop where
 d:CD c id s
 la:s.d.d.la=[]
 eq:∀ n,Lns c.ly n->∀ x,¬ df c.mode (s.d.d.c (RT s.le.rep n)) (s.d.gh (RT s.le.rep n)) x
 ac:∀ a ∈ s.d.l,CA a
 le:LQ c s.le
section
variable {c:Cfg} {id:Int->Nat->Nat} {s:CtlS} (hc:A8 c=true) (h:RQ c id s) (dk:DevOk s.d)
include hc h dk
theorem RQ.ex {n:Int} (hn:Lns c.ly n):exP s (RT s.le.rep n)=0/\vK c s (RT s.le.rep n)=0:=by
 have e:exP s (RT s.le.rep n)=0:=by
  unfold exP ovr
  rw [h.la,B27,h.d.w.md]
  exact Alt (Ho hc).2.1 (dk.d.c _) (dk.gh _) (h.eq n hn)
 exact ⟨e,(h.d.tells hc dk hn (by rw [e]; decide)).2.1 e⟩
theorem RQ.take {n:Int} (hn:Lns c.ly n) (a b:Int):(Aw s (RT s.le.rep n) a b).le=s.le:=by
 have h0:=(h.ex hc dk hn).2
 unfold vK at h0
 show C8 s.le ⟨1,((Bt s.le.c.mode (Ab s.d (RT s.le.rep n)) (RT s.le.rep n):Nat):Int),_,_,_,_⟩=s.le
 rw [h.d.w.cf,h0]
 rfl
theorem RQ.cl {id':Int->Nat->Nat} {t:CtlS} (hd:CD c id' t) (k:CL c s t) (ha:∃ z,t.d.l=s.d.l ++ z/\∀ a ∈ z,CA a) (hl:LQ c t.le):RQ c id' t:=by
 refine ⟨hd,k.la.trans h.la,fun n hn x hx=>?_,fun a hm=>?_,hl⟩
 ·rcases k.ce n hn with e | ⟨e1,e2,e3⟩
  ·rw [e] at hx; exact A2s hx
  ·rw [e1,e2,e3] at hx; exact h.eq n hn x hx
 ·obtain ⟨z,hz,hb⟩:=ha
  rw [hz] at hm
  rcases List.mem_append.1 hm with hm | hm
  ·exact h.ac a hm
  ·exact hb a hm
theorem RQ.read_le {n:Int} (hn:Lns c.ly n) (b:Bool):(An s n b).le=s.le:=by
 obtain ⟨a1,a2,e1,_,_⟩:=A4p hc h.d.w hn b
 have h0:=(h.ex hc dk hn).2
 rw [e1,h0]
 exact h.take hc dk hn a1 a2
theorem RQ.read {n:Int} (hn:Lns c.ly n) (b:Bool):RQ c id (An s n b)/\Bv s n b=0/\∀ j,j < 64->Cl s n b j=id n j:=by
 obtain ⟨k1,k2,k3,k4,k5,_⟩:=h.d.read hc dk hn (by rw [(h.ex hc dk hn).1]; decide) b
 exact ⟨h.cl hc dk k1 k2 k5 (by rw [h.read_le hc dk hn b]; exact h.le),k3,k4⟩
theorem RQ.masked_le {n:Int} (hn:Lns c.ly n) (l:List Nat) {m:Nat} (hm:m ≠ 0):(Ah s n l m).le=s.le:=by
 obtain ⟨a1,a2,e1,_⟩:=Vl hc h.d.w hn l hm
 have h0:=(h.ex hc dk hn).2
 have hp:∀ (t:CtlS) i l,t.le=s.le->(As t i l false).le=s.le:=fun t i l h=>h
 rw [e1,if_pos (show vK c s (RT s.le.rep n)<=1 by omega)]
 split
 ·rfl
 ·exact h.take hc dk hn a1 a2
end
theorem Ao6 (s:CtlS):(Dm s ⟨2,0,0,0,0,0⟩).le={ s.le with trk:=Lo s.le.trk,time:=IntKind.i64.wrap (s.le.time + 1) }:=rfl
theorem Ao7 (s:CtlS):(Dm s ⟨4,0,0,0,0,0⟩).le={ s.le with log:=O7 s.le.log }:=rfl
theorem RQ.scrub_le {c:Cfg} {id:Int->Nat->Nat} {s:CtlS} (hc:A8 c=true) (h:RQ c id s) (dk:DevOk s.d):(D8 s).le=s.le:=by
 have hcf:=h.d.w.cf
 have h2:RQ c id { s with cur:=(IntKind.i64.wrap (s.cur + 1)).tmod (IntKind.i64.wrap ((A0 s.le.c.ly) * s.le.c.ly.g.cols)) } :=
  ⟨⟨⟨h.d.w.ri,h.d.w.cf,h.d.w.ly,h.d.w.g,h.d.w.md,h.d.w.gh⟩,by rw [hcf]; exact Z8 hc h.d.cu,h.d.co,h.d.dat⟩,h.la,h.eq,h.ac,h.le⟩
 exact h2.read_le hc dk h.d.cu true
theorem RQ.do_le {c:Cfg} {m:MchS} {x:Stp} (hc:A8 c=true) (h:RQ c m.ideal m.c) (dk:DevOk m.c.d) (hci:CIn m.c) (hk:x.kind ≠ 8):LQ c (Al m x).c.le:=by
 have hly:=h.d.w.ly
 cases hq:Lr c x with
 | true =>
   obtain ⟨hr,hk,hn,hm⟩:=A5w hq
   have hn:Lns c.ly x.line:=hn
   have k1:=Ur hr
   obtain ⟨e1,_,_,_⟩:=Afs (s:=m) hr hk
   have ec:(Al m x).c=bif decide (x.kind=1) then An m.c x.line m.c.le.c.back else (bif decide (x.kind=2) then Ah m.c x.line (arL x.data 64 0) 18446744073709551615 else Ah m.c x.line (arL x.data 64 0) x.mask):=by rw [e1]; exact A5y _ _
   have el:(Al m x).c.le=m.c.le:=by
    rw [ec]
    rcases (by omega:x.kind=1 ∨ x.kind=2 ∨ x.kind=3) with q | q | q
    ·rw [tq q,cond_true]; exact h.read_le hc dk hn _
    ·rw [fq (show ¬ x.kind=1 by omega),tq q,cond_false,cond_true]; exact h.masked_le hc dk hn _ (by decide)
    ·rw [fq (show ¬ x.kind=1 by omega),fq (show ¬ x.kind=2 by omega),cond_false,cond_false]; exact h.masked_le hc dk hn _ (hm q)
   rw [el]; exact h.le
 | false =>
   rcases A5v hq with hb | ⟨hr,k1,k2⟩
   ·rw [(A43 hly hb).1.c]; exact h.le
   ·obtain ⟨q4,q5,q6,q7,_⟩:=Anl m hr
    rcases (by omega:x.kind=4 ∨ x.kind=5 ∨ x.kind=6 ∨ x.kind=7) with q | q | q | q
    ·rw [q4 q,h.scrub_le hc dk]; exact h.le
    ·rw [q5 q,(A4h hc h.d.w (by rw [h.le.rep]; rfl)).1]; exact h.le
    ·rw [q6 q]
     unfold Dl
     refine Ad (p:=fun t:CtlS=>LQ c t.le) h.le ?_
     rw [Ao6]
     exact ⟨h.le.rep,h.le.log,Aso h.le.trk⟩
    ·rw [q7 q]
     show LQ c (Dm m.c _).le
     rw [Ao7]
     refine ⟨h.le.rep,?_,h.le.trk⟩
     show O7 m.c.le.log=_
     rw [h.le.log]; rfl
structure MQ (c:Cfg) (N:Nat) (m:MchS):Prop where
 sm:SM c N m
 inj:m.inj=[]
 le:LQ c m.c.le
theorem MQ.rq {c:Cfg} {N:Nat} {m:MchS} (h:MQ c N m):RQ c m.ideal m.c:=by
 have hn:∀ k,¬ k < m.inj.length:=fun k hk=>by rw [h.inj] at hk; exact absurd hk (Nat.not_lt_zero k)
 refine ⟨h.sm.d,?_,fun n hl x hx=>?_,h.sm.ac,h.le⟩
 ·cases e:m.c.d.d.la with
  | nil=>rfl
  | cons f t =>
    obtain ⟨k,k1,_⟩:=h.sm.sp.la f (by rw [e]; exact List.mem_cons_self)
    exact absurd k1 (hn k)
 ·obtain ⟨k,k1,_⟩:=h.sm.sp.dif n hl x hx
  exact hn k k1
theorem MQ.step {c:Cfg} {N:Nat} (hc:A8 c=true) {m:MchS} (h:MQ c N m) (hN:N<=1000) (dk:DevOk m.c.d) {x:Stp} (hx:StpOk x) (hci:CIn m.c) (hk:x.kind ≠ 8):MQ c (N + 1) (Al m x):=by
 have hi:(Al m x).inj=[]:=by
  rw [Ank,fq hk,h.inj]
  cases Br x <;> rfl
 exact ⟨h.sm.step hc hN dk hx hci (by rw [hi]; intro k hk; exact absurd hk (Nat.not_lt_zero k)),hi,h.rq.do_le hc dk hci hk⟩
theorem B21 {c:Cfg} (hc:A8 c=true):MQ c 0 (Ac c):=⟨B16 hc,rfl,by
 have e:(Ac c).c.le=Iw c:=(Ab3 c).2
 rw [e]
 refine ⟨rfl,rfl,rfl,fun i hi=>?_⟩
 have hi:i < (List.replicate c.ly.g.ranks.toNat Mk).length:=hi
 rw [List.length_replicate] at hi
 show ((List.replicate c.ly.g.ranks.toNat Mk).getD i Mk).level=0
 rw [List.getD_eq_getElem?_getD,List.getElem?_replicate,if_pos hi]; rfl⟩
def qS (c:Cfg) (l:List Stp):Nat->MchS
 | 0=>Ac c
 | k + 1=>bif decide ((l.getD k En).kind=8) then qS c l k else Al (qS c l k) (l.getD k En)
def qR (m:MchS):Nat->MchS
 | 0=>m
 | k + 1=>{ qR m k with c:=An (qR m k).c ((k:Nat):Int) (qR m k).c.le.c.back }
theorem RQ.ci {c:Cfg} {id:Int->Nat->Nat} {s:CtlS} (hc:A8 c=true) (h:RQ c id s) (ok:LedOk s.le):CIn s:=by
 refine ⟨⟨ok,?_⟩,by rw [h.d.w.g,h.d.w.ly]⟩
 rw [h.le.rep]
 exact (A7m hc).2
theorem Qy {c:Cfg} (hc:A8 c=true) {l:List Stp} (hs:∀ x ∈ l,StpOk x) (hn:l.length<=80):∀ k,k<=l.length->MQ c k (qS c l k)/\MchOk (8388608 + 4 * k) (qS c l k)
 | 0,_=>⟨B21 hc,Kx hc⟩
 | k + 1, hk => by
   obtain ⟨a,b⟩:=Qy hc hs hn k (by omega)
   have hx:=Tb hs hk
   show MQ c (k + 1) (bif decide ((l.getD k En).kind=8) then qS c l k else Al (qS c l k) (l.getD k En))/\MchOk _ (bif decide ((l.getD k En).kind=8) then qS c l k else Al (qS c l k) (l.getD k En))
   cases q:decide ((l.getD k En).kind=8) with
   | true =>
     rw [cond_true]
     refine ⟨⟨⟨a.sm.d,?_,a.sm.ac,a.sm.sv⟩,a.inj,a.le⟩,b.mono (by omega)⟩
     have h:=a.sm.sp
     exact ⟨h.rt,h.mo,⟨h.sc.1,by have:=h.sc.2; omega⟩,h.cu,h.la,h.dif⟩
   | false =>
     rw [cond_false]
     exact ⟨a.step hc (by omega) b.c.d hx (a.rq.ci hc b.c.le) (ofq q),(A07 b hx).mono (by omega)⟩
theorem Ace {l:Ly} {i:Nat} (h:i < (Ln l).toNat):((i:Nat):Int) < Ln l:=by omega
theorem Ast (l:Ly):¬ (((Ln l).toNat:Nat):Int) < Ln l:=by omega
theorem Anb {l:Ly} (h:Bc l=true):(Ln l).toNat<=8388608:=by have:=(C0 h).2.2.2.2.2.2.2.1; unfold Ln; omega
structure RR (c:Cfg) (N:Nat) (m t:MchS):Prop where
 rq:RQ c m.ideal t.c
 ok:CtlOk N t.c
 id:t.ideal=m.ideal
 srv:t.srv=m.srv
theorem A6g {c:Cfg} (hc:A8 c=true) {m:MchS} {N:Nat} (h:RQ c m.ideal m.c) (ok:CtlOk N m.c):∀ k,k<=(Ln c.ly).toNat->RR c (N + 3 * k) m (qR m k)
 | 0,_=>⟨h,ok,rfl,rfl⟩
 | k + 1,hk=>by
   have a:=A6g hc h ok k (by omega)
   have hn:Lns c.ly ((k:Nat):Int):=by
    have:=Ace (l:=c.ly) (i:=k) (by omega)
    exact ⟨by omega,this⟩
   exact ⟨(a.rq.read hc a.ok.d hn _).1,Z5 a.ok,a.id,a.srv⟩
theorem B0q {c:Cfg} (hc:A8 c=true) {m:MchS} {N:Nat} (h:RQ c m.ideal m.c) (ok:CtlOk N m.c) {k:Nat} (hk:k < (Ln c.ly).toNat) (b:Bool):Bv (qR m k).c ((k:Nat):Int) b=0/\∀ j,j < 64->Cl (qR m k).c ((k:Nat):Int) b j=(qR m k).ideal ((k:Nat):Int) j:=by
 have a:=A6g hc h ok k (by omega)
 have hn:Lns c.ly ((k:Nat):Int):=⟨by omega,Ace (l:=c.ly) hk⟩
 rw [a.id]
 exact (a.rq.read hc a.ok.d hn b).2
