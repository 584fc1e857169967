import Derived.Test.YtfhiggfmkjmeiaaGreatLSp
set_option linter.all false
namespace Go.Proofs.YtfhiggfmkjmeiaaGreat
open Go Go.RowKit
theorem Alt {m:Int} (hm:m=1 ∨ m=2) {r q:Nat->Nat} (hr:∀ j,r j < 256) (hq:∀ j,q j < 256) (h:∀ x,¬ df m r q x):Ai m r q=0:=by
 rw [Ai6 hr hr hm]
 rcases hm with rfl | rfl
 ·rw [if_pos rfl]
  refine Nat.le_zero.1 (K9.2 fun i hi=>Nat.le_of_eq ?_)
  rw [Q9 (Au hr _ _) (Au hq _ _)]
  refine Abe fun p hp=>?_
  have hp:p < 72:=hp
  rw [Yp r q hp]
  have e:bt r (72 * i + p)=bt q (72 * i + p):=by
   cases a:bt r (72 * i + p) <;> cases b:bt q (72 * i + p) <;> first | rfl | exact absurd (Or.inl ⟨rfl,by omega,by rw [a,b]; decide⟩) (h (72 * i + p))
  rw [e,Bool.xor_self]
 ·rw [if_neg (by decide)]
  refine Nat.le_zero.1 (Ka.2 fun i hi=>Nat.le_of_eq ?_)
  rw [Vc]
  refine Ae7 fun p hp=>?_
  rw [I3,I3,if_pos hp,if_pos hp]
  have e:r (36 * i + p)=q (36 * i + p):=by
   rcases Classical.em (r (36 * i + p)=q (36 * i + p)) with e | e
   ·exact e
   ·exact absurd (Or.inr ⟨rfl,by omega,e⟩) (h (36 * i + p))
  rw [e,Dd]
structure KQ (s:TrkS):Prop where
 pg:s.pages=[]
 lv:∀ i,i < s.ranks.length->(s.ranks.getD i Mk).level=0
structure LQ (c:Cfg) (s:LedS):Prop where
 rep:s.rep=A9w c.ly
 log:s.log=Afl c.log
 trk:KQ s.trk
structure RQ (c:Cfg) (id:Int->Nat->Nat) (s:CtlS):Prop where
 d:CD c id s
 la:s.d.d.la=[]
 eq:∀ n,Lns c.ly n->∀ x,¬ df c.mode (s.d.d.c (RT s.le.rep n)) (s.d.gh (RT s.le.rep n)) x
 ac:∀ a ∈ s.d.l,CA a
 le:LQ c s.le
section
variable {c:Cfg} {id:Int->Nat->Nat} {s:CtlS} (hc:A8 c=true) (h:RQ c id s) (dk:DevOk s.d)
include hc h dk
theorem RQ.ex {n:Int} (hn:Lns c.ly n):exP s (RT s.le.rep n)=0/\vK c s (RT s.le.rep n)=0:=by
 have e:exP s (RT s.le.rep n)=0:=by
  unfold exP ovr
  rw [h.la,B27,h.d.w.md]
  exact Alt (Ho hc).2.1 (dk.d.c _) (dk.gh _) (h.eq n hn)
 exact ⟨e,(h.d.tells hc dk hn (by rw [e]; decide)).2.1 e⟩
theorem RQ.take {n:Int} (hn:Lns c.ly n) (a b:Int):(Aw s (RT s.le.rep n) a b).le=s.le:=by
 have h0:=(h.ex hc dk hn).2
 unfold vK at h0
 show C8 s.le ⟨1,((Bt s.le.c.mode (Ab s.d (RT s.le.rep n)) (RT s.le.rep n):Nat):Int),_,_,_,_⟩=s.le
 rw [h.d.w.cf,h0]
 rfl
theorem RQ.cl {id':Int->Nat->Nat} {t:CtlS} (hd:CD c id' t) (k:CL c s t) (ha:∃ z,t.d.l=s.d.l ++ z/\∀ a ∈ z,CA a) (hl:LQ c t.le):RQ c id' t:=by
 refine ⟨hd,k.la.trans h.la,fun n hn x hx=>?_,fun a hm=>?_,hl⟩
 ·rcases k.ce n hn with e | ⟨e1,e2,e3⟩
  ·rw [e] at hx; exact A2s hx
  ·rw [e1,e2,e3] at hx; exact h.eq n hn x hx
 ·obtain ⟨z,hz,hb⟩:=ha
  rw [hz] at hm
  rcases List.mem_append.1 hm with hm | hm
  ·exact h.ac a hm
  ·exact hb a hm
theorem RQ.read_le {n:Int} (hn:Lns c.ly n) (b:Bool):(An s n b).le=s.le:=by
 obtain ⟨a1,a2,e1,_,_⟩:=A4p hc h.d.w hn b
 have h0:=(h.ex hc dk hn).2
 rw [e1,h0]
 exact h.take hc dk hn a1 a2
theorem RQ.read {n:Int} (hn:Lns c.ly n) (b:Bool):RQ c id (An s n b)/\Bv s n b=0/\∀ j,j < 64->Cl s n b j=id n j:=by
 obtain ⟨k1,k2,k3,k4,k5,_⟩:=h.d.read hc dk hn (by rw [(h.ex hc dk hn).1]; decide) b
 exact ⟨h.cl hc dk k1 k2 k5 (by rw [h.read_le hc dk hn b]; exact h.le),k3,k4⟩
end
structure MQ (c:Cfg) (N:Nat) (m:MchS):Prop where
 sm:SM c N m
 inj:m.inj=[]
 le:LQ c m.c.le
theorem MQ.rq {c:Cfg} {N:Nat} {m:MchS} (h:MQ c N m):RQ c m.ideal m.c:=by
 have hn:∀ k,¬ k < m.inj.length:=fun k hk=>by rw [h.inj] at hk; exact absurd hk (Nat.not_lt_zero k)
 refine ⟨h.sm.d,?_,fun n hl x hx=>?_,h.sm.ac,h.le⟩
 ·cases e:m.c.d.d.la with
  | nil=>rfl
  | cons f t =>
    obtain ⟨k,k1,_⟩:=h.sm.sp.la f (by rw [e]; exact List.mem_cons_self)
    exact absurd k1 (hn k)
 ·obtain ⟨k,k1,_⟩:=h.sm.sp.dif n hl x hx
  exact hn k k1
theorem B21 {c:Cfg} (hc:A8 c=true):MQ c 0 (Ac c):=⟨B16 hc,rfl,by
 have e:(Ac c).c.le=Iw c:=(Ab3 c).2
 rw [e]
 refine ⟨rfl,rfl,rfl,fun i hi=>?_⟩
 have hi:i < (List.replicate c.ly.g.ranks.toNat Mk).length:=hi
 rw [List.length_replicate] at hi
 show ((List.replicate c.ly.g.ranks.toNat Mk).getD i Mk).level=0
 rw [List.getD_eq_getElem?_getD,List.getElem?_replicate,if_pos hi]; rfl⟩
