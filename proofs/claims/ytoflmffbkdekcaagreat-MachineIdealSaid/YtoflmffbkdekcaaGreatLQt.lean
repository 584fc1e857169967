import Derived.Test.YtoflmffbkdekcaaGreatLNj
import Derived.Test.YtoflmffbkdekcaaGreatLCl
import Derived.Test.YtoflmffbkdekcaaGreatLSv
namespace Go.Proofs.YtoflmffbkdekcaaGreat
open Go Go.RowKit
set_option linter.unusedVariables false
set_option linter.unusedSimpArgs false
def Ln (l:Ly):Int:=IntKind.i64.wrap ((lySeen_v0 l) * l.g.cols)
structure QL (c:Cfg) (s:LedS):Prop where
  cf:s.c=c
  rep:s.rep=rpNew c.ly
  log:s.log=lNewS c.log
structure QC (c:Cfg) (id:Int→Nat→Nat) (s:CtlS):Prop where
  le:QL c s.le
  g:s.d.d.g=c.ly.g
  md:s.d.d.mode=c.mode
  la:s.d.d.la=[]
  co:s.d.d.co=[]
  cells:∀ n,0≤n∧n < Ln c.ly→∃ l:Nat→Nat,(∀ j,l j < 256)∧(∀ j,j < 64→l j=id n j)∧s.d.d.c (ixl c.ly n)=enc_v0 c.mode l (ixl c.ly n) false
theorem went_0 {d:DramS} (h:d.co=[]) (i:Int):dWent_s d i=d∧dWent_v0 d i=i∧dWent_v1 d i=false:=by
  unfold dWent_s dWent_v0 dWent_v1
  rw [h]; exact ⟨rfl,rfl,rfl⟩
theorem ov_0 (m:Int) (x:Pl) (r:Nat→Nat):overlay_v0 m [] x r=r:=by
  unfold overlay_v0
  exact bifG (p:=fun f:Nat→Nat=>f=r) rfl rfl
theorem read_0 {s:DevS} (hl:s.d.la=[]) (hc:s.d.co=[]) {i:Int} (h:s.d.g.atE i=0):vRead_v0 s i=s.d.c i∧(vRead_s s i).d=s.d∧dRead_v3 s.d i=0:=by
  obtain ⟨w1,w2,w3⟩:=went_0 hc i
  have h3:=dRead_0 (s:=s.d) h
  have hd:dRead_s s.d i=s.d:=by unfold dRead_s; rw [h,w1]; rfl
  refine ⟨?_,?_,h3⟩
  · unfold vRead_v0
    rw [h3,show decide ((0:Int)=0)=true from rfl,cond_true]
    unfold dRead_v0
    rw [h,w3,w1,w2,show decide ((0:Int)=0)=true from rfl,cond_true,cond_false]
    unfold dLook_v0
    rw [h,hl,show decide ((0:Int)=0)=true from rfl,cond_true,ov_0]
  · unfold vRead_s
    rw [hd]
    exact bifG (p:=fun t:DevS=>t.d=s.d) (bifG (p:=fun t:DevS=>t.d=s.d) rfl rfl) rfl
theorem put_0 {s:DevS} (hc:s.d.co=[]) {i m:Int} {r:Nat→Nat} (h:s.d.g.atE i=0):(vput_s s i r m).d={ s.d with c:=upZ s.d.c i r }:=by
  obtain ⟨w1,w2,w3⟩:=went_0 hc i
  have e:dWrite_v2 s.d i r=0:=by unfold dWrite_v2; rw [h]; rfl
  have hd:dWrite_s s.d i r={ s.d with c:=upZ s.d.c i r }:=by
    unfold dWrite_s
    rw [h,w3,w1,w2]; rfl
  unfold vput_s
  rw [e,hd]; rfl
theorem jroute_none (m:MapS) (n:Int):jroute_v0 ⟨0,0,0,0⟩ m n=mIndex_v0 m n∧jroute_v1 ⟨0,0,0,0⟩ m n=mIndex_v3 m n:=by
  unfold jroute_v0 jroute_v1
  cases decide (mIndex_v3 m n=0) <;> cases jright_v0 ⟨0,0,0,0⟩ m <;> exact ⟨rfl,rfl⟩
theorem QC.cat {c:Cfg} {id:Int→Nat→Nat} {s:CtlS} (hc:cfgRight_v0 c=true) (h:QC c id s) {n:Int} (hn:0≤n∧n < Ln c.ly):cat_v3 s n=0∧cat_v0 s n=ixl c.ly n∧s.d.d.g.atE (ixl c.ly n)=0:=by
  have hr:=(cfg_t hc).1
  have hm:=mNew_mp hr
  have e3:jroute_v1 s.le.rep.j s.le.rep.m n=0:=by
    rw [h.le.rep]
    show jroute_v1 ⟨0,0,0,0⟩ (mNew_s c.ly) n=0
    rw [(jroute_none _ _).2]
    exact mIndex_0 (s:=mNew_s c.ly) (mNew_ok hr) hm.lv hn
  have e0:jroute_v0 s.le.rep.j s.le.rep.m n=ixl c.ly n:=by
    rw [h.le.rep]
    exact (jroute_none _ _).1
  obtain ⟨i1,i2,_⟩:=ixl_eq hr hn
  refine ⟨by unfold cat_v3; rw [e3]; rfl,by unfold cat_v0; rw [e3,e0]; rfl,?_⟩
  rw [h.g,i1]
  exact atE_0 (atB_ix i2)
theorem QC.take {c:Cfg} {id:Int→Nat→Nat} {s:CtlS} (hc:cfgRight_v0 c=true) (h:QC c id s) {n:Int} (hn:0≤n∧n < Ln c.ly) (a b:Int) :
    QC c id (ctake_s s (ixl c.ly n) a b)∧dec_v1 s.le.c.mode (vRead_v0 s.d (ixl c.ly n)) (ixl c.ly n)=0∧dec_v2 s.le.c.mode (vRead_v0 s.d (ixl c.ly n)) (ixl c.ly n)=0∧(∀ j,j < 64→dec_v0 s.le.c.mode (vRead_v0 s.d (ixl c.ly n)) (ixl c.ly n) j=id n j):=by
  have hm:=(cfg_t hc).2.1
  obtain ⟨_,_,hat⟩:=h.cat hc hn
  obtain ⟨r1,r2,r3⟩:=read_0 h.la h.co hat
  obtain ⟨l,l1,l2,l3⟩:=h.cells n hn
  obtain ⟨d1,d2,d3⟩:=dec_enc hm l1 (ixl c.ly n)
  rw [h.le.cf,r1,l3]
  refine ⟨?_,d2,d3,fun j hj=>(d1 j hj).trans (l2 j hj)⟩
  have hle:(ctake_s s (ixl c.ly n) a b).le=s.le:=by
    show lapply_s s.le ⟨1,((dec_v1 s.le.c.mode (vRead_v0 s.d (ixl c.ly n)) (ixl c.ly n):Nat):Int),_,_,_,_⟩=s.le
    rw [h.le.cf,r1,l3,d2]
    rfl
  have hd:(ctake_s s (ixl c.ly n) a b).d.d=s.d.d:=r2
  exact ⟨by rw [hle]; exact h.le,by rw [hd]; exact h.g,by rw [hd]; exact h.md,by rw [hd]; exact h.la,by rw [hd]; exact h.co,by rw [hd]; exact h.cells⟩
theorem QC.put {c:Cfg} {id:Int→Nat→Nat} {s:CtlS} (hc:cfgRight_v0 c=true) (h:QC c id s) {n:Int} (hn:0≤n∧n < Ln c.ly) {l:Nat→Nat} (hl:∀ j,l j < 256) {x:Nat→Nat} (hx:∀ j,j < 64→l j=x j):QC c (upZ id n x) (cput_s s (ixl c.ly n) l false):=by
  obtain ⟨_,_,hat⟩:=h.cat hc hn
  have e:cput_s s (ixl c.ly n) l false={ s with d:=vput_s s.d (ixl c.ly n) (enc_v0 s.le.c.mode l (ixl c.ly n) false) 0 }:=rfl
  have hd:(cput_s s (ixl c.ly n) l false).d.d={ s.d.d with c:=upZ s.d.d.c (ixl c.ly n) (enc_v0 s.le.c.mode l (ixl c.ly n) false) }:=by rw [e]; exact put_0 h.co hat
  refine ⟨h.le,by rw [hd]; exact h.g,by rw [hd]; exact h.md,by rw [hd]; exact h.la,by rw [hd]; exact h.co,fun m hm=>?_⟩
  rw [hd,h.le.cf]
  show ∃ l':Nat→Nat,_∧_∧upZ s.d.d.c (ixl c.ly n) (enc_v0 c.mode l (ixl c.ly n) false) (ixl c.ly m)=_
  by_cases q:m=n
  · subst q
    refine ⟨l,hl,fun j hj=>?_,?_⟩
    · unfold upZ; rw [if_pos rfl]; exact hx j hj
    · unfold upZ; rw [if_pos rfl]
  · obtain ⟨l',a1,a2,a3⟩:=h.cells m hm
    refine ⟨l',a1,fun j hj=>?_,?_⟩
    · unfold upZ; rw [if_neg q]; exact a2 j hj
    · unfold upZ
      rw [if_neg (fun e=>q (ixl_inj (cfg_t hc).1 hm hn e))]; exact a3
theorem QC.read {c:Cfg} {id:Int→Nat→Nat} {s:CtlS} (hc:cfgRight_v0 c=true) (h:QC c id s) {n:Int} (hn:0≤n∧n < Ln c.ly) (b:Bool):QC c id (cread_s s n b)∧cread_v1 s n b=0∧∀ j,j < 64→cread_v0 s n b j=id n j:=by
  obtain ⟨e3,e0,_⟩:=h.cat hc hn
  obtain ⟨t1,t2,t3,t4⟩:=h.take hc hn (cat_v1 s n) (cat_v2 s n)
  have z:decide ((((0:Nat)):Int)=0)=true:=rfl
  refine ⟨?_,?_,?_⟩
  · unfold cread_s
    rw [e3,e0,t2,z,cond_true]
    exact t1
  · unfold cread_v1
    rw [e3,e0,t2,z,cond_true]
    rfl
  · unfold cread_v0
    rw [e3,e0,z,cond_true]
    exact t4
end Go.Proofs.YtoflmffbkdekcaaGreat
