import Derived.Test.YtoflmffbkdekcaaGreatLQn
namespace Go.Proofs.YtoflmffbkdekcaaGreat
open Go Go.RowKit
set_option linter.unusedVariables false
set_option linter.unusedSimpArgs false
def oCf (c:Cfg):Cfg:=(⟨{ c.ly with way:=IntKind.i64.wrap (3 - c.ly.way) },IntKind.i64.wrap (3 - c.mode),c.rules,c.log,!c.back⟩:Cfg)
theorem interW {g:Gm} {w:Int} (h:interRight_v0 g w=true):g.right=true∧0≤w∧w < 4:=by
  unfold interRight_v0 at h
  obtain ⟨h1,h⟩:=cT h
  obtain ⟨h2,h3⟩:=cT h
  exact ⟨h1,of_decide_eq_true h2,of_decide_eq_true h3⟩
theorem oLy {c:Cfg} (h:lyRight_v0 c.ly=true):lyRight_v0 (oCf c).ly=true∧lySeen_v0 (oCf c).ly=lySeen_v0 c.ly:=by
  have hl:=ly_rt h
  obtain ⟨h1,h2,h3⟩:=interW hl.2.1
  have e:IntKind.i64.wrap (3 - c.ly.way)=3 - c.ly.way:=wrapN (by omega)
  have k:lyRight_v0 (oCf c).ly=true:=by
    unfold lyRight_v0
    show (bif interRight_v0 c.ly.g (IntKind.i64.wrap (3 - c.ly.way)) then (bif decide (0≤c.ly.res) then (bif decide (c.ly.res≤64) then (decide (c.ly.res < gpages_v0 c.ly.g)) else false) else false) else false)=true
    rw [e]
    have hi:interRight_v0 c.ly.g (3 - c.ly.way)=true:=by
      unfold interRight_v0
      rw [h1,decide_eq_true (show 0≤3 - c.ly.way by omega),decide_eq_true (show 3 - c.ly.way < 4 by omega)]; rfl
    rw [hi,decide_eq_true hl.2.2.1.1,decide_eq_true hl.2.2.1.2.1,decide_eq_true hl.2.2.1.2.2]; rfl
  exact ⟨k,by rw [(ly_rt k).2.2.2.1,hl.2.2.2.1]; rfl⟩
theorem oLn {c:Cfg} (h:lyRight_v0 c.ly=true):Ln (oCf c).ly=Ln c.ly:=by
  unfold Ln
  rw [(oLy h).2]; rfl
theorem oCfg {c:Cfg} (h:cfgRight_v0 c=true):cfgRight_v0 (oCf c)=true:=by
  have hc:=cfg_t h
  have hm:rawRight_v0 (oCf c).mode=true:=by
    show rawRight_v0 (IntKind.i64.wrap (3 - c.mode))=true
    rcases hc.2.1 with e | e <;> rw [e] <;> rfl
  unfold cfgRight_v0
  rw [(oLy hc.1).1,hm]
  show (bif true then (bif true then (bif rulesRight_v0 c.rules then (bif decide (1≤c.log) then decide (c.log≤256) else false) else false) else false) else false)=true
  rw [hc.2.2.1,decide_eq_true hc.2.2.2.1,decide_eq_true hc.2.2.2.2]; rfl
theorem oLreq {c:Cfg} (h:lyRight_v0 c.ly=true) (x:Stp):lreq_v0 (oCf c) x=lreq_v0 c x:=by
  have e:=oLn h
  unfold Ln at e
  unfold lreq_v0
  rw [e]
def bI (c:Cfg) (l:List Stp):Nat→MchS
  | 0=>mNewM_s (oCf c)
  | i + 1=>bif (bif (decide ((l.getD i eStp0).kind=2)) then true else (decide ((l.getD i eStp0).kind=3))) then (mDo_s (bI c l i) (l.getD i eStp0)) else (bI c l i)
def rdS (i:Nat):Stp:=(⟨1,((i:Nat):Int),fun _=>0,0,(⟨0,0,0,0,0,0,0,0⟩:Flt)⟩:Stp)
def bR (c:Cfg) (l:List Stp):Nat→MchS
  | 0=>bI c l l.length
  | i + 1=>mDo_s (bR c l i) (rdS i)
theorem rdS_ok (i:Nat):StpOk (rdS i):=⟨fun _=>(by decide:(0:Nat) < 256),(by decide:(0:Nat) < 18446744073709551616)⟩
theorem rdS_right (i:Nat):stpRight (rdS i)=true:=by
  have h:eqA (nf (fun _=>0)) (nf (fun _=>0)) 64 0=true:=eqA_same _
  unfold stpRight rdS
  simp only [show decide ((1:Int)=8)=false from rfl,cond_false]
  unfold sright_v0 sbare_v0
  simp [h]
  try unfold sbare_v1
  try unfold sbare_v2
  try simp [h]
theorem QC.idl {c:Cfg} {s:MchS} {x:Stp} (hc:cfgRight_v0 c=true) (h:QC c s.ideal s.c) (hx:StpOk x) (hq:lreq_v0 c x=true):(mDo_s s x).ideal=idOf s x:=by
  obtain ⟨hr,hk,hn,hm⟩:=lreq_t hq
  have k1:=right_k hr
  obtain ⟨e1,e2,e3,e4⟩:=mDo_1 (s:=s) hr hk
  obtain ⟨_,v0,_,_⟩:=h.do hc hx hq
  rw [e2] at v0
  have v0:mRequest_v0 { s with steps:=IntKind.i64.wrap (s.steps + 1) } x=0:=by omega
  rw [e1]
  unfold mRequest_v0 at v0
  unfold mRequest_s idOf
  rcases (by omega:x.kind=1 ∨ x.kind=2 ∨ x.kind=3) with q | q | q
  · rw [decide_eq_true q] at v0 ⊢
    have v0:cread_v1 s.c x.line s.c.le.c.back=0:=v0
    rw [decide_eq_false (show ¬ x.kind=2 by omega),decide_eq_false (show ¬ x.kind=3 by omega),decide_eq_false (show ¬ ((cread_v1 s.c x.line s.c.le.c.back:Nat):Int)=30 by rw [v0]; decide)]; rfl
  · rw [decide_eq_false (show ¬ x.kind=1 by omega),decide_eq_true q] at v0 ⊢
    have v0:cMasked_v0 s.c x.line (arL x.data 64 0) 18446744073709551615=0:=v0
    rw [decide_eq_false (show ¬ ((cMasked_v0 s.c x.line (arL x.data 64 0) 18446744073709551615:Nat):Int)=30 by rw [v0]; decide)]; rfl
  · rw [decide_eq_false (show ¬ x.kind=1 by omega),decide_eq_false (show ¬ x.kind=2 by omega)] at v0 ⊢
    have v0:cMasked_v0 s.c x.line (arL x.data 64 0) x.mask=0:=v0
    rw [decide_eq_true q,decide_eq_false (show ¬ ((cMasked_v0 s.c x.line (arL x.data 64 0) x.mask:Nat):Int)=30 by rw [v0]; decide)]; rfl
theorem QC.ly {c:Cfg} {id:Int→Nat→Nat} {s:CtlS} (h:QC c id s):s.le.rep.m.l=c.ly:=by rw [h.le.rep]; rfl
theorem QC.bad {c:Cfg} {s:MchS} {x:Stp} (h:QC c s.ideal s.c) (hk:x.kind≤3) (hq:lreq_v0 c x=false):(mDo_s s x).ideal=s.ideal∧(mDo_s s x).c=s.c:=by
  have hb:stpBad c x:=by
    rcases lreq_f hq with h | ⟨_,h,_⟩
    · exact h
    · omega
  obtain ⟨k,e⟩:=(bad_do h.ly hb).1
  rw [e]; exact ⟨rfl,rfl⟩
structure BI (c:Cfg) (n:Nat) (id:Int→Nat→Nat) (s:MchS):Prop where
  q:QC (oCf c) s.ideal s.c
  id:s.ideal=id
  ok:MchOk n s
theorem bI_all {c : Cfg} (hc : cfgRight_v0 c = true) {l : List Stp} (hs : ∀ x ∈ l, StpOk x) : ∀ i, i ≤ l.length → BI c (8388608 + 4 * i) (mrS (mNewM_s c) l i).ideal (bI c l i)
  | 0,_=>⟨ctlN_q (oCfg hc),rfl,mNewM_ok (oCfg hc)⟩
  | i + 1, hi => by
    obtain ⟨q,e,ok⟩:=bI_all hc hs i (by omega)
    have ho:=oCfg hc
    have hx:=stp_at hs (show i < l.length by omega)
    have hw:=oLreq (cfg_t hc).1 (l.getD i eStp0)
    rw [bI,mrS]
    generalize l.getD i eStp0=x at hx hw ⊢
    have ha:(mDo_s (mrS (mNewM_s c) l i) x).ideal=bif lreq_v0 c x then idOf (mrS (mNewM_s c) l i) x else (mrS (mNewM_s c) l i).ideal:=by
      cases h:lreq_v0 c x with
      | true=>exact (mDo_req (mrS_ci hc l i) (mrS_ly c l i) h).2.1
      | false=>exact (mDo_nreq (mrS_ly c l i) h).2
    have hid:∀ a b:MchS,a.ideal=b.ideal→idOf a x=idOf b x:=fun a b h=>by unfold idOf; rw [h]
    have wr:x.kind=2 ∨ x.kind=3→BI c (8388608 + 4 * (i + 1)) (mDo_s (mrS (mNewM_s c) l i) x).ideal (mDo_s (bI c l i) x):=fun k=>by
      have okd:MchOk (8388608 + 4 * (i + 1)) (mDo_s (bI c l i) x):=(mDo_ok ok hx).mono (by omega)
      cases h:lreq_v0 c x with
      | true =>
        rw [h] at hw ha
        refine ⟨(q.do ho hx hw).1,?_,okd⟩
        rw [q.idl ho hx hw,ha,cond_true]
        exact hid _ _ e
      | false =>
        rw [h] at hw ha
        obtain ⟨b1,b2⟩:=q.bad (by omega) hw
        refine ⟨by rw [b1,b2]; exact q,?_,okd⟩
        rw [b1,ha,e]; rfl
    cases k2:decide (x.kind=2) with
    | true=>exact wr (Or.inl (of_decide_eq_true k2))
    | false =>
      cases k3:decide (x.kind=3) with
      | true=>exact wr (Or.inr (of_decide_eq_true k3))
      | false =>
        refine ⟨q,?_,ok.mono (by omega)⟩
        show (bI c l i).ideal=_
        rw [ha,e]
        unfold idOf
        rw [k2,k3]
        cases lreq_v0 c x <;> rfl
theorem rd_lreq {c:Cfg} {i:Nat} (h:((i:Nat):Int) < Ln c.ly):lreq_v0 c (rdS i)=true:=by
  unfold Ln at h
  unfold lreq_v0
  rw [rdS_right]
  show (bif true then (bif (decide ((1:Int)≤3)) then (bif (decide (0≤((i:Nat):Int))) then (bif (decide (((i:Nat):Int) < IntKind.i64.wrap ((lySeen_v0 c.ly) * c.ly.g.cols))) then _ else false) else false) else false) else false)=true
  rw [decide_eq_true (show (0:Int)≤((i:Nat):Int) by omega),decide_eq_true h]; rfl
theorem ln_lt {l:Ly} {i:Nat} (h:i < (Ln l).toNat):((i:Nat):Int) < Ln l:=by omega
theorem ln_end (l:Ly):¬ (((Ln l).toNat:Nat):Int) < Ln l:=by omega
theorem bR_all {c:Cfg} (hc:cfgRight_v0 c=true) {l:List Stp} (hs:∀ x ∈ l,StpOk x):∀ i,i≤(Ln c.ly).toNat→BI c (8388608 + 4 * l.length + 4 * i) (mrS (mNewM_s c) l l.length).ideal (bR c l i)
  | 0,_=>bI_all hc hs l.length (Nat.le_refl _)
  | i + 1,hi=>by
    obtain ⟨q,e,ok⟩:=bR_all hc hs i (by omega)
    have hq:lreq_v0 (oCf c) (rdS i)=true:=rd_lreq (by rw [oLn (cfg_t hc).1]; exact ln_lt (by omega))
    obtain ⟨d1,_,_,d4⟩:=q.do (oCfg hc) (rdS_ok i) hq
    exact ⟨d1,by rw [bR,(d4 rfl).1]; exact e,(mDo_ok ok (rdS_ok i)).mono (by omega)⟩
theorem bR_ans {c:Cfg} (hc:cfgRight_v0 c=true) {l:List Stp} (hs:∀ x ∈ l,StpOk x) {i:Nat} (hi:i < (Ln c.ly).toNat):mDo_v0 (bR c l i) (rdS i)=0∧mDo_v1 (bR c l i) (rdS i)=0∧∀ j,j < 64→mDo_v2 (bR c l i) (rdS i) j=(mrS (mNewM_s c) l l.length).ideal ((i:Nat):Int) j:=by
  obtain ⟨q,e,_⟩:=bR_all hc hs i (by omega)
  have hq:lreq_v0 (oCf c) (rdS i)=true:=rd_lreq (by rw [oLn (cfg_t hc).1]; exact ln_lt hi)
  obtain ⟨_,d2,d3,d4⟩:=q.do (oCfg hc) (rdS_ok i) hq
  exact ⟨d2,d3,fun j hj=>by rw [(d4 rfl).2 j hj,e]; rfl⟩
theorem Ln_le {l:Ly} (h:lyRight_v0 l=true):(Ln l).toNat≤8388608:=by have:=(ly_rt h).2.2.2.2.2.2.2.1; unfold Ln; omega
def smI (c:Cfg) (l:List Stp) (n:Int):Nat→Bool
  | 0=>eqA (nf ((mrS (mNewM_s c) l l.length).ideal n)) (nf ((bI c l l.length).ideal n)) 64 0
  | i + 1=>bif smI c l n i then (eqA (nf ((mrS (mNewM_s c) l l.length).ideal ((i:Nat):Int))) (nf ((bR c l i).ideal ((i:Nat):Int))) 64 0) else false
theorem smI_t {c:Cfg} (hc:cfgRight_v0 c=true) {l:List Stp} (hs:∀ x ∈ l,StpOk x) (n:Int):∀ i,i≤(Ln c.ly).toNat→smI c l n i=true
  | 0,_=>by rw [smI,(bI_all hc hs l.length (Nat.le_refl _)).id]; exact eqA_same _
  | i + 1,hi=>by
    rw [smI,smI_t hc hs n i (by omega),(bR_all hc hs i (by omega)).id,cond_true]; exact eqA_same _
theorem rd_tx {c:Cfg} (hc:cfgRight_v0 c=true) {l:List Stp} (hs:∀ x ∈ l,StpOk x) {i:Nat} (hi:i < (Ln c.ly).toNat):((decide ((mDo_v0 (bR c l i) (rdS i))=0)) && ((decide ((mDo_v1 (bR c l i) (rdS i))=0)) && ((eqA (nf (mDo_v2 (bR c l i) (rdS i))) (nf ((mrS (mNewM_s c) l l.length).ideal ((i:Nat):Int))) 64 0) && true)))=true:=by
  obtain ⟨h1,h2,h3⟩:=bR_ans hc hs hi
  rw [h1,h2,show eqA (nf (mDo_v2 (bR c l i) (rdS i))) (nf ((mrS (mNewM_s c) l l.length).ideal ((i:Nat):Int))) 64 0=true from eqA_iff.2 fun j _ hj=>by show ((_:Nat):Int)=((_:Nat):Int); rw [h3 j (by omega)]]
  rfl
end Go.Proofs.YtoflmffbkdekcaaGreat
