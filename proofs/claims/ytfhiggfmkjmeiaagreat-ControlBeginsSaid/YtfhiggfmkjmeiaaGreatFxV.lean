import Derived.Test.YtfhiggfmkjmeiaaGreatRows
import Derived.WalkKit
import Derived.Deep.Quiet
import Derived.Deep.QuietTactic
import Derived.StillTail
import Derived.OwnWalkIn
import Derived.OrdersIn
import Derived.RangeFuncCalls
import Derived.Deep.LoopGhost
import Derived.MapFrom
import Derived.RangeFuncNested
import Derived.RangeFuncLeaves
import Derived.RangeFuncBound
import Derived.Shelf.Abstract
import Derived.ChangeKeysEq
set_option linter.all false
namespace Go.Proofs.YtfhiggfmkjmeiaaGreat
open Go
theorem tq {p:Prop} [Decidable p] (h:p):decide p=true:=decide_eq_true h
theorem fq {p:Prop} [Decidable p] (h:¬p):decide p=false:=decide_eq_false h
theorem otq {p:Prop} [Decidable p] (h:decide p=true):p:=of_decide_eq_true h
theorem ofq {p:Prop} [Decidable p] (h:decide p=false):¬p:=of_decide_eq_false h
theorem bq (a b:Bool):((a && b)=true)=(a=true/\b=true):=Bool.and_eq_true a b
theorem sQT (p:Prop) [Decidable p] (h:p):decide p=true:=decide_eq_true h
theorem sQF (p:Prop) [Decidable p] (h:¬p):decide p=false:=decide_eq_false h
section
variable {P:Program} {ops:Array Oper} {md:Region.Mode} {C:World->Prop}
def A8n (P:Program) (md:Region.Mode) (ops:Array Oper) (C:World->Prop) (n:Nat) (L:Array Bool->Act->Prop):Nat->Array Bool->Act->Prop
 | 0,listed,a=>L listed a
 | f + 1,listed,a=>Region.ready md ops listed ≠ []/\∀ i ∈ Region.ready md ops listed,i < n/\qOp P ops C i (A8n P md ops C n L f (listed.setIfInBounds i true)) a
theorem A8o {n i:Nat} {oi:Oper} {v:Value} {L:Array Bool->Act->Prop} (hi:ops[i]?=some oi) (hsel:∀ (j:Nat) (o:Oper) cs b,ops[j]?=some o->o.op ≠ .select cs b)
   (hs:Region.sinkB md ops n=true) (hc:Region.chainB md ops n=true) (hn:n < ops.size) (hin:i < n)
   (hdone:∀ listed a,L listed a->∀ j ∈ Region.ready md ops listed,n<=j) (f:Nat) :
   ∀ (listed:Array Bool) (a:Act),HeadInv md ops n listed ->
     (∀ j oj,ops[j]?=some oj->j ≠ i->listed.getD j true=false->(∀ e ∈ oj.after,Region.binds md e=true->e.on ≠ i)->oi.apart ops oj=true) ->
     i ∈ Region.ready md ops listed->YieldsIn P ops C oi v a ->
     A8n P md ops C n L f (listed.setIfInBounds i true) (a.put oi.dst v)->A8n P md ops C n L (f + 1) listed a:=by
 induction f with
 | zero =>
   intro listed a inv _ hr hy H
   refine ⟨fun h=>(by rw [h] at hr; cases hr),fun j hj=>?_⟩
   have hjn:j < n:=Nat.lt_of_not_le fun h=>tail_waits hs hc hn inv _ i rfl hin (mem_ready.1 hr).1 j h hj
   refine ⟨hjn,?_⟩
   by_cases hji:j=i
   ·subst hji; exact hy.qOp hi H
   ·have:=hdone _ _ H j (ready_mono hj hji)
    omega
 | succ f ih =>
   intro listed a inv hfree hr hy H
   refine ⟨fun h=>(by rw [h] at hr; cases hr),fun j hj=>?_⟩
   have hjn:j < n:=Nat.lt_of_not_le fun h=>tail_waits hs hc hn inv _ i rfl hin (mem_ready.1 hr).1 j h hj
   refine ⟨hjn,?_⟩
   by_cases hji:j=i
   ·subst hji; exact hy.qOp hi H
   ·have h1:=(H.2 j (ready_mono hj hji)).2
    obtain ⟨hjun,oj,hoj,hall⟩:=mem_ready.1 hj
    have hnot:∀ e ∈ oj.after,Region.binds md e=true->e.on ≠ i:=fun e he hb heq=>by
     have h1:=hall e he hb
     rw [heq,getD_both (mem_ready.1 hr).1] at h1
     cases h1
    have h2:=qOp_put hoj (hfree j oj hoj hji hjun hnot) (fun cs b=>hsel i oi cs b hi) (fun cs b=>hsel j oj cs b hoj) hy h1
    refine qOp_mono (fun a' h3=>ih (listed.setIfInBounds j true) a' (inv.set hj hjn) (fun k ok hk hki hun hno=>hfree k ok hk hki ?_ hno) (ready_mono hr (Ne.symm hji)) h3.1 ?_) h2
    ·by_cases hjk:j=k
     ·subst hjk; exact hjun
     ·rw [getD_set_ne true hjk] at hun; exact hun
    ·rw [Array.setIfInBounds_comm _ _ hji]
     exact h3.2
theorem A32 {n g:Nat} {Lq:Act->Prop} (hsel:Region.noSelect ops=true) (hs:Region.sinkB md ops n=true) (hc:Region.chainB md ops n=true) (hn:n < ops.size) :
   ∀ (l:List Oper) (k:Nat) (listed:Array Bool) (a:Act),(∀ j,j < l.length->l[j]?=ops[k + j]?)->k + l.length=n->HeadInv md ops n listed ->
   Region.lexHead md ops g l.length k listed=true->wpQuiet P ops C Lq l a ->
   A8n P md ops C n (fun listed' a'=>Region.seqB md ops g n listed'=true/\Lq a') l.length listed a
 | [],k,listed,a,_,hk,_,hB,h=>by
   obtain rfl:k=n:=by simpa using hk
   exact ⟨by simpa [Region.lexHead] using hB,h⟩
 | o :: l,k,listed,a,hl,hk,inv,hB,h=>by
   have h0:ops[k]?=some o:=by simpa using (hl 0 (by simp)).symm
   simp only [List.length_cons,Region.lexHead,bq] at hB
   obtain ⟨⟨hr,hf⟩,hB'⟩:=hB
   have hkn:k < n:=by simp only [List.length_cons] at hk; omega
   have hr':k ∈ Region.ready md ops listed:=by simpa using hr
   have hst:qOp P ops C k (wpQuiet P ops C Lq l) a:=by unfold qOp; simp only [h0]; exact h
   obtain ⟨v,hy,hK⟩:=yieldsIn_of_qOp h0 hst
   exact A8o h0 (Region.noSelect_spec hsel) hs hc hn hkn (fun listed' a' hL=>seqB_ready hL.1) l.length listed a inv (Region.free_spec h0 hf) hr' hy
    (A32 hsel hs hc hn l (k + 1) _ _ (fun j hj=>by have:=hl (j + 1) (by simp; omega); simpa [Nat.add_assoc,Nat.add_comm 1 j] using this) (by simp only [List.length_cons] at hk; omega) (inv.set hr' hkn) hB' hK)
end
end Go.Proofs.YtfhiggfmkjmeiaaGreat
namespace Go.Proofs.YtfhiggfmkjmeiaaGreat
open Go Go.RowKit
def Lc (z:Value):List MapEntry->Int->Value
 | [],_=>z
 | e :: es,k=>match e.key with
   | .int _ x=>if x=k then e.val else Lc z es k
   | _=>Lc z es k
structure MapFn (z:Value) (es:Array MapEntry) (F:Int->Value):Prop where
 keys:∀ x ∈ es.toList,MapKept.IsKey (.int .i64) x.key
 get:∀ k,Lc z es.toList k=F k
inductive Res where
 | blk (g:Nat) (cs:Array Value) (ty:TypeId)
 | row (v:Value) (ty:TypeId) (sz n:Nat) (xs:List Value)
 | obj (g:Nat) (o:Obj)
 | mp (g:Nat) (z:Value) (F:Int->Value)
 | objs (l:List Nat) (o:Obj)
def Res.fp:Res->List Nat
 | .blk g _ _=>[g]
 | .row v _ _ _ _=>v.ownBlock.toList
 | .obj g _=>[g]
 | .mp g _ _=>[g]
 | .objs l _=>l
def Res.ok (w:World):Res->Prop
 | .blk g cs ty=>w.heap[g]?=some (.cells cs ty (0,0))
 | .row v ty sz n xs=>w.ownsRow 0 ty sz v n xs
 | .obj g o=>w.heap[g]?=some o
 | .mp g z F=>∃ es cl,w.heap[g]?=some (.map es cl)/\MapFn z es F
 | .objs l o=>l.Nodup/\∀ g ∈ l,w.heap[g]?=some o
theorem Gx {w:World} {g:Nat} {o:Obj} (h:w.heap[g]?=some o):g < w.heap.size:=by
 rcases Nat.lt_or_ge g w.heap.size with h1 | h1
 ·exact h1
 ·rw [Array.getElem?_eq_none h1] at h; cases h
theorem Res.lt {w:World} {r:Res} (h:r.ok w):∀ g ∈ r.fp,g < w.heap.size:=by
 cases r with
 | blk g cs ty=>intro g' hg; simp only [Res.fp,List.mem_singleton] at hg; subst hg; exact Gx h
 | obj g o=>intro g' hg; simp only [Res.fp,List.mem_singleton] at hg; subst hg; exact Gx h
 | mp g z F=>obtain ⟨es,cl,h,_⟩:=h; intro g' hg; simp only [Res.fp,List.mem_singleton] at hg; subst hg; exact Gx h
 | objs l o=>exact fun g hg=>Gx (h.2 g hg)
 | row v ty sz n xs=>intro g' hg; simp only [Res.fp,Option.mem_toList] at hg; exact (World.ownsRow.lt h g' hg).2
theorem Res.keep {w w':World} {r:Res} (h:r.ok w) (hk:∀ g ∈ r.fp,w'.heap[g]?=w.heap[g]?):r.ok w':=by
 cases r with
 | blk g cs ty=>exact (hk g (by simp [Res.fp])).trans h
 | obj g o=>exact (hk g (by simp [Res.fp])).trans h
 | mp g z F=>obtain ⟨es,cl,h,hm⟩:=h; exact ⟨es,cl,(hk g (by simp [Res.fp])).trans h,hm⟩
 | objs l o=>exact ⟨h.1,fun g hg=>(hk g hg).trans (h.2 g hg)⟩
 | row v ty sz n xs =>
   obtain ⟨h1,h2⟩:=h
   refine ⟨h1,?_⟩
   rcases h2 with h2 | ⟨g,cap,cur,hv,hg,hh,r⟩
   ·exact .inl h2
   ·exact .inr ⟨g,cap,cur,hv,hg,by rw [hk g (by subst hv; simp [Res.fp,Value.ownBlock])]; exact hh,r⟩
structure Fr (M:List Nat) (w w':World):Prop where
 os:w'.os=w.os
 tape:w'.tape=w.tape
 output:w'.output=w.output
 size:w.heap.size<=w'.heap.size
 block:∀ k,k < w.heap.size->k ∉ M->w'.heap[k]?=w.heap[k]?
theorem Fr.refl (M:List Nat) (w:World):Fr M w w:=⟨rfl,rfl,rfl,Nat.le_refl _,fun _ _ _=>rfl⟩
theorem Fr.trans' {M N:List Nat} {a b c:World} (h:Fr M a b) (k:Fr N b c) (hN:∀ g ∈ N,g ∈ M ∨ a.heap.size<=g):Fr M a c :=
 ⟨k.os.trans h.os,k.tape.trans h.tape,k.output.trans h.output,Nat.le_trans h.size k.size,fun i hi hm=>(k.block i (Nat.lt_of_lt_of_le hi h.size) (fun hn=>by
  rcases hN i hn with h1 | h1
  ·exact hm h1
  ·omega)).trans (h.block i hi hm)⟩
theorem Fr.ofBelow {w w':World} (h:Below w.heap.size w w') (M:List Nat):Fr M w w':=⟨h.os,h.tape,h.output,h.size,fun k hk _=>h.block k hk⟩
theorem Fr.below {w w':World} (h:Fr [] w w'):Below w.heap.size w w':=⟨h.os,h.tape,h.output,h.size,fun k hk=>h.block k hk (by simp)⟩
structure Hs (M:List Nat) (w0 w:World) (L:List Res):Prop where
 ok:∀ (i:Nat) r,L[i]?=some r->r.ok w
 ap:∀ (i j:Nat) r s,i ≠ j->L[i]?=some r->L[j]?=some s->∀ g ∈ r.fp,g ∉ s.fp
 my:∀ (i:Nat) r,L[i]?=some r->∀ g ∈ r.fp,g ∈ M ∨ w0.heap.size<=g
 fr:Fr M w0 w
section
variable {M N:List Nat} {w0 w w':World} {L R A A':List Res}
theorem Hs.below (h:Hs [] w0 w L):Below w0.heap.size w0 w:=h.fr.below
theorem Hs.size (h:Hs M w0 w L):w0.heap.size<=w.heap.size:=h.fr.size
theorem Hs.lt (h:Hs M w0 w L) (i:Nat) {r:Res} (hi:L[i]?=some r):∀ g ∈ r.fp,g < w.heap.size:=Res.lt (h.ok i r hi)
theorem Hs.upd (h:Hs M w0 w L) (i:Nat) {r r':Res} (hi:L[i]?=some r) (hok:r'.ok w') (hfp:∀ g ∈ r'.fp,g ∈ r.fp ∨ w.heap.size<=g)
   (hos:w'.os=w.os) (htape:w'.tape=w.tape) (hout:w'.output=w.output) (hsz:w.heap.size<=w'.heap.size)
   (hk:∀ k,k < w.heap.size->k ∉ r.fp->w'.heap[k]?=w.heap[k]?):Hs M w0 w' (L.set i r'):=by
 have hil:i < L.length:=(List.getElem?_eq_some_iff.1 hi).1
 refine ⟨fun j s hj=>?_,fun j k s t hne hj hk' g hg hgt=>?_,fun j s hj g hg=>?_,?_⟩
 ·by_cases e:i=j
  ·subst e; rw [List.getElem?_set_self hil] at hj; cases hj; exact hok
  ·rw [List.getElem?_set_ne e] at hj
   exact Res.keep (h.ok j s hj) fun g hg=>hk g (h.lt j hj g hg) fun hg'=>h.ap i j r s e hi hj g hg' hg
 ·by_cases e:i=j
  ·subst e
   rw [List.getElem?_set_self hil] at hj; cases hj
   rw [List.getElem?_set_ne hne] at hk'
   rcases hfp g hg with h1 | h1
   ·exact h.ap i k r t hne hi hk' g h1 hgt
   ·have:=h.lt k hk' g hgt; omega
  ·rw [List.getElem?_set_ne e] at hj
   by_cases e2:i=k
   ·subst e2
    rw [List.getElem?_set_self hil] at hk'; cases hk'
    rcases hfp g hgt with h1 | h1
    ·exact h.ap j i s r hne hj hi g hg h1
    ·have:=h.lt j hj g hg; omega
   ·rw [List.getElem?_set_ne e2] at hk'
    exact h.ap j k s t hne hj hk' g hg hgt
 ·by_cases e:i=j
  ·subst e
   rw [List.getElem?_set_self hil] at hj; cases hj
   rcases hfp g hg with h1 | h1
   ·exact h.my i r hi g h1
   ·exact .inr (Nat.le_trans h.size h1)
  ·rw [List.getElem?_set_ne e] at hj; exact h.my j s hj g hg
 ·refine ⟨hos.trans h.fr.os,htape.trans h.fr.tape,hout.trans h.fr.output,Nat.le_trans h.size hsz,fun k hk1 hk2=>?_⟩
  refine (hk k (Nat.lt_of_lt_of_le hk1 h.size) fun hg=>?_).trans (h.fr.block k hk1 hk2)
  rcases h.my i r hi k hg with h1 | h1
  ·exact hk2 h1
  ·omega
theorem Hs.call (h:Hs M w0 w (A ++ R)) (h':Hs N w w' A') (hN:∀ g ∈ N,∃ (i:Nat) (r:Res),A[i]?=some r/\g ∈ r.fp):Hs M w0 w' (A' ++ R):=by
 have left:∀ {i:Nat} {r:Res},A[i]?=some r->(A ++ R)[i]?=some r:=fun {i r} hi=>by
  rw [List.getElem?_append_left (List.getElem?_eq_some_iff.1 hi).1]; exact hi
 have right:∀ {i:Nat} {r:Res},R[i]?=some r->(A ++ R)[A.length + i]?=some r:=fun {i r} hi=>by
  rw [List.getElem?_append_right (by omega)]; simpa using hi
 have apart:∀ {i:Nat} {r:Res},R[i]?=some r->∀ g ∈ r.fp,g ∉ N:=fun {i r} hi g hg hn=>by
  obtain ⟨j,s,hj,hs⟩:=hN g hn
  exact h.ap j (A.length + i) s r (by have:=(List.getElem?_eq_some_iff.1 hj).1; omega) (left hj) (right hi) g hs hg
 have mine:∀ g,(g ∈ N ∨ w.heap.size<=g)->g ∈ M ∨ w0.heap.size<=g:=fun g hg=>by
  rcases hg with hg | hg
  ·obtain ⟨j,s,hj,hs⟩:=hN g hg; exact h.my j s (left hj) g hs
  ·exact .inr (Nat.le_trans h.size hg)
 have rok:∀ {i:Nat} {r:Res},R[i]?=some r->r.ok w':=fun {i r} hi=>Res.keep (h.ok _ r (right hi)) fun g hg=>h'.fr.block g (h.lt _ (right hi) g hg) (apart hi g hg)
 have split:∀ {j:Nat} {s:Res},(A' ++ R)[j]?=some s->A'[j]?=some s ∨ ∃ i,j=A'.length + i/\R[i]?=some s:=fun {j s} hj=>by
  rcases Nat.lt_or_ge j A'.length with h1 | h1
  ·rw [List.getElem?_append_left h1] at hj; exact .inl hj
  ·rw [List.getElem?_append_right h1] at hj; exact .inr ⟨j - A'.length,by omega,hj⟩
 have cross:∀ {i k:Nat} {r s:Res},A'[i]?=some r->R[k]?=some s->∀ g,g ∈ r.fp->g ∈ s.fp->False:=fun {i k r s} hi hk g hg hs=>by
  rcases h'.my i r hi g hg with h1 | h1
  ·exact apart hk g hs h1
  ·have:=h.lt _ (right hk) g hs; omega
 refine ⟨fun j s hj=>?_,fun j k s t hne hj hk g hg hgt=>?_,fun j s hj g hg=>?_,h.fr.trans' h'.fr fun g hg=>mine g (.inl hg)⟩
 ·rcases split hj with h1 | ⟨i,_,h1⟩
  ·exact h'.ok j s h1
  ·exact rok h1
 ·rcases split hj with h1 | ⟨i,e1,h1⟩ <;> rcases split hk with h2 | ⟨i2,e2,h2⟩
  ·exact h'.ap j k s t hne h1 h2 g hg hgt
  ·exact cross h1 h2 g hg hgt
  ·exact cross h2 h1 g hgt hg
  ·exact h.ap (A.length + i) (A.length + i2) s t (by omega) (right h1) (right h2) g hg hgt
 ·rcases split hj with h1 | ⟨i,e1,h1⟩
  ·exact mine g (h'.my j s h1 g hg)
  ·exact h.my _ s (right h1) g hg
theorem Hs.via (h:Hs M w0 w L) (hb:Below w.heap.size w w'):Hs M w0 w' L:=by
 have:=Hs.call (A:=[]) (R:=L) (A':=[]) (N:=[]) h ⟨fun i r h=>by simp at h,fun i j r s _ h=>by simp at h,fun i r h=>by simp at h,Fr.ofBelow hb []⟩ (fun g hg=>by simp at hg)
 simpa using this
theorem Hs.drew (h:Hs M w0 w L):Hs M w0 w.drew L:=h.via ((Below.refl _ _).drew)
theorem Hs.init (hok:∀ (i:Nat) r,L[i]?=some r->r.ok w) (hap:∀ (i j:Nat) r s,i ≠ j->L[i]?=some r->L[j]?=some s->∀ g ∈ r.fp,g ∉ s.fp)
   (hM:∀ (i:Nat) r,L[i]?=some r->∀ g ∈ r.fp,g ∈ M):Hs M w w L:=⟨hok,hap,fun i r hi g hg=>.inl (hM i r hi g hg),Fr.refl _ _⟩
theorem Hs.enter (h:Hs M w0 w L) (hM:∀ (i:Nat) r,L[i]?=some r->∀ g ∈ r.fp,g ∈ N):Hs N w w L:=Hs.init h.ok h.ap hM
theorem Fx (w:World) (o:Obj):(w.alloc o).heap[w.heap.size]?=some o:=by
 show (w.heap.push o)[w.heap.size]?=_
 simp
end
def FW (ρ:Option Nat):Fence:={ fn:=fun _=>True,depth:=none,alive:=false,round:=ρ }
theorem Xu {ρ:Option Nat} {n:Nat} {P:Program} {f:FuncId} {args:Array Value} {w:World} {R:Ending->World->Prop}:CallsIn (FW ρ) n P f args w R ↔ Calls P f args w R :=
 callsIn_wide (n:=n)
structure XL (ρ:Option Nat) (P:Program) (ops:Array Oper) (Q:Exit->Act->World->Prop) (l:List Oper) (a:Act) (w:World):Prop where
 out:wpListIn (FW ρ) 0 P ops Q l a w
structure XC (ρ:Option Nat) (P:Program) (c:Code) (Q:Exit->Act->World->Prop) (a:Act) (w:World):Prop where
 out:c.wpIn (FW ρ) 0 P Q a w
structure XQ (P:Program) (ops:Array Oper) (C:World->Prop) (Q:Act->Prop) (l:List Oper) (a:Act):Prop where
 out:wpQuiet P ops C Q l a
theorem Ah2 {P:Program} {f:FuncId} {fn:Func} {c:Code} {args:Array Value} {w:World} {R:Ending->World->Prop} (hf:P.funcs[f]?=some fn) (hb:fn.body=some c) (tm:Array Value)
    (ht:args ++ Array.replicate (fn.ntmps - args.size) undef=tm) (h:XC none P c (bodyPost P fn R) { tmps:=tm,defers:=[] } w):Calls P f args w R :=
 Xu.1 (callsIn_of_wp hf hb trivial (by rw [ht]; exact h.out) rfl)
def N1 (o:Oper):Bool:=match o.op with | .defer _=>false | _=>true
theorem Mw {o:Oper} (h:N1 o=true) (ρ:Option Nat) (e:Operand->Value):Oper.semAt ρ e o=execOp e o :=
 Oper.semAt_eq ρ e o fun c hc=>by unfold N1 at h; rw [hc] at h; cases h
section
variable {ρ:Option Nat} {P:Program} {ops:Array Oper} {Q:Exit->Act->World->Prop} {a:Act} {w w' w0:World} {o:Oper} {rest:List Oper} {M N:List Nat} {L L':List Res}
theorem Ah3 {v:Value} (hw:Region.wanted o (yielded ops a.tmps)=true) (hd:N1 o=true) (h:(execOp a.eval o).run P w=.ok (.value v) w')
    (k:XL ρ P ops Q rest (a.put o.dst v) w'):XL ρ P ops Q (o :: rest) a w:=by
 refine ⟨?_⟩
 unfold wpListIn
 rw [if_pos hw]
 exact ⟨fun _ _=>trivial,by rw [Mw hd,h]; exact k.out⟩
theorem B2j (hw:Region.wanted o (yielded ops a.tmps)=true) (hd:N1 o=true) (h:(execOp a.eval o).run P w=.ok .skip w')
    (k:XL ρ P ops Q rest (a.put o.dst undef) w'):XL ρ P ops Q (o :: rest) a w:=by
 refine ⟨?_⟩
 unfold wpListIn
 rw [if_pos hw]
 exact ⟨fun _ _=>trivial,by rw [Mw hd,h]; exact k.out⟩
theorem D6 (v:Value) (hw:Region.wanted o (yielded ops a.tmps)=true) (hd:N1 o=true) (h:(execOp a.eval o).run P w=.ok (.value v) w)
    (k:XL ρ P ops Q rest (a.put o.dst v) w):XL ρ P ops Q (o :: rest) a w:=Ah3 hw hd h k
theorem Aqi (hw:Region.wanted o (yielded ops a.tmps)=false) (k:XL ρ P ops Q rest (a.put o.dst undef) w):XL ρ P ops Q (o :: rest) a w:=by
 refine ⟨?_⟩
 unfold wpListIn
 rw [if_neg (by rw [hw]; exact Bool.false_ne_true)]
 exact ⟨fun _ _=>trivial,k.out⟩
def ldA (ad:Addr) (n:Nat):Sem Next:=(loadCells ad n).bind fun cs=>.pure (.value (.agg cs))
def stS (ad:Addr) (vs:List Value):Sem Next:=(storeCells ad vs 0).bind fun _=>.pure .skip
def ldV (t:TypeId) (ad:Addr):Sem Next:=loadVar t ad >>= fun v=>pure (Next.value v)
def stV (t:TypeId) (ad:Addr) (v:Value):Sem Next:=storeVar t ad v >>= fun _=>pure Next.skip
def Kl (P:Program) (t:TypeId):Option Nat :=
 match P.underlying t,P.info? t with
 | some (.struct _),some i=>some i.size
 | some (.array _ _),some i=>some i.size
 | _,_=>none
theorem Atq {t:TypeId} {n:Nat} (h:Kl P t=some n) (ad:Addr):(ldV t ad).run P w=(ldA ad n).run P w:=by
 unfold Kl at h
 cases hu:P.underlying t with
 | none=>rw [hu] at h; cases h
 | some d =>
   cases hi:P.info? t with
   | none=>rw [hu,hi] at h; cases d <;> cases h
   | some i =>
     rw [hu,hi] at h
     have hr:=run_underlying hu w
     have e:(ldA ad n)=(loadCells ad n >>= fun cs=>pure (Next.value (Value.agg cs))):=rfl
     rw [e]
     cases d <;> (simp only at h) <;> cases h
     all_goals simp only [ldV,loadVar,isAgg,Sem.run_bind,hr,Result.andThen_ok,Sem.run_pure,if_true,sizeOf,typeInfo,run_program,hi]
     all_goals (cases (loadCells ad i.size).run P w <;> rfl)
theorem Atr {t:TypeId} {n:Nat} {v:Value} (h:(P.info? t).map (·.size)=some n) (hv:v.cells.toList.length=n) (ad:Addr):(stV t ad v).run P w=(stS ad v.cells.toList).run P w:=by
 cases hi:P.info? t with
 | none=>rw [hi] at h; cases h
 | some i =>
   rw [hi] at h
   have h3:i.size=n:=by simpa using h
   have e:(stS ad v.cells.toList)=(storeCells ad v.cells.toList 0 >>= fun _=>pure Next.skip):=rfl
   rw [e]
   have h4:¬ v.cells.size ≠ i.size:=by rw [h3]; simpa using hv
   simp only [stV,storeVar,Sem.run_bind,sizeOf,typeInfo,run_program,hi,Result.andThen_ok,Sem.run_pure,if_neg h4]
theorem Nv (g o i:Nat):(⟨g,o,none⟩:Addr).add i=⟨g,o + i,none⟩:=by unfold Addr.add; split <;> simp_all
theorem Atp {g o:Nat} (vs:List Value) (h:∀ (j:Nat) v,vs[j]?=some v->w.cell? ⟨g,o + j,none⟩=some v):(ldA ⟨g,o,none⟩ vs.length).run P w=.ok (.value (.agg vs.toArray)) w:=by
 have:=run_loadCells_list (P:=P) w ⟨g,o,none⟩ vs (fun j v hv=>by rw [Nv]; exact h j v hv)
 unfold ldA
 show Sem.run P ((loadCells ⟨g,o,none⟩ vs.length) >>= fun cs=>pure (Next.value (Value.agg cs))) w=_
 rw [Sem.run_bind,this]
 rfl
theorem Akb {g o:Nat} {cs:Array Value} {ty:TypeId} {v:Value} (h:w.heap[g]?=some (.cells cs ty (0,0))) (hv:cs[o]?=some v):w.cell? ⟨g,o,none⟩=some v:=by
 simp [World.cell?,h,hv]
theorem Agl {g o:Nat} {cs:Array Value} {ty:TypeId} (vs:List Value) (cs':Array Value) (h:w.heap[g]?=some (.cells cs ty (0,0))) (hl:o + vs.length<=cs.size) (h1:vs.all Value.oneCell'=true)
   (hcs:(cs.toList.take o ++ vs ++ cs.toList.drop (o + vs.length)).toArray=cs'):(stS ⟨g,o,none⟩ vs).run P w=.ok .skip (w.setRow g cs'):=by
 have:=run_storeCells_at P g o ty vs 0 cs w h (by simpa using hl) (fun v hv=>List.all_eq_true.1 h1 v hv)
 unfold stS
 show Sem.run P ((storeCells ⟨g,o,none⟩ vs 0)    >>= fun _=>pure Next.skip) w=_
 rw [Sem.run_bind,this,← hcs]
 rfl
theorem Qj (w:World) (g:Nat) (cs cs':Array Value) (ty:TypeId) (fr:Nat × Nat) (h:w.heap[g]?=some (.cells cs ty fr)):(w.setRow g cs').heap[g]?=some (.cells cs' ty fr):=setRow_heap w g cs cs' ty fr h
theorem Mn (w:World) (g k:Nat) (cs':Array Value) (h:k ≠ g):(w.setRow g cs').heap[k]?=w.heap[k]?:=by
 unfold World.setRow
 simp only [Array.getElem?_modify]
 rw [if_neg (fun e=>h e.symm)]
theorem Gq {id:Nat} {l:List Oper} (h:XL ρ P l.toArray Q l a w):XC ρ P (Code.region id l.toArray false) Q a w:=⟨wpIn_region_lit h.out⟩
theorem L4 (h:Q .normal a w):XL ρ P ops Q [] a w:=⟨h⟩
theorem L5 {x y:Code} (h:XC ρ P x (Exit.then (XC ρ P y Q) Q) a w):XC ρ P (Code.seq x y) Q a w :=
 ⟨wpIn_seq (wpIn_mono h.out fun e a w hq=>by cases e <;> first | exact hq.out | exact hq)⟩
theorem A75 (h:Q .normal a w):XC ρ P .skip Q a w:=⟨wpIn_skip h⟩
theorem Aqg {id:Nat} (h:Q (.exit id) a w):XC ρ P (.exit id) Q a w:=⟨wpIn_exit h⟩
theorem A74 (h:Q .ret a w):XC ρ P .ret Q a w:=⟨wpIn_ret h⟩
theorem Au3 {id:Nat} {c:Code} (h:XC ρ P c (Exit.inBlock id Q) a w):XC ρ P (.block id c) Q a w:=⟨wpIn_block h.out⟩
theorem I4 {next:Act->World->Prop} (h:next a w):Exit.then next Q .normal a w:=h
theorem Adt {id:Nat} (h:Q .normal a w):Exit.inBlock id Q (.exit id) a w:=by simpa [Exit.inBlock] using h
theorem Ajm {id id':Nat} (hne:id' ≠ id) (h:Q (.exit id') a w):Exit.inBlock id Q (.exit id') a w:=by simpa [Exit.inBlock,hne] using h
theorem x_t {c:Operand} {x y:Code} (hc:a.eval c=.bool true) (h:XC ρ P x Q a w):XC ρ P (Code.cond c x y) Q a w:=⟨wpIn_cond_true hc h.out⟩
theorem x_f {c:Operand} {x y:Code} (hc:a.eval c=.bool false) (h:XC ρ P y Q a w):XC ρ P (Code.cond c x y) Q a w:=⟨wpIn_cond_false hc h.out⟩
theorem Aqh {G:Type} {c:Code} (I:G->Act->World->Prop) (μ:G->Nat) (g0:G) (h0:I g0 a w)
   (round:∀ g a w,I g a w->XC ρ P c (Exit.then (fun a' w'=>∃ g',μ g' < μ g/\I g' a' w') Q) a w):XC ρ P (Code.loop c) Q a w:=by
 refine ⟨wpIn_loop (fun a w=>∃ n,∃ g,μ g=n/\I g a w) (fun a w=>leastOf (fun n=>∃ g,μ g=n/\I g a w)) ⟨_,g0,rfl,h0⟩ ?_⟩
 intro a w hI
 obtain ⟨⟨g,hg,hIg⟩,hmin⟩:=leastOf_spec hI
 refine wpIn_mono (round g a w hIg).out ?_
 intro e a' w' hq
 cases e with
 | normal =>
   obtain ⟨g',hlt,hI'⟩:=hq
   have h2:=(leastOf_spec (p:=fun n=>∃ g,μ g=n/\I g a' w') ⟨_,g',rfl,hI'⟩).2 (μ g') ⟨g',rfl,hI'⟩
   exact show (∃ n,∃ g,μ g=n/\I g a' w')/\leastOf (fun n=>∃ g,μ g=n/\I g a' w') < leastOf (fun n=>∃ g,μ g=n/\I g a w) from
    ⟨⟨_,g',rfl,hI'⟩,by rw [← hg]; exact Nat.lt_of_le_of_lt h2 hlt⟩
 | exit id=>exact hq
 | goto l=>exact hq
 | ret=>exact hq
 | panic ch=>exact hq
 | outgrown=>exact hq
theorem Avr {fn:Func} {R:Ending->World->Prop} (v:Value) (hd:a.defers=[]) (hv:(results fn a.tmps).run P w=.ok v w) (hR:R (.returned v) w):bodyPost P fn R .ret a w:=⟨hd,v,hv,hR⟩
end
section
variable {ρ:Option Nat} {P:Program} {ops:Array Oper} {md:Region.Mode} {C:World->Prop}
theorem A2g {o:Oper} {a:Act} {K:Act->Prop} {K':Act->World->Prop} {Q':Exit->Act->World->Prop} {w:World} (hd:N1 o=true) (hw:C w) (h:∀ a w',C w'->K a->K' a w') (hh:o.quiet P a C K):o.wpIn (FW ρ) 0 P a w K' Q':=by
 obtain ⟨v,h1,h2⟩:=hh
 have h3:=h1 w hw
 unfold Oper.quietAt at h3
 refine ⟨fun _ _=>trivial,?_⟩
 rw [Mw hd]
 generalize (execOp a.eval o).run P w=r at *
 cases r with
 | ok n w' =>
   cases n <;> simp only [Oper.quietUpon] at h3 <;> simp only [Oper.uponIn]
   case value u =>
    obtain ⟨e1,e2⟩:=h3
    rw [e1,e2]
    exact h _ _ hw h2
   case skip =>
    obtain ⟨e1,e2⟩:=h3
    rw [e1,← e2]
    exact h _ _ hw h2
   case enter f args =>
    obtain ⟨e1,hc⟩:=h3
    rw [e1]
    exact ⟨fun h=>(by cases h),Xu.2 (hc.mono fun e w'' ⟨he,hw''⟩=>by subst he; exact h _ _ hw'' h2)⟩
 | halt x w'=>simp only [Oper.quietUpon] at h3
theorem Avv {i:Nat} {o:Oper} (h:ops.all N1=true) (hi:ops[i]?=some o):N1 o=true:=Array.all_eq_true_iff_forall_mem.1 h o (Array.mem_of_getElem? hi)
theorem A9o {i:Nat} {a:Act} {K:Act->Prop} {K':Act->World->Prop} {Q':Exit->Act->World->Prop} {w:World} (hall:ops.all N1=true) (hC:C w) (h:∀ a w',C w'->K a->K' a w') (hh:qOp P ops C i K a):wpOpIn (FW ρ) 0 P ops Q' i K' a w:=by
 unfold qOp at hh
 unfold wpOpIn
 split
 ·rename_i ho; simp only [ho] at hh; exact h _ _ hC hh
 ·rename_i o ho
  simp only [ho] at hh
  split
  ·rename_i hw; simp only [hw,if_true] at hh; exact A2g (Avv hall ho) hC h hh
  ·rename_i hw; simp only [hw] at hh; exact ⟨fun _ _=>trivial,h _ _ hC hh⟩
theorem Px {n g:Nat} {L:Array Bool->Act->Prop} {Q':Exit->Act->World->Prop} (hall:ops.all N1=true) (hL:∀ listed a w,C w->L listed a->wpAnyIn (FW ρ) 0 P md ops Q' g listed a w) :
   ∀ (f:Nat) (listed:Array Bool) (a:Act) (w:World),C w->A8n P md ops C n L f listed a->wpAnyIn (FW ρ) 0 P md ops Q' (f + g) listed a w
 | 0,listed,a,w,hw,h=>by rw [Nat.zero_add]; exact hL _ _ _ hw h
 | f + 1,listed,a,w,hw,h=>by
   rw [show f + 1 + g=(f + g) + 1 by omega]
   exact ⟨fun h0=>absurd h0 h.1,fun i hi=>A9o hall hw (fun a' w' hw' h'=>Px hall hL f _ a' w' hw' h') (h.2 i hi).2⟩
theorem Tf {Q':Exit->Act->World->Prop}:∀ (l:List Oper) (k:Nat) (listed:Array Bool) (a:Act) (w:World),(∀ j,l[j]?=ops[k + j]?) ->
   Region.seqB md ops l.length k listed=true->wpListIn (FW ρ) 0 P ops Q' l a w->wpAnyIn (FW ρ) 0 P md ops Q' l.length listed a w
 | [],_,_,_,_,_,hB,h=>⟨by simpa [Region.seqB] using hB,h⟩
 | o :: l,k,listed,a,w,hl,hB,h=>by
   have h0:ops[k]?=some o:=by simpa using (hl 0).symm
   simp only [List.length_cons,Region.seqB,bq,decide_eq_true_eq] at hB
   refine ⟨fun h1=>(by rw [hB.1] at h1; cases h1),fun i hi=>?_⟩
   rw [hB.1] at hi
   have hik:i=k:=by simpa using hi
   subst hik
   have hw:wpOpIn (FW ρ) 0 P ops Q' i (wpListIn (FW ρ) 0 P ops Q' l) a w:=by unfold wpOpIn; simp only [h0]; exact h
   exact wpOpIn_mono (fun a' w' h'=>Tf l (i + 1) _ a' w' (fun j=>by have:=hl (j + 1); simpa [Nat.add_assoc,Nat.add_comm 1 j] using this) hB.2 h') hw
theorem Su {id:Nat} {Q:Exit->Act->World->Prop} {a:Act} {w:World} {l:List Oper} (n:Nat) (C:World->Prop) (hm:P.follows .mixedOrders=true) (hall:l.toArray.all N1=true) (hB:Region.lexTailB .any l.toArray n=true)
   (hC:C w.drew) (h:XQ P l.toArray C (fun a'=>∀ w',C w'->XL ρ P l.toArray Q (l.drop n) a' w') (l.take n) a):XC ρ P (Code.region id l.toArray true) Q a w:=by
 refine ⟨?_⟩
 simp only [Region.lexTailB,bq,decide_eq_true_eq] at hB
 obtain ⟨⟨⟨⟨hsel,hn⟩,hs⟩,hc⟩,hlex⟩:=hB
 have hn':n < l.length:=by simpa using hn
 have htl:(l.take n).length=n:=by simp; omega
 have hdl:(l.drop n).length=l.toArray.size - n:=by simp
 have inv0:HeadInv .any l.toArray n (Array.replicate l.toArray.size false) :=
  ⟨by simp,fun j oj _ hl=>(by rw [getD_replicate_false] at hl; cases hl),fun t _ ht=>getD_in (by simpa using ht) (getD_replicate_false _ _)⟩
 have H:=A32 (md:=.any) (g:=l.toArray.size - n) hsel hs hc hn (l.take n) 0 _ a (fun j hj=>by
  have hj':j < n:=by rw [htl] at hj; exact hj
  simp [hj']) (by simpa using htl) inv0 (by rw [htl]; exact hlex) h.out
 refine wpIn_region_any hm ?_
 have:=Px (ρ:=ρ) (Q':=Q) (g:=l.toArray.size - n) hall (fun listed a' w' hw' hL=>by
  have:=Tf (ρ:=ρ) (md:=.any) (Q':=Q) (l.drop n) n listed a' w' (fun j=>by simp [List.getElem?_drop]) (by rw [hdl]; exact hL.1) (hL.2 w' hw').out
  rwa [hdl] at this) _ _ _ _ hC H
 rw [htl,show n + (l.toArray.size - n)=l.toArray.size by omega] at this
 exact this
variable {Qf:Act->Prop} {a:Act} {o:Oper} {rest:List Oper} {M:List Nat} {w0:World} {L:List Res}
theorem Avb (h:Qf a):XQ P ops C Qf [] a:=⟨h⟩
theorem Pu (v:Value) (hw:Region.wanted o (yielded ops a.tmps)=true) (h:∀ w,(execOp a.eval o).run P w=.ok (.value v) w) (k:XQ P ops C Qf rest (a.put o.dst v)):XQ P ops C Qf (o :: rest) a:=by
 refine ⟨?_⟩
 unfold wpQuiet
 rw [if_pos hw]
 exact ⟨v,fun w _=>by unfold Oper.quietAt; rw [h w]; exact ⟨rfl,rfl⟩,k.out⟩
end
section
variable {ρ:Option Nat} {P:Program} {ops:Array Oper} {Q:Exit->Act->World->Prop} {C:World->Prop} {Qf:Act->Prop} {a:Act} {w:World} {o:Oper} {rest:List Oper} {M:List Nat} {w0:World} {L:List Res}
theorem Qk {z:Int} (h:-9223372036854775808<=z/\z<=9223372036854775807):IntKind.i64.wrap z=z:=by rw [IntKind.wrap_i64]; omega
end
def noQ:Exit->Act->World->Prop:=fun _ _ _=>False
section
variable {ρ:Option Nat} {P:Program} {ops:Array Oper} {md:Region.Mode} {Q:Exit->Act->World->Prop}
def opS (ρ:Option Nat) (P:Program) (ops:Array Oper) (o:Oper) (a:Act) (w:World) (K:Act->World->Prop):Prop :=
 if Region.wanted o (yielded ops a.tmps) then o.uponIn (FW ρ) 0 P a K noQ ((execOp a.eval o).run P w) else K (a.put o.dst undef) w
theorem X7 (h:LetsOut noQ):False:=let ⟨_,_,h⟩:=h; h
theorem A2j {i:Nat} {o:Oper} {a:Act} {w:World} {K:Act->World->Prop} (ho:ops[i]?=some o) (hd:N1 o=true) (h:opS ρ P ops o a w K):wpOpIn (FW ρ) 0 P ops Q i K a w:=by
 unfold wpOpIn
 simp only [ho]
 unfold opS at h
 split
 ·rename_i hw
  simp only [hw,if_true] at h
  refine ⟨fun _ _=>trivial,?_⟩
  rw [Mw hd]
  generalize (execOp a.eval o).run P w=r at *
  cases r with
  | ok x w' =>
    cases x <;> simp only [Oper.uponIn] at h ⊢
    case value u=>exact h
    case skip=>exact h
    case defer d=>exact h
    case enter f args=>exact ⟨h.1,CallsIn.mono h.2 fun e w'' he=>by cases e with
     | returned u=>exact he
     | panicked c=>exact he.elim
     | outgrown=>exact (X7 he).elim⟩
    case row row args=>exact h
    case round l f tmps assign body=>exact ⟨h.1,RoundIn.mono h.2 fun e w'' he=>by cases e with
     | returned u=>exact he
     | panicked c=>exact he.elim
     | outgrown=>exact (X7 he).elim⟩
  | halt x w'=>cases x <;> simp only [Oper.uponIn] at h ⊢; exact h.elim
 ·rename_i hw
  simp only [hw] at h
  exact ⟨fun _ _=>trivial,h⟩
theorem Ait {o:Oper} {a:Act} {w:World} {K:Act->World->Prop} (hd:N1 o=true) (h:XL ρ P ops (Exit.then K noQ) [o] a w):opS ρ P ops o a w K:=by
 have h:=h.out
 unfold wpListIn at h
 unfold opS
 split
 ·rename_i hw
  simp only [hw,if_true] at h
  have h:=h.2
  rw [Mw hd] at h
  generalize (execOp a.eval o).run P w=r at *
  cases r with
  | ok x w' =>
    cases x <;> simp only [Oper.uponIn] at h ⊢
    case value u=>exact h
    case skip=>exact h
    case defer d=>exact h
    case enter f args=>exact ⟨h.1,CallsIn.mono h.2 fun e w'' he=>by cases e with
     | returned u=>exact he
     | panicked c=>exact he
     | outgrown=>exact he⟩
    case row row args=>exact h
    case round l f tmps assign body=>exact ⟨h.1,RoundIn.mono h.2 fun e w'' he=>by cases e with
     | returned u=>exact he
     | panicked c=>exact he
     | outgrown=>exact he⟩
  | halt x w'=>cases x <;> simp only [Oper.uponIn] at h ⊢; exact h
 ·rename_i hw
  simp only [hw] at h
  exact h.2
variable {a:Act} {w w0:World} {M:List Nat} {L Lk:List Res} {K C:World->Prop} {listed:Array Bool} {f:Nat}
end
def Qv (P:Program) (t:TypeId) (cs:Array Value) (off:Nat):Option Value :=
 match P.info? t,P.underlying t with
 | some i,some (.struct _)=>some (.agg (cs.extract off (off + i.size)))
 | some i,some (.array _ _)=>some (.agg (cs.extract off (off + i.size)))
 | some _,some _=>cs[off]?
 | _,_=>none
def Ahp (P : Program) (eq : TypeId -> Value -> Value -> Option Bool) (xs ys : Array Value) : List Field -> Option Bool
 | []=>some true
 | f :: fs =>
   if f.name ≠ "_" then
    match Qv P f.type xs f.offset,Qv P f.type ys f.offset with
    | some a,some b=>match eq f.type a b,Ahp P eq xs ys fs with
      | some r,some r2=>some (r && r2)
      | _,_=>none
    | _,_=>none
   else Ahp P eq xs ys fs
theorem Om {P:Program} {t:TypeId} {cs:Array Value} {off:Nat} {v:Value} (h:Qv P t cs off=some v) (w:World):(part t cs off).run P w=.ok v w:=by
 unfold Qv at h
 cases hi:P.info? t with
 | none=>rw [hi] at h; cases h
 | some i =>
   rw [hi] at h
   cases hu:P.underlying t with
   | none=>rw [hu] at h; cases h
   | some d =>
     rw [hu] at h
     have hr:=run_underlying hu w
     cases d <;> (simp only at h) <;> simp only [part,isAgg,Sem.run_bind,hr,Result.andThen_ok,Sem.run_pure,Bool.false_eq_true,if_false,if_true,sizeOf,typeInfo,run_program,hi] <;> first | (cases h; rfl) | (rw [h]; rfl)
section
variable {ρ:Option Nat} {P:Program} {ops:Array Oper} {Q:Exit->Act->World->Prop} {a:Act} {w w0 w':World} {o:Oper} {rest:List Oper} {M:List Nat} {L:List Res}
theorem Af3 {α:Type} {f:α->List Value} {sz:Nat} (hf:∀ x,(f x).length=sz):∀ (l:List α),(l.flatMap f).length=l.length * sz
 | []=>by simp
 | x :: l=>by rw [List.flatMap_cons,List.length_append,hf,Af3 hf l,List.length_cons,Nat.succ_mul,Nat.add_comm]
theorem Agm {α:Type} {f:α->List Value} {sz:Nat} (hf:∀ x,(f x).length=sz):∀ {l:List α} {k:Nat},k < l.length->∀ z,(l.flatMap f).take (k * sz) ++ f z ++ (l.flatMap f).drop (k * sz + (f z).length)=(l.set k z).flatMap f
 | [],k,hk,_=>by simp at hk
 | x :: l,0,_,z=>by
   rw [Nat.zero_mul,Nat.zero_add,hf,List.take_zero,List.nil_append,List.flatMap_cons,List.set_cons_zero,List.flatMap_cons,List.drop_append,hf,Nat.sub_self,List.drop_zero,List.drop_of_length_le (by rw [hf]; exact Nat.le_refl _),List.nil_append]
 | x :: l,k + 1,hk,z=>by
   have e:(k + 1) * sz=sz + k * sz:=by rw [Nat.succ_mul,Nat.add_comm]
   rw [List.flatMap_cons,List.set_cons_succ,List.flatMap_cons,← Agm hf (by simpa using hk) z,e,List.take_append,List.take_of_length_le (by rw [hf]; omega),hf,show sz + k * sz - sz=k * sz by omega,List.drop_append,List.drop_of_length_le (by rw [hf,hf]; omega),hf,hf,show sz + k * sz + sz - sz=k * sz + sz by omega]
   simp [List.append_assoc]
theorem Aiz {g n c off:Nat} {ty:TypeId} {sz:Nat} {xs:List Value} (h:w.ownsRow 0 ty sz (.slice (some ⟨g,0,none⟩) n c) n xs) (vs xs':List Value) (hl:off + vs.length<=xs.length) (h1:vs.all Value.oneCell'=true)
   (hx:xs.take off ++ vs ++ xs.drop (off + vs.length)=xs') :
   ∃ w',(stS ⟨g,off,none⟩ vs).run P w=.ok .skip w'/\w'.ownsRow 0 ty sz (.slice (some ⟨g,0,none⟩) n c) n xs'/\w.grownBy w' (some g):=by
 rcases h.2 with ⟨h',_⟩ | ⟨g',cap',cur,h',hb,hg,hnc,hcm,hcs,htake⟩
 ·simp at h'
 ·simp only [Value.slice.injEq,Option.some.injEq,Addr.mk.injEq,and_true,true_and] at h'
  obtain ⟨rfl,rfl⟩:=h'
  have hxl:=h.1
  have hcl:n * sz<=cur.size:=by rw [hcs]; exact Nat.mul_le_mul_right _ hnc
  have hle:off + vs.length<=cur.size:=by omega
  refine ⟨_,Agl vs _ hg hle h1 rfl,⟨?_,.inr ⟨g,c,_,rfl,hb,Qj w g cur _ ty (0,0) hg,hnc,hcm,?_,?_⟩⟩,⟨rfl,rfl,rfl,by simp,fun k _ hk=>Mn w g k _ (fun e=>hk (by simp [e]))⟩⟩
  ·rw [← hx,← hxl]; simp only [List.length_append,List.length_take,List.length_drop]; omega
  ·simp only [List.size_toArray,List.length_append,List.length_take,List.length_drop,Array.length_toList]; omega
  ·show List.take (n * sz) (cur.toList.take off ++ vs ++ cur.toList.drop (off + vs.length))=xs'
   rw [← hx,← htake,List.append_assoc,List.append_assoc,List.take_append,List.take_append]
   simp only [List.length_take,Array.length_toList,List.take_take,List.drop_take]
   rw [show min off cur.size=off by omega,show min (n * sz) off=off by omega,show min off (n * sz)=off by omega,List.take_of_length_le (show vs.length<=n * sz - off by omega),List.take_drop,show off + vs.length + (n * sz - off - vs.length)=n * sz by omega,List.drop_take]
end
def fps (A:List Res):List Nat:=A.flatMap Res.fp
section
variable {M:List Nat} {w0 w w':World} {L R A A' K:List Res} {P:Program}
theorem Y9 {A:List Res} {g:Nat} (h:g ∈ fps A):∃ (i:Nat) (r:Res),A[i]?=some r/\g ∈ r.fp:=by
 unfold fps at h
 obtain ⟨r,hr,hg⟩:=List.mem_flatMap.1 h
 obtain ⟨i,hi,e⟩:=List.getElem_of_mem hr
 exact ⟨i,r,by rw [List.getElem?_eq_getElem hi,e],hg⟩
theorem A59 {A:List Res} (i:Nat) (r:Res) (hi:A[i]?=some r):∀ g ∈ r.fp,g ∈ fps A:=fun g hg =>
 List.mem_flatMap.2 ⟨r,List.mem_of_getElem? hi,hg⟩
theorem Hs.front (h:Hs M w0 w (A ++ R)):Hs M w0 w A :=
 ⟨fun i r hi=>h.ok i r (by rw [List.getElem?_append_left (List.getElem?_eq_some_iff.1 hi).1]; exact hi),
  fun i j r s hne hi hj=>h.ap i j r s hne (by rw [List.getElem?_append_left (List.getElem?_eq_some_iff.1 hi).1]; exact hi) (by rw [List.getElem?_append_left (List.getElem?_eq_some_iff.1 hj).1]; exact hj),
  fun i r hi=>h.my i r (by rw [List.getElem?_append_left (List.getElem?_eq_some_iff.1 hi).1]; exact hi),h.fr⟩
theorem Hs.use (H:Hs M w0 w (A ++ R)) {f:FuncId} {args:Array Value} {v:Value} (hc:Hs (fps A) w w A->Calls P f args w fun e w'=>e=.returned v/\Hs (fps A) w w' A') :
    Calls P f args w fun e w'=>e=.returned v/\Hs M w0 w' (A' ++ R) :=
 (hc (H.front.enter A59)).mono fun e w' ⟨he,h'⟩=>⟨he,H.call h' fun g hg=>Y9 hg⟩
variable {ops:Array Oper} {Qf:Act->Prop} {a:Act} {o:Oper} {rest:List Oper}
end
end Go.Proofs.YtfhiggfmkjmeiaaGreat
namespace Go.Proofs.YtfhiggfmkjmeiaaGreat
open Go Go.RowKit
theorem Vg {ρ:Option Nat} {n m:Nat} {P:Program} {c:Code} {Q:Exit->Act->World->Prop} {a:Act} {w:World} (h:c.wpIn (FW ρ) n P Q a w):c.wpIn (FW ρ) m P Q a w :=
 fun b k cs hro hf _=>h b k cs hro hf (fun d h=>by cases h)
theorem Aqf {P:Program} {f:FuncId} {fn:Func} {c:Code} {args:Array Value} {w:World} {R:Ending->World->Prop} (hf:P.funcs[f]?=some fn) (hb:fn.body=some c) (tm:Array Value)
 (ht:args ++ Array.replicate (fn.ntmps - args.size) undef=tm) (h:XC none P c (bodyPostM (FW none) 0 P fn R) { tmps:=tm,defers:=[] } w):Calls P f args w R :=
 Xu.1 (callsIn_of_wp_marks (n:=0) hf hb trivial (by rw [ht]; exact h.out) rfl)
end Go.Proofs.YtfhiggfmkjmeiaaGreat
namespace Go.Proofs.YtfhiggfmkjmeiaaGreat
open Go Go.RowKit
section
variable {ρ:Option Nat} {P:Program} {ops:Array Oper} {Q:Exit->Act->World->Prop} {Qf:Act->Prop} {a:Act} {w w0:World} {o:Oper} {rest:List Oper} {M:List Nat} {L:List Res}
theorem A1a {E:TypeId} {sz:Nat} (h:(P.info? E).map (·.size)=some sz):(sizeOf E).run P w=.ok sz w:=by
 cases hi:P.info? E with
 | none=>rw [hi] at h; cases h
 | some i =>
   rw [hi] at h
   have h3:i.size=sz:=by simpa using h
   simp [sizeOf,typeInfo,Sem.run_bind,run_program,hi,Result.andThen_ok,Sem.run_pure,h3]
theorem B15 {t:TypeId} {b:Option Addr} {n c l sz:Nat} (ht:P.underlying t=some (.slice (P.elem t))) (hs:(P.info? (P.elem t)).map (·.size)=some sz) (h:l<=n) :
   ((Instr.sliceAt t (.slice b n c) (some (.int .i64 ((l:Nat):Int))) none none) >>= fun v=>pure (Next.value v)).run P w=.ok (.value (sliced b l n c sz)) w:=by
 rw [Sem.run_bind,run_sliceAt_slice (h:=ht),run_slice_l (ht:=ht) (h0:=by omega) (h1:=by omega),A1a hs,Result.andThen_ok,Int.toNat_natCast]
 rfl
theorem B14 {t:TypeId} {g n c h sz:Nat} (ht:P.underlying t=some (.slice (P.elem t))) (hs:(P.info? (P.elem t)).map (·.size)=some sz) (hh:h<=c) :
   ((Instr.sliceAt t (.slice (some ⟨g,0,none⟩) n c) none (some (.int .i64 ((h:Nat):Int))) none) >>= fun v=>pure (Next.value v)).run P w=.ok (.value (.slice (some ⟨g,0,none⟩) h c)) w:=by
 rw [Sem.run_bind,run_sliceAt_slice (h:=ht),run_slice_h (ht:=ht) (h0:=by omega) (h2:=by omega),A1a hs,Result.andThen_ok,Int.toNat_natCast]
 have:sliced (some (⟨g,0,none⟩:Addr)) 0 h c sz=.slice (some ⟨g,0,none⟩) h c:=by
  unfold sliced
  split <;> simp [Nv]
 rw [this]; rfl
theorem Avh {t:TypeId} {g n c l h sz:Nat} (ht:P.underlying t=some (.slice (P.elem t))) (hs:(P.info? (P.elem t)).map (·.size)=some sz) (hl:l<=h) (hh:h<=c) (hc:l < c) :
   ((Instr.sliceAt t (.slice (some ⟨g,0,none⟩) n c) (some (.int .i64 ((l:Nat):Int))) (some (.int .i64 ((h:Nat):Int))) none) >>= fun v=>pure (Next.value v)).run P w=.ok (.value (.slice (some ⟨g,l * sz,none⟩) (h - l) (c - l))) w:=by
 rw [Sem.run_bind,run_sliceAt_slice (h:=ht),run_slice_lh (ht:=ht) (h0:=by omega) (h1:=by omega) (h2:=by omega),A1a hs,Result.andThen_ok,Int.toNat_natCast,Int.toNat_natCast]
 have:sliced (some (⟨g,0,none⟩:Addr)) l h c sz=.slice (some ⟨g,l * sz,none⟩) (h - l) (c - l):=by
  unfold sliced
  rw [if_neg (by omega)]
  simp [Nv]
 rw [this]; rfl
theorem Ap8 {t:TypeId} {b:Option Addr} {n c l h m sz:Nat} (ht:P.underlying t=some (.slice (P.elem t))) (hs:(P.info? (P.elem t)).map (·.size)=some sz) (hl:l<=h) (hh:h<=m) (hc:m<=c) :
   ((Instr.sliceAt t (.slice b n c) (some (.int .i64 ((l:Nat):Int))) (some (.int .i64 ((h:Nat):Int))) (some (.int .i64 ((m:Nat):Int)))) >>= fun v=>pure (Next.value v)).run P w=.ok (.value (sliced b l h m sz)) w:=by
 rw [Sem.run_bind,run_sliceAt_slice (h:=ht),run_slice_lhm (ht:=ht) (h0:=by omega) (h1:=by omega) (h2:=by omega) (h3:=by omega),A1a hs,Result.andThen_ok,Int.toNat_natCast,Int.toNat_natCast,Int.toNat_natCast]
 rfl
theorem A21 (H:Hs M w0 w L) (i:Nat) (t ty:TypeId) (sz g n p q cap:Nat) (xs:List Value) (hi:L[i]?=some (.row (.slice (some ⟨g,0,none⟩) n cap) ty sz n xs)) (hu:P.underlying t=some (.slice ty)) (hs:(P.info? ty).map (·.size)=some sz)
   (h1:∀ u ∈ xs,u.oneCell'=true) (hpq:p<=q) (hq:q<=n) (hw:Region.wanted o (yielded ops a.tmps)=true) (hd:N1 o=true)
   (h:(execOp a.eval o).run P w=((Builtin.append_ #[t,t] o.type #[.slice (some ⟨g,0,none⟩) p cap,sliced (some ⟨g,0,none⟩) q n cap sz]) >>= fun v=>pure (Next.value v)).run P w)
   (k:∀ w',Hs M w0 w' (L.set i (.row (.slice (some ⟨g,0,none⟩) (p + (n - q)) cap) ty sz (p + (n - q)) (xs.take (p * sz) ++ xs.drop (q * sz))))->XL ρ P ops Q rest (a.put o.dst (.slice (some ⟨g,0,none⟩) (p + (n - q)) cap)) w'):XL ρ P ops Q (o :: rest) a w:=by
 cases hinf:P.info? ty with
 | none=>rw [hinf] at hs; cases hs
 | some inf =>
 have hsz:inf.size=sz:=by rw [hinf] at hs; simpa using hs
 have hown:w.ownsRow 0 ty sz (.slice (some ⟨g,0,none⟩) n cap) n xs:=H.ok i _ hi
 have hxl:=hown.1
 have hnc:n<=cap:=by
   rcases hown.2 with ⟨h',_⟩ | ⟨g',cap',cur,h',hb,hg,hnc,hcm,hcs,htake⟩
   ·simp at h'
   ·simp only [Value.slice.injEq] at h'; omega
 have hpre:w.ownsRow 0 ty sz (.slice (some ⟨g,0,none⟩) p cap) p (xs.take (p * sz)):=by
   refine ⟨?_,?_⟩
   ·rw [List.length_take,hxl]; exact Nat.min_eq_left (Nat.mul_le_mul_right _ (by omega))
   ·rcases hown.2 with ⟨h',_⟩ | ⟨g',cap',cur,h',hb,hg,hnc',hcm,hcs,htake⟩
    ·simp at h'
    ·simp only [Value.slice.injEq,Option.some.injEq,Addr.mk.injEq,and_true,true_and] at h'
     obtain ⟨rfl,rfl⟩:=h'
     refine .inr ⟨g,cap,cur,rfl,hb,hg,by omega,hcm,hcs,?_⟩
     rw [← htake,List.take_take,Nat.min_eq_left (Nat.mul_le_mul_right _ (by omega))]
 obtain ⟨A,hA,hc⟩:∃ A:Addr,sliced (some ⟨g,0,none⟩) q n cap sz=.slice (some A) (n - q) (cap - q)/\∀ j u,(xs.drop (q * sz))[j]?=some u->w.cell? (A.add j)=some u:=by
   unfold sliced
   by_cases e:cap=q
   ·refine ⟨⟨g,0,none⟩,by rw [if_pos e],fun j u hj=>?_⟩
    have:xs.drop (q * sz)=[]:=List.drop_eq_nil_of_le (by rw [hxl,show q=n by omega]; exact Nat.le_refl _)
    rw [this] at hj; simp at hj
   ·refine ⟨⟨g,q * sz,none⟩,by rw [if_neg e]; simp [Nv],fun j u hj=>?_⟩
    rw [List.getElem?_drop] at hj
    have:=World.ownsRow.cells hown (g:=g) rfl _ u hj
    rw [Nv] at this ⊢
    simpa using this
 obtain ⟨w',r1,r2,r3⟩:=run_append_fits (P:=P) w 0 t o.type ty inf sz hu hinf hsz g p cap (xs.take (p * sz)) hpre A (n - q) (cap - q) (xs.drop (q * sz))
   (by rw [List.length_drop,hxl,Nat.sub_mul]) hc (fun u hu=>h1 u (List.mem_of_mem_drop hu)) (by omega)
 refine Ah3 hw hd (v:=.slice (some ⟨g,0,none⟩) (p + (n - q)) cap) (w':=w') ?_ (k w' ?_)
 ·rw [h,hA,Sem.run_bind,r1]; rfl
 ·exact H.upd i hi (r':=.row _ ty sz (p + (n - q)) _) r2 (fun g' hg'=>.inl hg') r3.os r3.tape r3.output r3.size (fun k hk hk'=>r3.block k hk (fun e=>hk' (by simp [Res.fp,Value.ownBlock,Option.some.inj e])))
theorem Aa3 {E:TypeId} {z:Value} (h:(P.info? E).map (·.zero)=some (some z)):(zeroValue E).run P w=.ok z w:=by
 cases hi:P.info? E with
 | none=>rw [hi] at h; cases h
 | some i =>
   rw [hi] at h
   have h3:i.zero=some z:=by simpa using h
   simp [zeroValue,typeInfo,Sem.run_bind,run_program,hi,Result.andThen_ok,Sem.run_pure,h3]
theorem Au4 (zs:Array Value) (h:0 < zs.size):(Builtin.zeroCells zs 1).toList=zs.toList:=by
 unfold Builtin.zeroCells
 apply List.ext_getElem
 ·simp
 ·intro i h1 h2
  have:i < zs.size:=by simpa using h2
  simp [Nat.mod_eq_of_lt this,this]
theorem Ah1 (H:Hs M w0 w L) (i:Nat) (t ty:TypeId) (sz g p cap c:Nat) (z:Value) (xs:List Value) (hi:L[i]?=some (.row (.slice (some ⟨g,0,none⟩) p cap) ty sz p xs)) (hu:P.underlying t=some (.slice ty)) (hz:∀ w,(zeroValue ty).run P w=.ok z w)
   (hzs:z.cells.size=sz) (hz0:0 < sz) (h1:z.cells.toList.all Value.oneCell'=true) (hr:p + 1<=cap) (hw:Region.wanted o (yielded ops a.tmps)=true) (hd:N1 o=true) (hdst:o.dst=none)
   (h:(execOp a.eval o).run P w=((Builtin.clear_ #[t] o.type #[.slice (some ⟨g,p * sz,none⟩) 1 c]) >>= fun v=>pure (Next.value v)).run P w)
   (k:∀ w',Hs M w0 w' L->XL ρ P ops Q rest a w'):XL ρ P ops Q (o :: rest) a w:=by
 have hown:w.ownsRow 0 ty sz (.slice (some ⟨g,0,none⟩) p cap) p xs:=H.ok i _ hi
 rcases hown.2 with ⟨h',_⟩ | ⟨g',cap',cur,h',hb,hg,hnc',hcm,hcs,htake⟩
 ·simp at h'
 ·simp only [Value.slice.injEq,Option.some.injEq,Addr.mk.injEq,and_true,true_and] at h'
  obtain ⟨rfl,rfl⟩:=h'
  have hlen:z.cells.toList.length=sz:=by simpa using hzs
  have hle:p * sz + sz<=cur.size:=by
   rw [hcs,← Nat.succ_mul]; exact Nat.mul_le_mul_right _ (by omega)
  have hst:=run_storeCells_at P g (p * sz) ty z.cells.toList 0 cur w hg (by omega) (fun v hv=>List.all_eq_true.1 h1 v hv)
  have hrun:(Builtin.clear_ #[t] o.type #[.slice (some ⟨g,p * sz,none⟩) 1 c]).run P w=.ok (.tuple #[]) (w.setRow g (cur.toList.take (p * sz + 0) ++ z.cells.toList ++ cur.toList.drop (p * sz + 0 + z.cells.toList.length)).toArray):=by
   have hzo:=Au4 z.cells (by omega)
   simp [Builtin.clear_,run_underlying hu,hz,hzo,hst]
  refine Ah3 hw hd (v:=.tuple #[]) (w':=w.setRow g (cur.toList.take (p * sz + 0) ++ z.cells.toList ++ cur.toList.drop (p * sz + 0 + z.cells.toList.length)).toArray) (by rw [h,Sem.run_bind,hrun]; rfl) ?_
  rw [hdst]
  have hL:L.set i (.row (.slice (some ⟨g,0,none⟩) p cap) ty sz p xs)=L:=by
   obtain ⟨hi1,hi2⟩:=List.getElem?_eq_some_iff.1 hi
   rw [← hi2]; exact List.set_getElem_self hi1
  refine k _ (hL ▸ H.upd i hi (r':=.row (.slice (some ⟨g,0,none⟩) p cap) ty sz p xs) ?_ (fun g' hg'=>.inl hg') rfl rfl rfl (by simp) (fun k hk hk'=>Mn w g k _ (fun e=>hk' (by simp [Res.fp,Value.ownBlock,e]))))
  refine ⟨hown.1,.inr ⟨g,cap,_,rfl,hb,Qj w g cur _ ty (0,0) hg,hnc',hcm,?_,?_⟩⟩
  ·simp only [List.size_toArray,List.length_append,List.length_take,List.length_drop,Array.length_toList]; omega
  ·rw [← htake]
   show List.take (p * sz) (cur.toList.take (p * sz + 0) ++ z.cells.toList ++ cur.toList.drop (p * sz + 0 + z.cells.toList.length))=_
   rw [Nat.add_zero,List.append_assoc,List.take_append,List.take_take,Nat.min_self,List.length_take,Array.length_toList,Nat.min_eq_left (by omega),Nat.sub_self,List.take_zero,List.append_nil]
theorem Alz {α:Type} {f:α->List Value} {sz:Nat} (hf:∀ x,(f x).length=sz) (l:List α):∀ i,(List.flatMap f l).take (i * sz)=List.flatMap f (l.take i):=by
 induction l with
 | nil=>simp
 | cons x l ih =>
   intro i
   cases i with
   | zero=>simp
   | succ i=>rw [List.flatMap_cons,List.take_append,hf,List.take_of_length_le (by rw [hf,Nat.succ_mul]; omega),Nat.succ_mul,Nat.add_sub_cancel,ih,List.take_succ_cons,List.flatMap_cons]
theorem Aly {α:Type} {f:α->List Value} {sz:Nat} (hf:∀ x,(f x).length=sz) (l:List α):∀ i,(List.flatMap f l).drop (i * sz)=List.flatMap f (l.drop i):=by
 induction l with
 | nil=>simp
 | cons x l ih =>
   intro i
   cases i with
   | zero=>simp
   | succ i=>rw [List.flatMap_cons,List.drop_append,hf,List.drop_eq_nil_of_le (by rw [hf,Nat.succ_mul]; omega),Nat.succ_mul,Nat.add_sub_cancel,ih,List.drop_succ_cons,List.nil_append]
theorem A30 {α:Type} {f:α->List Value} {sz:Nat} (hf:∀ x,(f x).length=sz) (l:List α) (i:Nat):(List.flatMap f l).take (i * sz) ++ (List.flatMap f l).drop ((i + 1) * sz)=List.flatMap f (l.eraseIdx i):=by
 rw [Alz hf,Aly hf,List.eraseIdx_eq_take_drop_succ,List.flatMap_append]
theorem Xf {α:Type} {f:α->List Value} (hf:∀ x,∀ v ∈ f x,v.oneCell'=true) (l:List α):∀ u ∈ List.flatMap f l,u.oneCell'=true:=fun u hu=>by
 obtain ⟨x,_,hx⟩:=List.mem_flatMap.1 hu; exact hf x u hx
theorem rowForm {ty:TypeId} {sz n:Nat} {v:Value} {xs:List Value} (h:w.ownsRow 0 ty sz v n xs):(v=.slice none 0 0/\n=0) ∨ ∃ g cap,v=.slice (some ⟨g,0,none⟩) n cap/\n<=cap/\cap<=maxLen:=by
 rcases h.2 with h' | ⟨g,cap,cur,hv,hb,hg,hnc,hcm,hcs,htake⟩
 ·exact .inl h'
 ·exact .inr ⟨g,cap,hv,hnc,hcm⟩
theorem Hs.rowForm (H:Hs M w0 w L) (i:Nat) {ty:TypeId} {sz n:Nat} {v:Value} {xs:List Value} (hi:L[i]?=some (.row v ty sz n xs)):(v=.slice none 0 0/\n=0) ∨ ∃ g cap,v=.slice (some ⟨g,0,none⟩) n cap/\n<=cap/\cap<=maxLen:=Go.Proofs.YtfhiggfmkjmeiaaGreat.rowForm (H.ok i _ hi)
def Src (w:World) (sz:Nat) (u:Value) (m:Nat) (ys:List Value):Prop :=
 (u=.slice none 0 0/\m=0/\ys=[]) ∨ (ys.length=m * sz/\∃ A c,u=.slice (some A) m c/\∀ j x,ys[j]?=some x->w.cell? (A.add j)=some x)
end
end Go.Proofs.YtfhiggfmkjmeiaaGreat
namespace Go.Proofs.YtfhiggfmkjmeiaaGreat
open Go Go.RowKit Go.MapKept
theorem Aid {v:Value} (h:IsKey (.int .i64) v):∃ x,v=.int .i64 x:=by
 cases v <;> simp_all [IsKey]
theorem P1 {z:Value} (k:Int):∀ (l:List MapEntry) (i:Nat),(∀ x ∈ l,IsKey (.int .i64) x.key) ->
 (Instr.findNow (.int .i64) (.int .i64 k) l i=some none/\Lc z l k=z/\∀ (v:Value) (b:Nat) k',Lc z (l ++ [{ key:=.int .i64 k,val:=v,born:=b }]) k'=if k'=k then v else Lc z l k') ∨
 ∃ (j:Nat) (e:MapEntry),Instr.findNow (.int .i64) (.int .i64 k) l i=some (some (i + j,e.val))/\l[j]?=some e/\e.key=.int .i64 k/\Lc z l k=e.val /\
   ∀ (v:Value) k',Lc z (l.modify j fun e=>{ e with key:=.int .i64 k,val:=v }) k'=if k'=k then v else Lc z l k'
 | [],i,_=>.inl ⟨rfl,rfl,fun v b k'=>by
  show (if k=k' then v else z)=_
  by_cases e:k'=k
  ·rw [if_pos e,if_pos e.symm]
  ·rw [if_neg e,if_neg (Ne.symm e)]; rfl⟩
 | e :: es, i, h => by
   obtain ⟨x,hx⟩:=Aid (h e (by simp))
   have lk:∀ k',Lc z (e :: es) k'=if x=k' then e.val else Lc z es k':=fun k'=>by simp [Lc,hx]
   by_cases hk:x=k
   ·subst hk
    refine .inr ⟨0,e,by simp [Instr.findNow,Instr.sameNow,hx],rfl,hx,by rw [lk,if_pos rfl],fun v k'=>?_⟩
    rw [lk]
    show (if x=k' then v else Lc z es k')=_
    by_cases e2:k'=x
    ·rw [if_pos e2.symm,if_pos e2]
    ·rw [if_neg (Ne.symm e2),if_neg e2,if_neg (Ne.symm e2)]
   ·have hf:Instr.findNow (.int .i64) (.int .i64 k) (e :: es) i=Instr.findNow (.int .i64) (.int .i64 k) es (i + 1):=by
     have:((k == x):Bool)=false:=by simp; exact fun e=>hk e.symm
     simp [Instr.findNow,Instr.sameNow,hx,this]
    have lkm:∀ (l':List MapEntry) k',Lc z (e :: l') k'=if x=k' then e.val else Lc z l' k':=fun l' k'=>by simp [Lc,hx]
    rcases P1 k es (i + 1) (fun y hy=>h y (by simp [hy])) with ⟨h1,h2,h3⟩ | ⟨j,e',h1,h2,h3,h4,h5⟩
    ·refine .inl ⟨by rw [hf,h1],by rw [lk,if_neg hk,h2],fun v b k'=>?_⟩
     rw [List.cons_append,lkm,lk,h3 v b k']
     by_cases e2:k'=k
     ·rw [if_neg (by rw [e2]; exact hk),if_pos e2,if_pos e2]
     ·rw [if_neg e2,if_neg e2]
    ·refine .inr ⟨j + 1,e',by rw [hf,h1]; simp; omega,by simpa using h2,h3,by rw [lk,if_neg hk,h4],fun v k'=>?_⟩
     rw [List.modify_succ_cons,lkm,lk,h5 v k']
     by_cases e2:k'=k
     ·rw [if_neg (by rw [e2]; exact hk),if_pos e2,if_pos e2]
     ·rw [if_neg e2,if_neg e2]
theorem MapFn.empty (z:Value):MapFn z #[] (fun _=>z):=⟨fun x hx=>by simp at hx,fun k=>rfl⟩
def Az3 (F:Int->Value) (k:Int) (v:Value):Int->Value:=fun j=>if j=k then v else F j
section
variable {P:Program} {w:World} {r cl:Nat} {es:Array MapEntry} {F:Int->Value} {z:Value} {t kt et:TypeId}
theorem Adg (hm:P.underlying t=some (.map kt et)) (hd:P.underlying kt=some (.int .i64)) (hz:∀ w,(zeroValue et).run P w=.ok z w) (hb:w.heap[r]?=some (.map es cl)) (hM:MapFn z es F) (k:Int) :
    ((Instr.lookup t (.map (some r)) (.int .i64 k) false) >>= fun v=>pure (Next.value v)).run P w=.ok (.value (F k)) w:=by
 have hk:IsKey (.int .i64) (.int .i64 k):=rfl
 rcases P1 (z:=z) k es.toList 0 hM.keys with ⟨h1,h2,_⟩ | ⟨j,e,h1,h2,h3,h4,_⟩
 ·simp [Instr.lookup,run_underlying hm,MapKept.run_getObj_map hb,run_checkKey hd hk,run_findKey hd h1,hz,Result.andThen,← hM.get k,h2]
 ·simp [Instr.lookup,run_underlying hm,MapKept.run_getObj_map hb,run_checkKey hd hk,run_findKey hd h1,Result.andThen,← hM.get k,h4]
theorem Adh (hm:P.underlying t=some (.map kt et)) (hd:P.underlying kt=some (.int .i64)) (hb:w.heap[r]?=some (.map es cl)) (hM:MapFn z es F) (k:Int) (v:Value) :
    ∃ es' cl',(Instr.mapUpdate t (.map (some r)) (.int .i64 k) v).run P w=.ok () { w with heap:=w.heap.setIfInBounds r (.map es' cl') }/\MapFn z es' (Az3 F k v):=by
 have hk:IsKey (.int .i64) (.int .i64 k):=rfl
 rcases P1 (z:=z) k es.toList 0 hM.keys with ⟨h1,_,h3⟩ | ⟨j,e,h1,h2,h3,_,h5⟩
 ·refine ⟨es.push { key:=.int .i64 k,val:=v,born:=cl },cl + 1,?_,?_,fun k'=>?_⟩
  ·simp [Instr.mapUpdate,run_underlying hm,MapKept.run_getObj_map hb,run_checkKey hd hk,run_findKey hd h1,MapKept.run_setObj_map _ hb,Result.andThen]
  ·intro x hx
   simp only [Array.toList_push,List.mem_append,List.mem_singleton] at hx
   rcases hx with hx | rfl
   ·exact hM.keys x hx
   ·exact hk
  ·rw [Array.toList_push,h3 v cl k',hM.get k']; rfl
 ·have hj:es[j]?=some e:=by simpa using h2
  refine ⟨es.modify j fun e=>{ e with key:=.int .i64 k,val:=v },cl,?_,?_,fun k'=>?_⟩
  ·simp [Instr.mapUpdate,run_underlying hm,MapKept.run_getObj_map hb,run_checkKey hd hk,run_findKey hd h1,hj,h3,run_keyThatStays hk,MapKept.run_setObj_map _ hb,Result.andThen]
  ·exact isKey_modify hM.keys _ _ fun e' he'=>by rw [hj] at he'; cases he'; exact h3.symm
  ·rw [Array.toList_modify,h5 v k',hM.get k']; rfl
end
def Ald (P:Program) (eq:TypeId->Value->Value->Option Bool) (e:TypeId) (c:Nat) (xs ys:Array Value):List Nat->Option Bool
 | []=>some true
 | i :: is =>
   match Qv P e xs (i * c),Qv P e ys (i * c) with
   | some a,some b=>match eq e a b,Ald P eq e c xs ys is with
     | some r,some r2=>some (r && r2)
     | _,_=>none
   | _,_=>none
def eqW (P:Program):Nat->TypeId->Value->Value->Option Bool
 | 0,_,_,_=>none
 | d + 1, t, x, y =>
   match P.underlying t,x,y with
   | some .bool,.bool a,.bool b=>some (a == b)
   | some (.int _),.int k a,.int k' b=>if k=k' then some (a == b) else none
   | some (.struct fs),.agg xs,.agg ys=>if P.stoodInHeld t then none else Ahp P (eqW P d) xs ys fs.toList
   | some (.array n e),.agg xs,.agg ys=>match P.info? e with
     | some _=>Ald P (eqW P d) e (P.cellsOf e) xs ys (List.range n)
     | none=>none
   | _,_,_=>none
theorem Yj {P : Program} : ∀ (d : Nat) (t : TypeId) (x y : Value) (B : Bool), eqW P d t x y = some B -> ∀ w, (Op.equalIn d t x y).run P w = .ok B w
 | 0,_,_,_,_,h,_=>by cases h
 | d + 1, t, x, y, B, h, w => by
   unfold eqW at h
   split at h
   ·rename_i a b hu; cases h; exact run_equalIn_bool w d t a b hu
   ·rename_i kk k a k' b hu
    split at h
    ·rename_i e; subst e; cases h; exact run_equalIn_int w d t k kk a b hu
    ·cases h
   ·rename_i fs xs ys hu
    split at h
    ·cases h
    ·rename_i hst
     have hf:P.fieldsOf t=fs:=by unfold Program.fieldsOf; rw [hu]
     rw [run_equalIn_struct w d t xs ys (by rw [hf]; exact hu) (by simpa using hst),hf]
     clear hu hf hst
     generalize fs.toList=l at h
     induction l generalizing B with
     | nil=>simp only [Ahp,Option.some.injEq] at h; subst h; rfl
     | cons f fs ih =>
       unfold Ahp at h
       unfold Op.eqFields
       by_cases hn : f.name ≠ "_"
       ·rw [if_pos hn] at h
        rw [if_pos hn]
        cases ha:Qv P f.type xs f.offset with
        | none=>rw [ha] at h; cases h
        | some a =>
          cases hb:Qv P f.type ys f.offset with
          | none=>rw [ha,hb] at h; cases h
          | some b =>
            rw [ha,hb] at h
            simp only at h
            cases hr:eqW P d f.type a b with
            | none=>rw [hr] at h; cases h
            | some r =>
              cases hr2:Ahp P (eqW P d) xs ys fs with
              | none=>rw [hr,hr2] at h; cases h
              | some r2 =>
                rw [hr,hr2] at h
                simp only [Option.some.injEq] at h
                subst h
                simp only [Sem.run_bind,Om ha,Om hb,Result.andThen_ok,Yj d f.type a b r hr]
                cases r
                ·rfl
                ·simp only [Bool.not_true,Bool.false_eq_true,if_false,Bool.true_and]
                 exact ih r2 hr2
       ·rw [if_neg hn] at h
        rw [if_neg hn]
        exact ih B h
   ·rename_i n e xs ys hu
    split at h
    ·rename_i i hi
     rw [run_equalIn_array w d xs ys hu hi]
     clear hu
     generalize List.range n=l at h
     induction l generalizing B with
     | nil=>simp only [Ald,Option.some.injEq] at h; subst h; rfl
     | cons j js ih =>
       unfold Ald at h
       unfold Op.eqItems
       cases ha:Qv P e xs (j * P.cellsOf e) with
       | none=>rw [ha] at h; cases h
       | some a =>
         cases hb:Qv P e ys (j * P.cellsOf e) with
         | none=>rw [ha,hb] at h; cases h
         | some b =>
           rw [ha,hb] at h
           simp only at h
           cases hr:eqW P d e a b with
           | none=>rw [hr] at h; cases h
           | some r =>
             cases hr2:Ald P (eqW P d) e (P.cellsOf e) xs ys js with
             | none=>rw [hr,hr2] at h; cases h
             | some r2 =>
               rw [hr,hr2] at h
               simp only [Option.some.injEq] at h
               subst h
               simp only [Sem.run_bind,Om ha,Om hb,Result.andThen_ok,Yj d e a b r hr]
               cases r
               ·rfl
               ·simp only [Bool.not_true,Bool.false_eq_true,if_false,Bool.true_and]
                exact ih r2 hr2
    ·cases h
   ·cases h
