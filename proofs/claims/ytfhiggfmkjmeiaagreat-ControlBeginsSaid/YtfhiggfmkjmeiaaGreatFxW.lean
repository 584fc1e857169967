import Derived.Test.YtfhiggfmkjmeiaaGreatFxS
set_option linter.all false
namespace Go.Proofs.YtfhiggfmkjmeiaaGreat
open Go Go.RowKit
def Loc.wl (c:Loc) (l:List Nat):Loc:={ c with l:=l }
def Env.wl (ρ:Env) (q:Nat) (l:List Nat):Env:=fun i=>if i=q then (ρ i).wl l else ρ i
def Ctx.wd (X:Ctx) (q:Nat) (l:List Nat):Ctx:={ X with ρ:=X.ρ.wl q l }
theorem Env.wl_at (ρ:Env) (q:Nat) (l:List Nat):(ρ.wl q l) q=(ρ q).wl l:=by unfold Env.wl; rw [if_pos rfl]
theorem Env.wl_ne (ρ:Env) {q i:Nat} (l:List Nat) (h:i ≠ q):(ρ.wl q l) i=ρ i:=by unfold Env.wl; rw [if_neg h]
structure Loc.Pl (c c':Loc):Prop where
 a:c'.a=c.a
 o:c'.o=c.o
 n:c'.n=c.n
 cap:c'.cap=c.cap
 r:c'.r=c.r
 ea:c'.ea=c.ea
 ec:c'.ec=c.ec
theorem Loc.Pl.refl (c:Loc):Loc.Pl c c:=⟨rfl,rfl,rfl,rfl,rfl,rfl,rfl⟩
theorem Env.wl_pl (ρ:Env) (q:Nat) (l:List Nat) (i:Nat):Loc.Pl (ρ i) ((ρ.wl q l) i):=by
 unfold Env.wl
 split
 ·exact ⟨rfl,rfl,rfl,rfl,rfl,rfl,rfl⟩
 ·exact Loc.Pl.refl _
theorem Loc.Pl.g {c c':Loc} (h:Loc.Pl c c'):c'.g=c.g:=by unfold Loc.g; rw [h.a]
theorem Loc.Pl.slv {c c':Loc} (h:Loc.Pl c c'):c'.slv=c.slv:=by unfold Loc.slv Loc.emp; rw [h.a,h.o,h.n,h.cap,h.ea,h.ec]
theorem Loc.Pl.slw {c c':Loc} (h:Loc.Pl c c'):c'.slw=c.slw:=by unfold Loc.slw; rw [h.a,h.o,h.n,h.cap]
theorem Loc.Pl.sub {c c':Loc} (h:Loc.Pl c c') (i s n:Nat):c'.sub i s n=c.sub i s n:=by unfold Loc.sub Loc.vw Loc.slv Loc.emp; simp only [h.a,h.o,h.cap,h.ea,h.ec]
theorem Loc.Pl.adr {c c':Loc} (h:Loc.Pl c c') (o:Nat):c'.adr o=c.adr o:=by unfold Loc.adr; rw [h.g,h.o]
section
variable {ρ ρ':Env}
mutual
theorem V.den_pl (h:∀ i,Loc.Pl (ρ i) (ρ' i)):∀ x:V,V.den ρ' x=V.den ρ x
 | .z | .v _ | .ar _ _ _=>by rw [V.den,V.den]
 | .pt g o=>by rw [V.den,V.den,(h g).adr]
 | .pe g i s o=>by rw [V.den,V.den,(h g).adr]
 | .ps g o i=>by rw [V.den,V.den,(h g).adr]
 | .sl g=>by rw [V.den,V.den,(h g).slv]
 | .ss g i s n=>by rw [V.den,V.den,(h g).sub]
 | .sg g o s n=>by rw [V.den,V.den,(h g).adr]
 | .sk g o s n c=>by rw [V.den,V.den,(h g).adr]
 | .mp g=>by rw [V.den,V.den,(h g).g]
 | .yl g=>by rw [V.den,V.den,(h g).g]
 | .ag l=>by rw [V.den,V.den,V.flat_pl h l]
 | .tu l=>by rw [V.den,V.den,V.dens_pl h l]
 | .fn _ b c=>by rw [V.den,V.den,V.dens_pl h b,V.dens_pl h c]
theorem V.flat_pl (h:∀ i,Loc.Pl (ρ i) (ρ' i)):∀ l:List V,V.flat ρ' l=V.flat ρ l
 | []=>by rw [V.flat,V.flat]
 | x :: l=>by rw [V.flat,V.flat,V.den_pl h x,V.flat_pl h l]
theorem V.dens_pl (h:∀ i,Loc.Pl (ρ i) (ρ' i)):∀ l:List V,V.dens ρ' l=V.dens ρ l
 | []=>by rw [V.dens,V.dens]
 | x :: l=>by rw [V.dens,V.dens,V.den_pl h x,V.dens_pl h l]
end
theorem B.res_pl (h:∀ i,Loc.Pl (ρ i) (ρ' i)) {c c':Loc} (hc:Loc.Pl c c') (hl:c'.l=c.l) {b:B}:b.res ρ' c'=b.res ρ c:=by
 cases b with
 | blk l ty=>simp only [B.res]; rw [hc.g,V.flat_pl h]
 | row e l=>simp only [B.res]; rw [hc.slw]
 | mp y F=>simp only [B.res]; rw [hc.g]
 | lo st pe=>simp only [B.res]; rw [hc.g,hc.r]
 | dfs=>simp only [B.res]; rw [hl]
 | _=>rfl
theorem B.side_pl (h:∀ i,Loc.Pl (ρ i) (ρ' i)) {c:Loc} {w0:World} {M:List Nat} {b:B}:b.side w0 M ρ' c ↔ b.side w0 M ρ c:=by
 cases b with
 | blk l ty=>exact Iff.rfl
 | ro b=>cases b with
   | blk l ty=>simp only [B.side,B.roOk]; rw [V.flat_pl h]
   | _=>exact Iff.rfl
 | _=>exact Iff.rfl
end
section
variable {X:Ctx} {ρ:Env} {H:List B} {w w':World} {P:Program} {q:Nat} {l l':List Nat}
theorem Emb.dfsL (h:Emb (X.wd q l) ρ H w) (hk:q < X.k) (hf:X.fx q=true):ρ q=(X.ρ q).wl l:=by
 rw [h.ag q hk hf]; exact Env.wl_at _ _ _
theorem Emb.dfsU (h:Emb (X.wd q l) ρ H w) (hq:H[q]?=some .dfs) (hk:q < X.k) (hf:X.fx q=true)
   (hos:w'.os=w.os) (htape:w'.tape=w.tape) (hout:w'.output=w.output) (hsz:w.heap.size<=w'.heap.size) (hkp:∀ k,k < w.heap.size->k ∉ l->w'.heap[k]?=w.heap[k]?)
   (hn:l'.Nodup) (hl:∀ D ∈ l',w'.heap[D]?=some (.deferred (some []))/\(D ∈ l ∨ w.heap.size<=D)):Emb (X.wd q l') (ρ.wl q l') H w':=by
 have e0:=h.dfsL hk hf
 have e1:(ρ q).l=l:=by rw [e0]; rfl
 have hql:=(List.getElem?_eq_some_iff.1 hq).1
 have er:rsF (ρ.wl q l') H 0=(rsF ρ H 0).set q (.objs l' (.deferred (some []))):=by
  refine List.ext_getElem? fun j=>?_
  rw [Ng,Nat.zero_add]
  by_cases e:q=j
  ·subst e
   rw [List.getElem?_set_self (by rw [A6l]; exact hql),hq,Env.wl_at]; rfl
  ·rw [List.getElem?_set_ne e,Ng,Nat.zero_add,Env.wl_ne _ _ (fun h=>e h.symm)]
   cases H[j]? with
   | none=>rfl
   | some b=>exact congrArg some (B.res_pl (Env.wl_pl ρ q l') (Loc.Pl.refl _) rfl)
 refine ⟨?_,fun i b hb=>?_,h.cl,fun i hi hfi=>?_,h.kl,h.nr⟩
 ·rw [er]
  refine h.hs.upd q (Bd hq) ⟨hn,fun D hD=>(hl D hD).1⟩ (fun D hD=>?_) hos htape hout hsz (fun k h1 h2=>hkp k h1 (fun h3=>h2 (by simp only [B.res,Res.fp]; rw [e1]; exact h3)))
  simp only [B.res,Res.fp]
  rw [e1]; exact (hl D hD).2
 ·by_cases e:i=q
  ·subst e; rw [hq] at hb; cases hb; trivial
  ·rw [Env.wl_ne _ _ e]
   exact (B.side_pl (Env.wl_pl ρ q l')).2 (h.sd i b hb)
 ·by_cases e:i=q
  ·subst e
   rw [Env.wl_at]
   show _=(X.ρ.wl i l') i
   rw [Env.wl_at,e0]; rfl
  ·rw [Env.wl_ne _ _ e]
   show _=(X.ρ.wl q l') i
   rw [Env.wl_ne _ _ e,h.ag i hi hfi]
   exact Env.wl_ne _ _ e
def Ctx.rb (X:Ctx) (ρ:Env) (H:List B) (k:Nat):Ctx:=⟨k,Gc H,ρ,X.M,X.w⟩
theorem Emb.rb (h:Emb X ρ H w) {k:Nat} (hk:∀ i,i < k->liv H i=true):Emb (X.rb ρ H k) ρ H w :=
 ⟨h.hs,h.sd,h.cl,fun _ _ _=>rfl,hk,fun i b _ hf hb=>by
  have:Gc H i=true:=hf
  unfold Gc at this
  rw [hb] at this
  simpa using this⟩
theorem Emb.bk {X':Ctx} {ρ':Env} {H':List B} (h:Emb X' ρ' H' w') (hM:X'.M=X.M) (hw:X'.w=X.w) (hf:∀ i,i < X.k->X.fx i=true->i < X'.k/\X'.fx i=true/\X'.ρ i=X.ρ i) (hl:∀ i,i < X.k->liv H' i=true):Emb X ρ' H' w':=by
 refine ⟨by rw [← hM,← hw]; exact h.hs,by rw [← hM,← hw]; exact h.sd,h.cl,fun i hi hfi=>?_,hl,fun i b hi hfi hb=>?_⟩
 ·obtain ⟨h1,h2,h3⟩:=hf i hi hfi
  rw [h.ag i h1 h2,h3]
 ·obtain ⟨h1,h2,h3⟩:=hf i hi hfi
  exact h.nr i b h1 h2 hb
theorem Emb.below (h:Emb X ρ H w) {n:Nat} (hn:H[n]?=some .free):X.k<=n:=by
 rcases Nat.lt_or_ge n X.k with h1 | h1
 ·have:=h.kl n h1
  unfold liv at this
  rw [hn] at this; cases this
 ·exact h1
theorem Emb.fixd (h:Emb X ρ H w) {n i:Nat} (hn:H[n]?=some .free) (hi:i < X.k) (hf:X.fx i=true):i < n/\Gc H i=true:=by
 refine ⟨Nat.lt_of_lt_of_le hi (h.below hn),?_⟩
 unfold Gc
 cases hb:H[i]? with
 | none=>rfl
 | some b=>simp only [h.nr i b hi hf hb]; rfl
theorem Emb.loAt (h:Emb X ρ H w) {g:Nat} {st:LoopState} {pe:Option Code} (hg:H[g]?=some (.lo st pe)):w.heap[(ρ g).g]?=some ((ρ g).r st pe):=h.hs.ok g _ (Bd hg)
theorem Emb.loU (h:Emb X ρ H w) {g:Nat} {st:LoopState} {pe:Option Code} (hg:H[g]?=some (.lo st pe)) (st':LoopState) (pe':Option Code):Emb X ρ (H.set g (.lo st' pe')) (w.putObj (ρ g).g ((ρ g).r st' pe')):=by
 have hh:=h.loAt hg
 have hlt:=Gx hh
 refine h.upd hg (fun e=>by cases e) (fun e=>by cases e) ?_ (fun x hx=>.inl hx) rfl rfl rfl (by simp [World.putObj]) (fun k hk1 hk2=>?_) trivial rfl
 ·show (w.putObj (ρ g).g _).heap[(ρ g).g]?=_
  simp [World.putObj,hlt]
 ·refine World.putObj_heap_other fun e=>hk2 ?_
  simp only [B.res,Res.fp]; rw [e]; simp
theorem Emb.goneU (h:Emb X ρ H w) {g:Nat} {b:B} (hg:H[g]?=some b):Emb X ρ (H.set g .gone) w :=
 h.upd hg (fun e=>by cases e) (fun e=>by cases e) (S4 w) (fun x hx=>absurd hx G8) rfl rfl rfl (Nat.le_refl _) (fun _ _ _=>rfl) trivial rfl
def mark (D:Nat):Deferred:={ target:=.collected D,args:=#[] }
def Xe (l:List Nat):List Deferred:=l.map mark
def Xk (g:Nat) (r:LoopState->Option Code->Obj):Loc:=⟨some g,0,0,0,r,[],none,0⟩
theorem Emb.begin (h:Emb (X.wd q l) ρ H w) (hq:H[q]?=some .dfs) (hk:q < X.k) (hf:X.fx q=true) {n:Nat} (hn:H[n]?=some .free) (hn1:H[n + 1]?=some .free) (r:LoopState->Option Code->Obj) :
    Emb (X.wd q (w.heap.size :: l)) (((ρ.wl q (w.heap.size :: l)).set n (Xk (w.heap.size + 1) r)).set (n + 1) Loc.nil) ((H.set n (.lo .ready none)).set (n + 1) .dfs) ((w.alloc (.deferred (some []))).alloc (r .ready none)):=by
 have e1:(ρ q).l=l:=by rw [h.dfsL hk hf]; rfl
 have ok:(Res.objs l (.deferred (some []))).ok w:=by
  have:=h.hs.ok q _ (Bd hq)
  simp only [B.res] at this
  rwa [e1] at this
 have h1:Emb (X.wd q (w.heap.size :: l)) (ρ.wl q (w.heap.size :: l)) H (w.alloc (.deferred (some []))):=by
  refine h.dfsU hq hk hf rfl rfl rfl (by simp) (fun k hk _=>Below.heap_alloc _ _ _ hk) (List.nodup_cons.2 ⟨fun hm=>?_,ok.1⟩) (fun D hD=>?_)
  ·have:=Gx (ok.2 _ hm); omega
  ·rcases List.mem_cons.1 hD with rfl | hD
   ·exact ⟨Fx _ _,.inr (Nat.le_refl _)⟩
   ·exact ⟨by rw [Below.heap_alloc _ _ _ (Gx (ok.2 _ hD))]; exact ok.2 _ hD,.inl hD⟩
 have sz:(w.alloc (.deferred (some []))).heap.size=w.heap.size + 1:=World.size_alloc _ _
 have h2:Emb (X.wd q (w.heap.size :: l)) ((ρ.wl q (w.heap.size :: l)).set n (Xk (w.heap.size + 1) r)) (H.set n (.lo .ready none)) ((w.alloc (.deferred (some []))).alloc (r .ready none)):=by
  refine h1.new (b:=.lo .ready none) hn ((Below.refl _ _).alloc (Nat.le_refl _) _) rfl (fun e=>by cases e) ?_ (fun x hx=>?_) trivial rfl
  ·show ((w.alloc (.deferred (some []))).alloc (r .ready none)).heap[w.heap.size + 1]?=some (r .ready none)
   rw [← sz]; exact Fx _ _
  ·simp only [B.res,Res.fp,List.mem_singleton] at hx
   subst hx
   rw [sz]; exact Nat.le_refl _
 refine h2.new (b:=.dfs) (by rw [List.getElem?_set_ne (by omega)]; exact hn1) (Below.refl _ _) rfl (fun e=>by cases e) ⟨List.nodup_nil,fun D hD=>by cases hD⟩ (fun x hx=>by cases hx) trivial rfl
theorem A03 {fn:Func} {R:Ending->World->Prop} {tm:Array Value} (hq:H[q]?=some .dfs) (hk:q < X.k) (hf:X.fx q=true):∀ (l:List Nat) {ρ:Env} {w:World},Emb (X.wd q l) ρ H w ->
    (∀ ρ' w',(∀ i,Loc.Pl (ρ i) (ρ' i))->(∀ i,i ≠ q->ρ' i=ρ i)->Emb (X.wd q []) ρ' H w'->∃ v,(results fn tm).run P w'=.ok v w'/\R (.returned v) w')->LeavesInM (FW none) 0 P fn tm R (Xe l) .returning w
 | [],ρ,w,h,k=>by
   obtain ⟨v,h1,h2⟩:=k ρ w (fun i=>Loc.Pl.refl _) (fun _ _=>rfl) h
   exact ⟨v,h1,h2⟩
 | D :: l,ρ,w,h,k=>by
   have e1:(ρ q).l=D :: l:=by rw [h.dfsL hk hf]; rfl
   have ok:(Res.objs (D :: l) (.deferred (some []))).ok w:=by
    have:=h.hs.ok q _ (Bd hq)
    simp only [B.res] at this
    rwa [e1] at this
   have hD:=ok.2 D (by simp)
   have hnd:=List.nodup_cons.1 ok.1
   have h':Emb (X.wd q l) (ρ.wl q l) H (w.putObj D (.deferred none)):=by
    refine h.dfsU hq hk hf rfl rfl rfl (by simp [World.putObj]) (fun j _ hj=>World.putObj_heap_other fun e=>hj (by rw [e]; simp)) hnd.2 (fun D' hD'=>⟨?_,.inl (List.mem_cons_of_mem _ hD')⟩)
    rw [World.putObj_heap_other (fun e=>hnd.1 (by rw [← e]; exact hD'))]
    exact ok.2 _ (List.mem_cons_of_mem _ hD')
   refine ⟨by simp,.inl ⟨D,_,rfl,run_takeDeferred hD,A03 hq hk hf l h' fun ρ' w' hp hne hE=>?_⟩⟩
   refine k ρ' w' (fun i=>?_) (fun i hi=>(hne i hi).trans (Env.wl_ne _ _ hi)) hE
   have a:=hp i
   have c:=Env.wl_pl ρ q l i
   exact ⟨a.a.trans c.a,a.o.trans c.o,a.n.trans c.n,a.cap.trans c.cap,a.r.trans c.r,a.ea.trans c.ea,a.ec.trans c.ec⟩
end
def Ml (H:List B) (a:Nat):Nat->List Nat
 | 0=>[]
 | k + 1=>bif (match H[a + k]? with | some .free=>true | _=>false) then (a + k) :: Ml H a k else Ml H a k
def O3 (H:List B):List Nat->List B
 | []=>H
 | j :: l=>O3 (H.set j .gone) l
def Aum (a:Nat) (s:St):St:=⟨s.T,O3 s.H (Ml s.H a (s.n - a)),s.n,s.I,Ml s.H a (s.n - a) ++ s.L⟩
def Xy (P:Program) (Y:Option Yd) (nT:Nat) (ops:Array Oper) (s:St):Option (St × List Ob):=match Zc P Y nT ops s with
 | some (s',os)=>some (Aum s.n s',os)
 | none=>none
section
variable {X:Ctx} {ρ:Env} {H:List B} {w:World} {nT:Nat} {a:Act} {ds:List Deferred} {T:List (Nat × V)}
theorem Na {g:Nat}:∀ (l:List Nat) (H:List B),Bb l g=false->(O3 H l)[g]?=H[g]?
 | [],H,_=>rfl
 | j :: l,H,h=>by
   have h1:Nat.beq g j=false:=by
    cases hq:Nat.beq g j with
    | false=>rfl
    | true=>simp only [Bb,hq] at h; cases h
   simp only [Bb,h1,cond_false] at h
   rw [O3,Na l _ h,List.getElem?_set_ne (fun e=>by rw [e,Nat.beq_refl] at h1; cases h1)]
theorem Zh:∀ (l:List Nat) {H:List B},Emb X ρ H w->tlt (liv H) T->(∀ j ∈ l,j < H.length)->Emb X ρ (O3 H l) w/\tlt (liv (O3 H l)) T
 | [],H,h,ht,_=>⟨h,ht⟩
 | j :: l,H,h,ht,hl=>by
   rw [O3]
   have hj:=hl j (by simp)
   refine Zh l (h.goneU (b:=H[j]) (List.getElem?_eq_getElem hj)) (A1h (Do fun e=>by cases e) ht) fun i hi=>?_
   rw [List.length_set]; exact hl i (List.mem_cons_of_mem _ hi)
theorem U3 {H:List B} {a:Nat}:∀ {k:Nat},∀ j ∈ Ml H a k,j < H.length
 | 0,j,h=>by cases h
 | k + 1,j,h=>by
   unfold Ml at h
   split at h
   ·rename_i hq
    rcases List.mem_cons.1 h with rfl | h
    ·exact (List.getElem?_eq_some_iff.1 hq).1
    ·exact U3 j h
   ·exact U3 j h
theorem At.fill {s:St} (h:At X ds nT s a w) (b:Nat):At X ds nT (Aum b s) a w:=by
 obtain ⟨ρ,hE,ha,ht⟩:=h
 obtain ⟨h1,h2⟩:=Zh (Ml s.H b (s.n - b)) hE ht U3
 exact ⟨ρ,h1,ha,h2⟩
end
