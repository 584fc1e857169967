import Derived.Test.YtfhiggfmkjmeiaaGreatFxJ
import Derived.Laws.CopyRow
set_option linter.all false
namespace Go.Proofs.YtfhiggfmkjmeiaaGreat
open Go Go.RowKit
theorem Agn {α:Type} (e:Enc α):∀ {l:List α} {k:Nat} {a a':α} {o:Nat} {vs:List Value},l[k]?=some a->o + vs.length<=e.sz->e.c a'=(e.c a).take o ++ vs ++ (e.c a).drop (o + vs.length) ->
 (e.cs l).take (k * e.sz + o) ++ vs ++ (e.cs l).drop (k * e.sz + o + vs.length)=e.cs (l.set k a')
 | [],k,a,a',o,vs,hk,_,_=>by simp at hk
 | x :: l,0,a,a',o,vs,hk,ho,h=>by
   simp at hk; subst hk
   have hx:=e.len x
   unfold Enc.cs
   rw [Nat.zero_mul,Nat.zero_add,List.set_cons_zero,List.flatMap_cons,List.flatMap_cons,h,List.take_append_of_le_length (by rw [hx]; omega),List.drop_append_of_le_length (by rw [hx]; omega)]
   simp [List.append_assoc]
 | x :: l,k + 1,a,a',o,vs,hk,ho,h=>by
   have hx:=e.len x
   have ih:=Agn e (l:=l) (k:=k) (by simpa using hk) ho h
   unfold Enc.cs at ih ⊢
   rw [List.set_cons_succ,List.flatMap_cons,List.flatMap_cons,← ih,Nat.succ_mul]
   have e1:((e.c x ++ l.flatMap e.c).take (k * e.sz + e.sz + o))=e.c x ++ (l.flatMap e.c).take (k * e.sz + o):=by
    rw [List.take_append,List.take_of_length_le (show (e.c x).length<=k * e.sz + e.sz + o by rw [hx]; omega),hx,show k * e.sz + e.sz + o - e.sz=k * e.sz + o by omega]
   have e2:((e.c x ++ l.flatMap e.c).drop (k * e.sz + e.sz + o + vs.length))=(l.flatMap e.c).drop (k * e.sz + o + vs.length):=by
    rw [List.drop_append,List.drop_of_length_le (show (e.c x).length<=k * e.sz + e.sz + o + vs.length by rw [hx]; omega),hx,show k * e.sz + e.sz + o + vs.length - e.sz=k * e.sz + o + vs.length by omega,List.nil_append]
   rw [e1,e2]
   simp [List.append_assoc]
theorem seg_one (L:List Value) {o i mm:Nat} {v:Value} (h:o + mm<=L.length) (hi:i < mm) :
   L.take o ++ (((L.drop o).take mm).take i ++ [v] ++ ((L.drop o).take mm).drop (i + 1)) ++ L.drop (o + mm)=L.take (o + i) ++ [v] ++ L.drop (o + i + 1):=by
 have e1:L.take (o + i)=L.take o ++ (L.drop o).take i:=by rw [List.take_add]
 have e2:((L.drop o).take mm).take i=(L.drop o).take i:=by rw [List.take_take,show min i mm=i by omega]
 have e3:((L.drop o).take mm).drop (i + 1) ++ L.drop (o + mm)=L.drop (o + i + 1):=by
  have e4:L.drop (o + mm)=(L.drop o).drop mm:=by rw [List.drop_drop]
  have e5:L.drop (o + i + 1)=(L.drop o).drop (i + 1):=by rw [List.drop_drop]; rfl
  rw [e4,e5]
  have hl:mm<=(L.drop o).length:=by rw [List.length_drop]; omega
  generalize L.drop o=K at hl ⊢
  conv=>rhs; rw [← List.take_append_drop mm K]
  rw [List.drop_append_of_le_length (by rw [List.length_take]; omega)]
 rw [e1,e2,← e3]
 simp [List.append_assoc]
section
variable {X:Ctx} {ρ:Env} {H:List B} {w w':World} {P:Program} {T:List (Nat × V)} {nT n:Nat} {a:Act} {ds:List Deferred}
theorem Nh {t:TypeId} {m:Nat} {v:Value} (ht:Oq P t=some m) (hv:v.cells.toList.length=m) (ad:Addr) {w':World} (h:(stS ad v.cells.toList).run P w=.ok .skip w') :
   ((Instr.storeAt t (.pointer (some ad)) v) >>= fun _=>pure Next.skip).run P w=.ok .skip w':=by
 have:=Atr (P:=P) (w:=w) (t:=t) (n:=m) (v:=v) ht hv ad
 rw [h] at this
 simpa only [Instr.storeAt,Instr.sureAddr,Sem.run_bind,Sem.run_pure,Result.andThen_ok,stV] using this
theorem As8 {l:List V} (h:V.wf l=true):(V.flat ρ l).all Value.oneCell'=true:=List.all_eq_true.2 (V.flat_one h)
theorem Apj (h:Emb X ρ H w) {g o:Nat} {l l':List V} {ty:TypeId} {vs:List Value} (hg:H[g]?=some (.blk l ty)) (h1:vs.all Value.oneCell'=true) (ho:o + vs.length<=(V.flat ρ l).length)
   (hw:V.wf l'=true) (hl:V.lts (liv H) l'=true) (hf:V.flat ρ l'=(V.flat ρ l).take o ++ vs ++ (V.flat ρ l).drop (o + vs.length)) :
   ∃ w',(stS ((ρ g).adr o) vs).run P w=.ok .skip w'/\Emb X ρ (H.set g (.blk l' ty)) w':=by
 have hb:w.heap[(ρ g).g]?=some (.cells (V.flat ρ l).toArray ty (0,0)):=h.hs.ok g _ (Bd hg)
 have hsd:=h.sd g _ hg
 refine ⟨w.setRow (ρ g).g (V.flat ρ l').toArray,?_,?_⟩
 ·unfold Loc.adr
  rw [hsd.1,Nat.zero_add]
  exact Agl vs _ hb (by simpa using ho) h1 (by rw [hf])
 ·refine h.upd hg (fun hr=>by cases hr) (by intro e; cases e) ?_ (fun x hx=>.inl hx) rfl rfl rfl (by simp) (fun k _ hk=>Mn w _ k _ (fun e=>hk (by simp [B.res,Res.fp,e]))) ⟨hsd.1,hw⟩ (V.lts_mono (Do (by intro e; cases e)) _ hl)
  exact Qj w _ _ _ ty (0,0) hb
theorem Avi (h:Emb X ρ H w) {g o:Nat} {α:Type} {e:Enc α} {l l':List α} {vs:List Value} (hg:H[g]?=some (.row e l)) (h1:vs.all Value.oneCell'=true) (ho:o + vs.length<=(e.cs l).length) (hpos:0 < vs.length)
   (hlen:l'.length=l.length) (hf:(e.cs l).take o ++ vs ++ (e.cs l).drop (o + vs.length)=e.cs l') :
   ∃ w',(stS ((ρ g).adr o) vs).run P w=.ok .skip w'/\Emb X ρ (H.set g (.row e l')) w':=by
 have hown:w.ownsRow 0 e.ty e.sz (ρ g).slw l.length (e.cs l):=h.hs.ok g _ (Bd hg)
 obtain ⟨s1,s2,s3⟩:=h.sd g _ hg
 cases ha:(ρ g).a with
 | none =>
   have:l=[]:=by
    rcases hown.2 with ⟨_,h2⟩ | ⟨g',cap,cur,hv,_⟩
    ·exact List.length_eq_zero_iff.1 h2
    ·unfold Loc.slw at hv; rw [ha] at hv; cases hv
   subst this
   have h0:(e.cs ([]:List α)).length=0:=rfl
   omega
 | some a0 =>
   have hv:(ρ g).slw=.slice (some ⟨a0,0,none⟩) l.length (ρ g).cap:=by unfold Loc.slw; rw [ha,s1,s2]
   have hown':=hown
   rw [hv] at hown'
   obtain ⟨w',r1,r2,r3⟩:=Aiz (P:=P) hown' vs (e.cs l') ho h1 hf
   refine ⟨w',?_,?_⟩
   ·unfold Loc.adr Loc.g
    rw [ha,s1,Nat.zero_add]; exact r1
   ·refine h.upd hg (fun _=>.inl rfl) (by intro e; cases e) ?_ (fun x hx=>.inl hx) r3.os r3.tape r3.output r3.size (fun k hk hk'=>r3.block k hk (fun e=>hk' (by simp only [B.res,Res.fp,hv,Value.ownBlock]; simpa using Option.some.inj e))) ⟨s1,by rw [s2,hlen],s3⟩ rfl
    show w'.ownsRow 0 _ _ (ρ g).slw l'.length (e.cs l')
    rw [hv,hlen]; exact r2
theorem Eff.upd {b:B} {g:Nat} (hb:b ≠ .free) (he:Emb X ρ (H.set g b) w') {res:Result Next} (hr:res=.ok .skip w'):Eff X ρ H (.v undef) [(g,b)] res :=
 ⟨ρ,w',.inr ⟨hr,rfl⟩,fun _ _=>rfl,he,by simp [V.lt],Do hb⟩
theorem As1 (h : Emb X ρ H w) {t : TypeId} {p x r : V} {W : List (Nat × B)} {I I' : List It} {os O : List Ob} (he : A80 P H t p (V.un x) I = some (r, W, I', os)) (hx : V.lt (liv H) x = true) (hg : Good P I (os ++ O)) :
   Eff X ρ H r W (((Instr.storeAt t (V.den ρ p) (V.den ρ x)) >>= fun _=>pure Next.skip).run P w)/\Good P I' O/\r.nz=true:=by
 unfold A80 at he
 split at he
 ·rename_i cs m hcs hm
  cases hb:(Nat.beq (V.ws cs) m && Nat.blt 0 m) with
  | false=>rw [hb] at he; cases he
  | true =>
    rw [hb] at he
    simp only [bq] at hb
    have hws:=Nat.eq_of_beq_eq_true hb.1
    have hpos:0 < m:=by have:=hb.2; rwa [Nat.blt_eq] at this
    obtain ⟨u1,u2⟩:=V.un_ok hcs ρ
    have u3:=V.un_lt hcs hx
    have hlen:(V.den ρ x).cells.toList.length=m:=by rw [← u2,V.ws_ok u1,hws]
    have hall:(V.den ρ x).cells.toList.all Value.oneCell'=true:=by rw [← u2]; exact As8 u1
    simp only [cond_true] at he
    split at he
    ·rename_i g o
     split at he
     ·rename_i l ty hgH
      obtain ⟨l',hl',e⟩:=mapSome he
      cases e
      have hlt:=h.cl g _ hgH
      obtain ⟨w1,w2⟩:=h.sd g _ hgH
      obtain ⟨p1,p2,p3⟩:=V.putL_ok (ρ:=ρ) u1 w2 hl'
      have hle:o + (V.den ρ x).cells.toList.length<=(V.flat ρ l).length:=by rw [hlen]; rw [V.ws_ok u1,hws] at p3; omega
      obtain ⟨w',r1,r2⟩:=Apj (P:=P) h hgH hall hle p1 (V.putL_lt u3 hlt hl') (by rw [p2,u2])
      refine ⟨Eff.upd (by intro e; cases e) r2 ?_,hg,rfl⟩
      rw [V.den]
      exact Nh hm hlen _ r1
     ·cases he
    ·rename_i g o i
     split at he
     ·rename_i l ty I1 k q hgH
      split at he
      ·rename_i k' mm f hseg
       cases hk:decide (k=k') with
       | false=>rw [hk] at he; cases he
       | true =>
         rw [hk] at he
         have hkk:=otq hk
         subst hkk
         obtain ⟨l',hl',e⟩:=mapSome he
         cases e
         cases hg with
         | lt hi hg =>
           have hlt:=h.cl g _ hgH
           obtain ⟨w1,w2⟩:=h.sd g _ hgH
           obtain ⟨p1,p2,p3⟩:=V.put1_ok (ρ:=ρ) (v:=.ar k mm (upI f i q)) rfl w2 hl'
           have hcells:(V.den ρ x).cells.toList=[.int k q]:=by rw [← u2,V.flat_cons,V.flat_nil,V.den]; rfl
           have hfl:∀ j,j < mm->(V.flat ρ l)[o + j]?=some (.int k (f j)):=V.seg_ok w2 hseg
           have e1:V.flat ρ l'=(V.flat ρ l).take (o + i) ++ [.int k q] ++ (V.flat ρ l).drop (o + i + 1):=by
            rw [p2,V.cells_ar,Adw k f q hi]
            have hseg':arV k f mm 0=((V.flat ρ l).drop o).take mm:=by
             apply List.ext_getElem?
             intro j
             rcases Nat.lt_or_ge j mm with hj | hj
             ·rw [Tg _ _ _ _ _ hj,Nat.zero_add,List.getElem?_take,if_pos hj,List.getElem?_drop,hfl j hj]
             ·rw [List.getElem?_eq_none (by rw [B3]; exact hj),List.getElem?_eq_none (by rw [List.length_take]; omega)]
            rw [hseg']
            exact seg_one (V.flat ρ l) (o:=o) (mm:=mm) p3 hi
           obtain ⟨w',r1,r2⟩:=Apj (P:=P) (o:=o + i) h hgH hall (by rw [hcells]; have:o + mm<=(V.flat ρ l).length:=p3; show o + i + 1<=_; omega) p1 (V.put1_lt (by simp [V.lt]) hlt hl') (by rw [hcells]; exact e1)
           refine ⟨Eff.upd (by intro e; cases e) r2 ?_,hg,rfl⟩
           rw [V.den]
           exact Nh hm hlen _ r1
      ·cases he
     ·cases he
    ·rename_i g i s o
     split at he
     ·rename_i α e l b I1 hgH
      cases hc:(Nat.beq s e.sz && Nat.beq o 0 && Nat.beq m s) with
      | false=>rw [hc] at he; cases he
      | true =>
        rw [hc] at he; cases he
        simp only [bq] at hc
        have e1:=Nat.eq_of_beq_eq_true hc.1.1
        have e2:=Nat.eq_of_beq_eq_true hc.1.2
        have e3:=Nat.eq_of_beq_eq_true hc.2
        subst e1 e2
        cases hg with
        | sw hi hg =>
          rename_i a'
          have hca:(V.den ρ x).cells.toList=e.c a':=by rw [← u2,e.flat]
          have hget:l[i]?=some l[i]:=List.getElem?_eq_getElem hi
          have hset:=Agm (f:=e.c) e.len hi a'
          have hle:i * e.sz + (V.den ρ x).cells.toList.length<=(e.cs l).length:=by
           rw [hlen,e3,e.csLen]
           have:=Nat.mul_le_mul_right e.sz (show i + 1<=l.length by omega)
           rw [Nat.succ_mul] at this; omega
          obtain ⟨w',r1,r2⟩:=Avi (P:=P) (o:=i * e.sz) (l':=l.set i a') h hgH hall hle (by rw [hlen]; exact hpos) (by simp) (by rw [hca]; exact hset)
          refine ⟨Eff.upd (by intro e; cases e) r2 ?_,hg,rfl⟩
          rw [V.den,Nat.add_zero]
          exact Nh hm hlen _ r1
     ·rename_i α e l c0 b I1 hgH
      cases hc:Nat.beq s e.sz with
      | false=>rw [hc] at he; cases he
      | true =>
        rw [hc] at he
        have e1:=Nat.eq_of_beq_eq_true hc
        subst e1
        simp only [cond_true] at he
        split at he
        ·rename_i c1 hc1
         cases he
         cases hg with
         | el ha hg =>
           rename_i a0
           cases hg with
           | sw hi hg =>
             rename_i a'
             obtain ⟨p1,p2,p3⟩:=V.putL_ok (ρ:=ρ) u1 (e.wf a0) hc1
             rw [e.flat,e.flat,u2] at p2
             have hlo:o + (V.den ρ x).cells.toList.length<=e.sz:=by
              rw [hlen]; rw [V.ws_ok u1,hws,e.flat,e.len] at p3; omega
             have hset:=Agn e ha hlo p2
             have hle:i * e.sz + o + (V.den ρ x).cells.toList.length<=(e.cs l).length:=by
              rw [e.csLen]
              have:=Nat.mul_le_mul_right e.sz (show i + 1<=l.length by omega)
              rw [Nat.succ_mul] at this; omega
             obtain ⟨w',r1,r2⟩:=Avi (P:=P) (o:=i * e.sz + o) (l':=l.set i a') h hgH hall hle (by rw [hlen]; exact hpos) (by simp) hset
             refine ⟨Eff.upd (by intro e; cases e) r2 ?_,hg,rfl⟩
             rw [V.den]
             exact Nh hm hlen _ r1
        ·cases he
     ·cases he
    ·cases he
 ·cases he
end
structure Rs:Type 1 where
 x:V
 W:List (Nat × B)
 c:Nat
 I:List It
 os:List Ob
 kp:Option (Nat->Bool)
structure Yd:Type 1 where
 g:Nat
 h:List V->List B->Nat->List It->Option Rs
def Jl (P : Program) (f : FuncId) : Bool := match P.funcs[f]? with | some fn => !(fn.name == "runtime.NumGoroutine") && fn.body.isSome | none => false
def evC (P:Program) (Y:Option Yd) (T:List (Nat × V)) (H:List B) (n:Nat) (o:Oper) (I:List It):Option Rs :=
 match o.op with
 | .call { callee:=.value f,args:=xs,.. }=>match evO T f,I with
   | .yl g,I=>match Y with
     | some y=>bif Nat.beq g y.g && xs.all (fun x=>(evO T x).nz) then y.h (xs.toList.map (evO T)) H n I else none
     | none=>none
   | .fn (.func fid) b cp,.c σ args pre res post :: I' =>
     bif Jl P fid && xs.all (fun x=>(evO T x).nz) && Pz H n σ args pre res post then
      some ⟨V.rn (sgm σ pre.length n) res,Tp n σ pre post,post.length - pre.length,I',[.c fid (b ++ xs.toList.map (evO T) ++ cp) (Nc H σ pre 0)],bif pre.any B.isRow then some (W6 σ pre) else none⟩
     else none
   | _,_=>none
 | _=>none
def Ahz (P:Program) (Y:Option Yd) (T:List (Nat × V)) (H:List B) (n:Nat) (o:Oper) (I:List It):Option Rs :=
 match evQ P T H o I with
 | some (x,I',os)=>some ⟨x,[],0,I',os,none⟩
 | none=>match evX P T H o I with
   | some (x,I',os)=>some ⟨x,[],0,I',os,none⟩
   | none=>match (match o.op with | .build t ps=>evB P T t ps | _=>none) with
     | some x=>some ⟨x,[],0,I,[],none⟩
     | none=>bif Gw (H.drop n) 1 then (match evE P T H n o I with
       | some (x,W,I',os)=>some ⟨x,W,(bif W.any (fun p=>Nat.beq p.1 n) then 1 else 0),I',os,none⟩
       | none=>evC P Y T H n o I) else evC P Y T H n o I
def Does (P:Program) (o:Oper) (a:Act) (w:World) (K:Value->World->Prop):Prop :=
 match (execOp a.eval o).run P w with
 | .ok (.value u) w'=>K u w'
 | .ok .skip w'=>K undef w'
 | .ok (.enter f args) w'=>Calls P f args w' fun e w''=>∃ u,e=.returned u/\K u w''
 | .ok (.round l f tmps asg bd) w'=>RoundIn (FW none) 0 P l f tmps asg bd w' fun e w''=>∃ u,e=.returned u/\K u w''
 | _=>False
def Rs.keep (r:Rs) (i:Nat):Bool:=match r.kp with | some k=>k i | none=>true
def Aft (X:Ctx) (ρ:Env) (H:List B) (r:Rs) (u:Value) (w':World):Prop :=
 ∃ ρ',(∀ i,liv H i=true->r.keep i=true->ρ' i=ρ i)/\u=V.den ρ' r.x/\Emb X ρ' (Em H r.W) w'/\V.lt (liv (Em H r.W)) r.x=true/\(∀ i,liv H i=true->liv (Em H r.W) i=true)/\r.x.nz=true
def YOk (P:Program) (X:Ctx) (Y:Option Yd):Prop:=∀ y,Y=some y->∀ {ρ:Env} {H:List B} {w:World} {n:Nat} {xs:List V} {I:List It} {r:Rs} {O:List Ob},Emb X ρ H w->V.lts (liv H) xs=true->(∀ x ∈ xs,x.nz=true)->y.h xs H n I=some r->Good P I (r.os ++ O) ->
 YieldAt (FW none) 0 P (ρ y.g).g (V.dens ρ xs).toArray w fun e w'=>∃ u,e=.returned u/\Aft X ρ H r u w'/\Good P r.I O
theorem Does.mono {P:Program} {o:Oper} {a:Act} {w:World} {K K':Value->World->Prop} (h:Does P o a w K) (k:∀ u w',K u w'->K' u w'):Does P o a w K':=by
 unfold Does at h ⊢
 generalize (execOp a.eval o).run P w=r at h ⊢
 split at h
 ·exact k _ _ h
 ·exact k _ _ h
 ·exact h.mono fun e w'' ⟨u,h1,h2⟩=>⟨u,h1,k u w'' h2⟩
 ·exact h.mono fun e w'' ⟨u,h1,h2⟩=>⟨u,h1,k u w'' h2⟩
 ·exact h.elim
section
variable {X:Ctx} {ρ:Env} {H:List B} {w w':World} {P:Program} {T:List (Nat × V)} {nT n:Nat} {a:Act} {ds:List Deferred} {Y:Option Yd}
theorem Does.quiet (h:Emb X ρ H w) {o:Oper} {x:V} {r:Rs} (hr:(execOp a.eval o).run P w=.ok (.value (V.den ρ x)) w) (h1:r.x=x) (h2:r.W=[]) (hl:V.lt (liv H) x=true) (hz:x.nz=true):Does P o a w (Aft X ρ H r):=by
 unfold Does
 rw [hr]
 exact ⟨ρ,fun _ _ _=>rfl,by rw [h1],by rw [h2]; exact h,by rw [h1,h2]; exact hl,by rw [h2]; exact fun _ hi=>hi,by rw [h1]; exact hz⟩
theorem Does.eff {o:Oper} {r:Rs} (he:Eff X ρ H r.x r.W ((execOp a.eval o).run P w)) (hz:r.x.nz=true):Does P o a w (Aft X ρ H r):=by
 obtain ⟨ρ',w',h1,h2,h3,h4,h5⟩:=he
 unfold Does
 rcases h1 with h1 | ⟨h1,hx⟩
 ·rw [h1]; exact ⟨ρ',fun i hi _=>h2 i hi,rfl,h3,h4,h5,hz⟩
 ·rw [h1]; exact ⟨ρ',fun i hi _=>h2 i hi,by rw [hx,V.den],h3,h4,h5,hz⟩
theorem As9 {n:Nat} (h:Gw (H.drop n) 1=true):H[n]?=some .free:=by
 have:=P2 (i:=0) h (by omega)
 rwa [List.getElem?_drop,Nat.add_zero] at this
theorem Afx (zs:Array Value):∀ n:Nat,(madeCells zs (n * zs.size)).toList=(List.replicate n zs.toList).flatten:=fun n=>by
 apply List.ext_getElem?
 intro j
 have hl:∀ n:Nat,((List.replicate n zs.toList).flatten).length=n * zs.size:=fun n=>by simp
 have key:∀ (n j:Nat),j < n * zs.size->((List.replicate n zs.toList).flatten)[j]?=some (zs[j % zs.size]!):=fun n=>by
  induction n with
  | zero=>intro j hj; omega
  | succ n ih =>
    intro j hj
    rw [List.replicate_succ,List.flatten_cons]
    rcases Nat.lt_or_ge j zs.size with h1 | h1
    ·rw [List.getElem?_append_left (by simpa using h1),Nat.mod_eq_of_lt h1]
     simp [h1]
    ·rw [List.getElem?_append_right (by simpa using h1),Array.length_toList,ih (j - zs.size) (by rw [Nat.succ_mul] at hj; omega),Nat.mod_eq_sub_mod h1]
 rcases Nat.lt_or_ge j (n * zs.size) with h1 | h1
 ·rw [key n j h1]
  simp [madeCells,h1]
 ·rw [List.getElem?_eq_none (by simp [madeCells]; exact h1),List.getElem?_eq_none (by rw [hl]; exact h1)]
theorem Aud {α:Type} (e:Enc α) (a:α):∀ n:Nat,e.cs (List.replicate n a)=(List.replicate n (e.c a)).flatten
 | 0=>rfl
 | n + 1=>by unfold Enc.cs; rw [List.replicate_succ,List.flatMap_cons,List.replicate_succ,List.flatten_cons]; congr 1; exact Aud e a n
theorem Adf {t ty:TypeId} {i:TypeInfo} {z:Value} {len:Nat} {parts:Array (Nat × Value)} {cells:Array Value} (hu:P.underlying t=some (.slice ty)) (hi:P.info? ty=some i) (hz:i.zero=some z) (h24:len * i.size<=16777216) (h0:len * i.size ≠ 0)
   (hf:Instr.fill (fun j=>some (j * i.size,i.size)) (madeCells z.cells (len * i.size)) parts.toList=some cells) (w:World) :
   (Instr.buildSlice t len parts).run P w=.ok (.slice (some ⟨w.heap.size,0,none⟩) len len) (w.alloc (.cells cells ty)):=by
 have hf':Instr.fill (fun j=>some (j * i.size,i.size)) ((Array.range (len * i.size)).map (z.cells[· % z.cells.size]!)) parts.toList=some cells:=hf
 have hn:¬ len * i.size > 2 ^ 24:=by omega
 simp [Instr.buildSlice,run_underlying hu,typeInfo,hi,sizeOf,Wo hi hz,h0,hn,hf',newRow]
theorem Af4 (ρ:Env) (zl:List V):∀ len:Nat,V.flat ρ (List.replicate len zl).flatten=(List.replicate len (V.flat ρ zl)).flatten
 | 0=>by rw [List.replicate_zero,List.replicate_zero,List.flatten_nil,V.flat_nil]; rfl
 | n + 1=>by rw [List.replicate_succ,List.flatten_cons,V.flat_append,Af4 ρ zl n,List.replicate_succ,List.flatten_cons]
theorem Avd {zl:List V} (h:V.wf zl=true):∀ len:Nat,V.wf (List.replicate len zl).flatten=true
 | 0=>rfl
 | n + 1=>by
   rw [List.replicate_succ,List.flatten_cons]
   unfold V.wf at h ⊢
   rw [List.all_append,h]
   have:=Avd (zl:=zl) h n
   unfold V.wf at this
   rw [this]; rfl
theorem Aa0 {t ty:TypeId} {i:TypeInfo} {parts:Array (Nat × Value)} (hu:P.underlying t=some (.slice ty)) (hi:P.info? ty=some i) (hp:parts.toList=[]) (w:World) :
   (Instr.buildSlice t 0 parts).run P w=.ok (.slice (some ⟨w.heap.size,0,none⟩) 0 0) (w.alloc (.cells #[] ty)):=by
 have h0:Array.range 0=#[]:=by apply Array.ext'; simp
 simp [Instr.buildSlice,run_underlying hu,typeInfo,hi,sizeOf,hp,Instr.fill,newRow,h0]
theorem Arp (h : Emb X ρ H w) (hn : H[n]? = some .free) {d : Option Nat} {t : TypeId} {parts : Array (Nat × Value)} (hp : parts.toList = []) {x : V} {W : List (Nat × B)} {I I' : List It} {os O : List Ob} (he : Awq P n d t I = some (x, W, I', os)) (hg : Good P I (os ++ O)) :
   Eff X ρ H x W ((Instr.buildSlice t 0 parts >>= fun v=>pure (Next.value v)).run P w)/\Good P I' O/\x.nz=true:=by
 unfold Awq at he
 split at he
 ·rename_i ty hs
  split at he
  ·rename_i z s by' d' b I2 hinf
   cases hb:(Wv d d' && Nat.blt 0 s) with
   | false=>rw [hb] at he; cases he
   | true =>
     rw [hb] at he
     simp only [cond_true,Option.some.injEq,Prod.mk.injEq] at he
     obtain ⟨rfl,rfl,rfl,rfl⟩:=he
     simp only [bq] at hb
     have b1:0 < s:=by have:=hb.2; rwa [Nat.blt_eq] at this
     obtain ⟨inf,i1,i2,i3,i4⟩:=info_parts (P7 hinf)
     have hrun:=Aa0 (P:=P) (parts:=parts) (H5 hs) i1 hp w
     rw [List.cons_append,List.nil_append] at hg
     generalize hrr:([]:List V)=r0 at hg
     cases hg with
     | bs _ l hg =>
       rename_i α e
       have hll:l=[]:=by
        have h1:e.cs l=[]:=by rw [← W1 e ρN l,← hrr,V.flat_nil]
        have h2:=congrArg List.length h1
        rw [e.csLen,List.length_nil] at h2
        rcases Nat.mul_eq_zero.1 h2 with h3 | h3
        ·exact List.length_eq_zero_iff.1 h3
        ·omega
       subst hll
       refine ⟨⟨ρ.set n (Loc.of (some w.heap.size) 0 0 0),w.alloc (.cells #[] e.ty),.inl ?_,Env.set_old hn,Uk h hn ((Below.refl _ _).alloc (Nat.le_refl _) _) ?_ (fun g hg=>?_) ⟨rfl,rfl,fun h=>by cases h⟩,?_,Do (by intro e; cases e)⟩,hg,rfl⟩
       ·rw [Sem.run_bind,hrun,V.den,Pm]; rfl
       ·refine ⟨by simp [Enc.cs],.inr ⟨w.heap.size,0,#[],rfl,Nat.zero_le _,Fx w _,Nat.le_refl _,Nat.zero_le _,by simp,by simp [Enc.cs]⟩⟩
       ·simp [Loc.slw,Value.ownBlock] at hg
        omega
       ·simp only [V.lt]; exact Qo (List.getElem?_eq_some_iff.1 hn).1 (by intro e; cases e)
  ·cases he
 ·cases he
theorem Arq (h : Emb X ρ H w) (ha : ActOk ds ρ nT T a) (ht : tlt (liv H) T) (hn : H[n]? = some .free) {d : Option Nat} {t : TypeId} {len : Nat} {parts : Array (Nat × Operand)} {x : V} {W : List (Nat × B)} {I I' : List It} {os O : List Ob} (he : Aws P T n d t len parts I = some (x, W, I', os)) (hg : Good P I (os ++ O)) :
   Eff X ρ H x W ((Instr.buildSlice t len (parts.map fun (i,x)=>(i,a.eval x)) >>= fun v=>pure (Next.value v)).run P w)/\Good P I' O/\x.nz=true:=by
 unfold Aws at he
 cases hb0:(Nat.beq len 0 && parts.toList.isEmpty) with
 | true =>
   rw [hb0] at he
   simp only [bq] at hb0
   have e0:=Nat.eq_of_beq_eq_true hb0.1
   subst e0
   refine Arp h hn ?_ he hg
   have:parts.toList=[]:=by simpa using hb0.2
   have hp:parts=#[]:=by apply Array.ext'; rw [this]
   rw [hp]; simp
 | false =>
 rw [hb0] at he
 simp only [cond_false] at he
 split at he
 ·rename_i ty hs
  split at he
  ·rename_i zl z s by' hz hinf
   cases hb:(Nat.blt 0 s && Nat.blt 0 len && Nat.ble (len * s) 16777216 && Nat.beq z.cells.size s) with
   | false=>rw [hb] at he; cases he
   | true =>
     rw [hb] at he
     simp only [cond_true] at he
     simp only [bq] at hb
     have b1:0 < s:=by have:=hb.1.1.1; rwa [Nat.blt_eq] at this
     have b2:0 < len:=by have:=hb.1.1.2; rwa [Nat.blt_eq] at this
     have b3:=Nat.le_of_ble_eq_true hb.1.2
     have b4:=Nat.eq_of_beq_eq_true hb.2
     split at he
     ·rename_i ps hps
      split at he
      ·rename_i r hr
       simp only [Option.some.injEq] at he
       obtain ⟨p1,p2,p3,p4⟩:=Wg (ρ:=ρ) ha ht hps
       obtain ⟨i,z',hi,hx,z1,z2,z3⟩:=Sd hz
       obtain ⟨inf,i1,i2,i3,i4⟩:=info_parts (P7 hinf)
       rw [hi] at i1; cases i1
       rw [hx] at i2; cases i2
       have hmade:V.flat ρ (List.replicate len zl).flatten=(madeCells z.cells (len * s)).toList:=by rw [Af4,z3 ρ,← b4,Afx]
       obtain ⟨q1,cells,q2,q3⟩:=Zk (ρ:=ρ) (fun i=>some (i * s,s)) ps _ (madeCells z.cells (len * s)) r p1 p2 (Avd z1 len) hmade hr
       have hlt:V.lts (liv H) r=true:=Zj (fun p hp=>by obtain ⟨y,hy,rfl⟩:=List.mem_map.1 hp; exact p3 y hy) (V.lts_iff.2 fun y hy=>by
        obtain ⟨l,hl,hyl⟩:=List.mem_flatten.1 hy
        rw [List.eq_of_mem_replicate hl] at hyl
        exact V.lt_mono Sh y ((V.lts_iff.1 z2) y hyl)) hr
       have hp:(parts.map fun (i,x)=>(i,a.eval x)).toList=ps.map fun p=>(p.1,V.den ρ p.2.2.2):=by rw [← p4]; simp
       have hpos:len * s ≠ 0:=by have:=Nat.mul_pos b2 b1; omega
       have hsz : cells.size = len * s := by
        have hlen : ∀ (place : Nat -> Option (Nat × Nat)) (l : List (Nat × Value)) (c c' : Array Value), Instr.fill place c l = some c' -> c'.size = c.size := by
         intro place l
         induction l with
         | nil=>intro c c' h; cases h; rfl
         | cons p l ih =>
           intro c c' h
           obtain ⟨i0,v0⟩:=p
           rw [Instr.fill] at h
           split at h
           ·cases h
           ·split at h
            ·cases h
            ·rw [ih _ _ h]
             have:∀ (l:List (Value × Nat)) (o:Nat) (c:Array Value),(l.foldl (fun cs x=>cs.setIfInBounds (o + x.2) x.1) c).size=c.size:=by
              intro l
              induction l with
              | nil=>intro o c; rfl
              | cons y l ih=>intro o c; rw [List.foldl_cons,ih]; simp
             rw [← Array.foldl_toList]
             exact this _ _ _
        rw [hlen _ _ _ _ q2,size_madeCells]
       have hrun:=Adf (P:=P) (len:=len) (parts:=parts.map fun (i,x)=>(i,a.eval x)) (cells:=cells) (H5 hs) hi hx (by rw [i3]; exact b3) (by rw [i3]; exact hpos) (by rw [hp,i3]; exact q2) w
       have F7:Eff X ρ H (.sg n 0 s len) [(n,.blk r ty)] ((Instr.buildSlice t len (parts.map fun (i,x)=>(i,a.eval x)) >>= fun v=>pure (Next.value v)).run P w):=by
        refine Eff.blk (cs:=cells) h hn q1 hlt q3 ?_ (by simp [V.lt])
        rw [Sem.run_bind,hrun,V.den,Pm]
        rfl
       unfold Au9 at he
       split at he
       ·rename_i d' b I2
        cases hd:Wv d d' with
        | false =>
          rw [hd] at he
          simp only [cond_false,Prod.mk.injEq] at he
          obtain ⟨rfl,rfl,rfl,rfl⟩:=he
          exact ⟨F7,hg,rfl⟩
        | true =>
          rw [hd] at he
          simp only [cond_true,Prod.mk.injEq] at he
          obtain ⟨rfl,rfl,rfl,rfl⟩:=he
          generalize hrr:r=r0 at hg
          cases hg with
          | bs _ l hg =>
            rename_i α e
            have hcs:e.cs l=cells.toList:=by rw [← q3,hrr,W1]
            have hll:l.length=len:=by
             have h1:=congrArg List.length hcs
             rw [e.csLen] at h1
             simp only [Array.length_toList] at h1
             rw [hsz] at h1
             exact Nat.eq_of_mul_eq_mul_right b1 h1
            refine ⟨⟨ρ.set n (Loc.of (some w.heap.size) 0 len len),w.alloc (.cells cells e.ty),.inl ?_,Env.set_old hn,Uk h hn ((Below.refl _ _).alloc (Nat.le_refl _) _) ?_ (fun g hg=>?_) ⟨rfl,hll.symm,fun h=>by cases h⟩,?_,Do (by intro e; cases e)⟩,hg,rfl⟩
            ·rw [Sem.run_bind,hrun,V.den,Pm]; rfl
            ·refine ⟨by rw [hcs,Array.length_toList,hsz,hll],.inr ⟨w.heap.size,len,cells,?_,Nat.zero_le _,Fx w _,?_,?_,hsz,?_⟩⟩
             ·rw [hll]; rfl
             ·rw [hll]; exact Nat.le_refl _
             ·have:len<=len * e.sz:=Nat.le_mul_of_pos_right len b1
              unfold maxLen; omega
             ·rw [hcs,List.take_of_length_le]
              show cells.toList.length<=l.length * e.sz
              rw [Array.length_toList,hsz,hll]; exact Nat.le_refl _
            ·simp [Loc.slw,Value.ownBlock] at hg
             omega
            ·simp only [V.lt]; exact Qo (List.getElem?_eq_some_iff.1 hn).1 (by intro e; cases e)
       ·simp only [Prod.mk.injEq] at he
        obtain ⟨rfl,rfl,rfl,rfl⟩:=he
        exact ⟨F7,hg,rfl⟩
      ·cases he
     ·cases he
  ·cases he
 ·cases he
theorem Apl {ad:Addr} {vs:List Value} (h:(stS ad vs).run P w=.ok .skip w'):(storeCells ad vs 0).run P w=.ok () w':=by
 unfold stS at h
 have e:((storeCells ad vs 0).bind fun _=>Sem.pure Next.skip).run P w=((storeCells ad vs 0) >>= fun _=>pure Next.skip).run P w:=rfl
 rw [e,Sem.run_bind] at h
 cases hq:(storeCells ad vs 0).run P w with
 | ok x w1=>rw [hq] at h; simp only [Result.andThen_ok] at h; injection h with h1 h2; rw [← h2]
 | _=>rw [hq] at h; simp [Result.andThen] at h
theorem Arr (h : Emb X ρ H w) {t : TypeId} {x y r : V} {W : List (Nat × B)} {I I' : List It} {os O : List Ob} (he : Ahs P H t x y I = some (r, W, I', os)) (hg : Good P I (os ++ O)) (t2 ot : TypeId) :
   Eff X ρ H r W (((Builtin.copy_ #[t,t2] ot #[V.den ρ x,V.den ρ y]) >>= fun v=>pure (Next.value v)).run P w)/\Good P I' O/\r.nz=true:=by
 unfold Ahs at he
 split at he
 ·rename_i g o s' n hdst
  split at he
  ·rename_i l ty' ty l' k I1 hgl hs
   split at he
   ·rename_i s hsz
    cases hb:Nat.blt 0 s with
    | false=>rw [hb] at he; cases he
    | true =>
    rw [hb] at he
    have hs0:0 < s:=Nat.le_of_ble_eq_true hb
    simp only [cond_true] at he
    split at he
    ·rename_i src hsrc
     cases hb2:(Nat.beq s s' && V.lts L0 l && (V.part l o (n * s)).isSome && Nat.blt 0 n) with
     | false=>rw [hb2] at he; cases he
     | true =>
     rw [hb2] at he
     cases he
     simp only [bq] at hb2
     obtain ⟨⟨⟨b1,b2⟩,b3⟩,b4⟩:=hb2
     have b4:0 < n:=Nat.le_of_ble_eq_true b4
     cases hg with
     | cp hsl hle hf hg hk hz hw' hl' =>
     rename_i α e xs
     subst hk
     refine ⟨?_,hg,rfl⟩
     have hsrc':=Ty h hsrc hsl hz hs0
     obtain ⟨q,hq⟩:=Option.isSome_iff_exists.1 b3
     have hwl:=(h.blk hgl (l:=l) rfl).2.1
     obtain ⟨p1,p2,p3⟩:=V.part_ok (ρ:=ρ) hwl hq
     have hfl:V.flat ρ l=V.flat ρN l:=V.flat_ext (n:=L0) (fun i hi=>by cases hi) _ b2
     have hfl':V.flat ρ l'=V.flat ρN l':=V.flat_ext (n:=L0) (fun i hi=>by cases hi) _ hl'
     have hlen:(e.cs xs).length=xs.length * s:=by rw [e.csLen,hz]
     have hroom:o + n * s<=(V.flat ρ l).length:=by
       rw [p2,List.length_take,List.length_drop] at p3
       have:=Nat.mul_pos b4 hs0
       omega
     have ho:o + (e.cs xs).length<=(V.flat ρ l).length:=by
       have:=Nat.mul_le_mul_right s hle
       omega
     obtain ⟨w',r1,r2⟩:=Apj h (o:=o) (vs:=e.cs xs) hgl (List.all_eq_true.2 (e.csOne xs)) ho hw' (V.lts_mono Sh _ hl') (by rw [hfl',hfl,hf,hz,hlen])
     have hu:=H5 hs
     have hden:∃ c,V.den ρ x=.slice (some ((ρ g).adr o)) n c:=by
       unfold Ats at hdst
       split at hdst
       ·cases hdst; exact ⟨_,by rw [V.den]⟩
       ·cases hdst; exact ⟨_,by rw [V.den]⟩
       ·cases hdst
     obtain ⟨cx,hden⟩:=hden
     have key:(Builtin.copy_ #[t,t2] ot #[V.den ρ x,V.den ρ y]).run P w=.ok (goInt xs.length) w':=by
       have hst:=Apl (P:=P) r1
       obtain ⟨inf,hinf,hisz⟩:=mapSome hsz
       rw [hden]
       rcases hsrc' with ⟨e1,e2,e3⟩ | ⟨e1,A,c,e2,e3⟩
       ·rw [e3] at hst
        have hw2:w'=w:=by simpa [storeCells] using hst.symm
        rw [e1,run_copy_nil (P:=P) w t t2 ot ty _ n cx hu (by rw [hinf]; rfl),e2,hw2]; rfl
       ·have hld:=run_loadCells_list (P:=P) w A (e.cs xs) e3
        rw [e1] at hld
        rw [e2]
        have hmin:Nat.min xs.length n=xs.length:=Nat.min_eq_left hle
        simp [Builtin.copy_,run_underlying hu,Builtin.lenOf,Builtin.firstCells,sizeOf,typeInfo,hinf,hisz,hmin,hld,hst]
     refine ⟨ρ,w',.inl ?_,fun _ _=>rfl,r2,by simp [V.lt],Do (by intro e; cases e)⟩
     rw [Sem.run_bind,key]; rw [V.den]; rfl
    ·cases he
   ·cases he
  ·cases he
 ·cases he
theorem Awt (h : Emb X ρ H w) (ha : ActOk ds ρ nT T a) (ht : tlt (liv H) T) (hn : H[n]? = some .free) {o : Oper} {x : V} {W : List (Nat × B)} {I I' : List It} {os O : List Ob} (he : evE P T H n o I = some (x, W, I', os)) (hg : Good P I (os ++ O)) :
   Eff X ρ H x W ((execOp a.eval o).run P w)/\Good P I' O/\x.nz=true:=by
 have hl:=fun x=>Gv ht x
 unfold evE at he
 split at he
 ·rename_i t ho
  obtain ⟨l,hz,e⟩:=mapSome he
  cases e
  obtain ⟨i,z,hi,hx,z1,z2,z3⟩:=Sd hz
  refine ⟨Eff.blk (cs:=z.cells) h hn z1 (V.lts_mono Sh _ z2) (z3 ρ) ?_ (by simp [V.lt]),hg,rfl⟩
  rw [Av7]
  have hex:execOp a.eval o=(Instr.alloc t true (.tuple #[]) >>= fun v=>pure (Next.value v)):=by unfold execOp; rw [ho]
  rw [hex,Sem.run_bind]
  simp only [Instr.alloc,Sem.run_bind,Wo hi hx,Result.andThen_ok]
  rfl
 ·rename_i t y ho
  obtain ⟨l,hz,e⟩:=mapSome he
  cases e
  obtain ⟨u1,u2⟩:=V.un_ok hz ρ
  have hyz:evO T y ≠ .z:=fun e=>by rw [e] at hz; cases hz
  refine ⟨Eff.blk (cs:=(V.den ρ (evO T y)).cells) h hn u1 (V.un_lt hz (hl y)) u2 ?_ (by simp [V.lt]),hg,rfl⟩
  rw [Av7]
  have hex:execOp a.eval o=(Instr.box t (a.eval y) >>= fun v=>pure (Next.value v)):=by unfold execOp; rw [ho]
  rw [hex,ha.eval (A3e hyz)]
  rfl
 ·rename_i t p y ho
  have hyz:evO T y ≠ .z:=fun e=>by rw [e] at he; unfold A80 at he; cases he
  have hpz:evO T p ≠ .z:=fun e=>by
   rw [e] at he; unfold A80 at he
   split at he
   ·cases hb:(Nat.beq _ _ && _) <;> rw [hb] at he <;> cases he
   ·cases he
  obtain ⟨h1,h2,h3⟩:=As1 h he (hl y) hg
  refine ⟨?_,h2,h3⟩
  have hex:execOp a.eval o=(Instr.storeAt t (a.eval p) (a.eval y) >>= fun _=>pure Next.skip):=by unfold execOp; rw [ho]
  rw [hex,ha.eval (A3e hyz),ha.eval (A3e hpz)]
  exact h1
 ·rename_i t len parts ho
  have hex:execOp a.eval o=(Instr.buildSlice t len (parts.map fun (i,x)=>(i,a.eval x)) >>= fun v=>pure (Next.value v)):=by unfold execOp; rw [ho]
  rw [hex]
  exact Arq h ha ht hn he hg
 ·rename_i t l c ho
  split at he
  ·rename_i ty k x0 k' y0 b I1 hs hlx hcx
   split at he
   ·rename_i zl zv s by' hz hinf
    cases hb:(Ap2 l c && Nat.blt 0 s && Nat.ble by' 65536) with
    | false=>rw [hb] at he; cases he
    | true =>
      rw [hb] at he; cases he
      simp only [bq] at hb
      have c2:0 < s:=by have:=hb.1.2; rwa [Nat.blt_eq] at this
      have c3:=Nat.le_of_ble_eq_true hb.2
      have hu:=H5 hs
      have hinf':=P7 hinf
      generalize hzz:V.flat ρN zl=zs at hg
      cases hg with
      | mk hle hg =>
        rename_i α e a0 m
        obtain ⟨i,z,hi,hx,z1,z2,z3⟩:=Sd hz
        obtain ⟨inf,i1,i2,i3,i4⟩:=info_parts hinf'
        rw [hi] at i1; cases i1
        rw [hx] at i2; cases i2
        obtain ⟨w',r1,r2,r3⟩:=run_make_full (P:=P) w w.heap.size t e.ty i zv e.sz hu hi hx i3 k k m (by rw [i4]; have:=Nat.mul_le_mul c3 hle; omega) (by unfold maxLen; omega) (Nat.le_refl _)
        have hzs:zv.cells.toList=e.c a0:=by rw [← z3 ρN]; exact hzz
        have hsz:zv.cells.size=e.sz:=by have:=congrArg List.length hzs; rw [e.len] at this; simpa using this
        have hown:w'.ownsRow 0 e.ty e.sz (.slice (some ⟨w.heap.size,0,none⟩) m m) (List.replicate m a0).length (e.cs (List.replicate m a0)):=by
         rw [Aud,← hzs,← Afx,hsz,List.length_replicate]
         refine ⟨r2.1,?_⟩
         rcases r2.2 with q0 | ⟨q1,q2,q3,q4,q5,q6⟩
         ·exact .inl q0
         ·exact .inr ⟨q1,q2,q3,q4,Nat.zero_le _,q6⟩
        have hd:V.den (ρ.set n (Loc.of (some w.heap.size) 0 m m)) (.sl n)=.slice (some ⟨w.heap.size,0,none⟩) m m:=by rw [V.den,Pm]; rfl
        refine ⟨⟨ρ.set n (Loc.of (some w.heap.size) 0 m m),w',.inl ?_,Env.set_old hn,Uk h hn ⟨r3.os,r3.tape,r3.output,r3.size,fun k hk=>r3.block k hk (by simp)⟩ hown (fun g hg=>?_) ⟨rfl,by simp,fun h=>by cases h⟩,?_,Do (by intro e; cases e)⟩,hg,rfl⟩
        ·have hlv:a.eval l=.int k ((m:Nat):Int):=by rw [ha.eval (by rw [hlx]; rfl),hlx,V.den]
         have hcv:a.eval c=.int k ((m:Nat):Int):=by
          have hsame:=hb.1.1
          unfold Ap2 at hsame
          split at hsame
          ·rename_i a1 b1; rw [← Nat.eq_of_beq_eq_true hsame]; exact hlv
          ·rename_i k1 x1 k2 y1
           simp only [bq,decide_eq_true_eq,beq_iff_eq] at hsame
           rw [← hsame.1,← hsame.2]; exact hlv
          ·cases hsame
         have hex:execOp a.eval o=(Instr.makeSlice t (a.eval l) (a.eval c) >>= fun v=>pure (Next.value v)):=by unfold execOp; rw [ho]
         rw [hex,hlv,hcv,hd,Sem.run_bind,r1]; rfl
        ·simp [Loc.slw,Value.ownBlock] at hg
         omega
        ·simp only [V.lt]; exact Qo (List.getElem?_eq_some_iff.1 hn).1 (by intro e; cases e)
   ·cases he
  ·cases he
 ·rename_i xs ts ho
  split at he
  ·rename_i x1 y1 t1 t2 hxs hts
   cases hb:(Nat.beq t1 t2 && (evO T x1).nz && (evO T y1).nz) with
   | false=>rw [hb] at he; cases he
   | true =>
     rw [hb] at he
     simp only [bq] at hb
     have e1:=Nat.eq_of_beq_eq_true hb.1.1
     subst e1
     simp only [cond_true] at he
     obtain ⟨h1,h2,h3⟩:=Aro (oty:=o.type) h hn he hg
     refine ⟨?_,h2,h3⟩
     have hxs':xs=#[x1,y1]:=by apply Array.ext'; rw [hxs]
     have hts':ts=#[t1,t1]:=by apply Array.ext'; rw [hts]
     have hex:(execOp a.eval o).run P w=(Builtin.append_ #[t1,t1] o.type #[a.eval x1,a.eval y1] >>= fun v=>pure (Next.value v)).run P w:=by
      unfold execOp; rw [ho]
      subst hxs' hts'
      show Sem.run P (resolve a.eval { callee:=.builtin .append,args:=#[x1,y1],argTypes:=#[t1,t1] } o.type >>= fun d=>invoke d.target d.args) w=_
      simp only [resolve,Sem.run_bind,Sem.run_pure,Result.andThen_ok,invoke,builtin]
      rw [show (#[x1,y1].map a.eval)=#[a.eval x1,a.eval y1] by simp]
     rw [hex,ha.eval hb.1.2,ha.eval hb.2]
     exact h1
  ·cases he
 ·rename_i xs ts ho
  split at he
  ·rename_i x1 y1 t1 t2 hxs hts
   cases hb:((evO T x1).nz && (evO T y1).nz) with
   | false=>rw [hb] at he; cases he
   | true =>
     rw [hb] at he
     simp only [bq] at hb
     simp only [cond_true] at he
     obtain ⟨h1,h2,h3⟩:=Arr h he hg t2 o.type
     refine ⟨?_,h2,h3⟩
     have hxs':xs=#[x1,y1]:=by apply Array.ext'; rw [hxs]
     have hts':ts=#[t1,t2]:=by apply Array.ext'; rw [hts]
     have hex:(execOp a.eval o).run P w=(Builtin.copy_ #[t1,t2] o.type #[a.eval x1,a.eval y1] >>= fun v=>pure (Next.value v)).run P w:=by
      unfold execOp; rw [ho]
      subst hxs' hts'
      show Sem.run P (resolve a.eval { callee:=.builtin .copy,args:=#[x1,y1],argTypes:=#[t1,t2] } o.type >>= fun d=>invoke d.target d.args) w=_
      simp only [resolve,Sem.run_bind,Sem.run_pure,Result.andThen_ok,invoke,builtin]
      rw [show (#[x1,y1].map a.eval)=#[a.eval x1,a.eval y1] by simp]
     rw [hex,ha.eval hb.1,ha.eval hb.2]
     exact h1
  ·cases he
 ·rename_i t m k v ho
  split at he
  ·rename_i g hm
   split at he
   ·rename_i y F j et hgm hk hmo
    cases hb:(V.lt L0 (evO T v) && (evO T v).nz) with
    | false=>rw [hb] at he; cases he
    | true =>
      rw [hb] at he
      simp only [cond_true,Option.some.injEq] at he
      simp only [bq] at hb
      obtain ⟨kt,hu,hkt⟩:=A0b hmo
      obtain ⟨es,cl,h1,h2⟩:=h.map hgm (by rfl)
      have hex:execOp a.eval o=(Instr.mapUpdate t (a.eval m) (a.eval k) (a.eval v) >>= fun _=>pure Next.skip):=by unfold execOp; rw [ho]
      have hm':a.eval m=.map (some (ρ g).g):=by rw [ha.eval (by rw [hm]; rfl),hm,V.den]
      have hk':a.eval k=.int .i64 j:=by rw [ha.eval (by rw [hk]; rfl),hk,V.den]
      rw [hex,hm',hk',ha.eval hb.2]
      obtain ⟨es',cl',h3,h4⟩:=Adh (P:=P) (z:=V.den ρN y) hu hkt h1 h2 j (V.den ρ (evO T v))
      have hs:=MapKept.heap_set (o':=.map es' cl') h1
      have hF:(fun i=>V.den ρN (upM F j (evO T v) i))=Az3 (fun i=>V.den ρN (F i)) j (V.den ρ (evO T v)):=by
       funext i
       unfold upM Az3
       split
       ·exact (V.den_ext (n:=L0) (ρ:=ρN) (ρ':=ρ) (fun i hi=>by cases hi) _ hb.1).symm
       ·rfl
      have key:∀ F':Int->V,(∀ i,F' i=upM F j (evO T v) i)->Eff X ρ H (.v undef) [(g,.mp y F')] ((Instr.mapUpdate t (.map (some (ρ g).g)) (.int .i64 j) (V.den ρ (evO T v)) >>= fun _=>pure Next.skip).run P w):=fun F' hF'=>by
       have e:F'=upM F j (evO T v):=funext hF'
       subst e
       refine Eff.upd (w':={ w with heap:=w.heap.setIfInBounds (ρ g).g (.map es' cl') }) (by intro e; cases e) (h.upd (b':=.mp y (upM F j (evO T v))) hgm (fun e=>by cases e) (by intro e; cases e) ⟨es',cl',hs.1,?_⟩ (fun x hx=>.inl hx) rfl rfl rfl (by simp) (fun q _ hq=>hs.2 q (fun e=>hq (by simp [B.res,Res.fp,e]))) trivial rfl) (by rw [Sem.run_bind,h3]; rfl)
       rw [hF]; exact h4
      unfold muE at he
      split at he
      ·cases he
       cases hg with
       | mu hF' hg=>exact ⟨key _ hF',hg,rfl⟩
      ·cases he
       exact ⟨key _ (fun _=>rfl),hg,rfl⟩
   ·cases he
  ·cases he
 ·rename_i t ho
  split at he
  ·rename_i et hmo
   obtain ⟨l,hz,e⟩:=mapSome he
   cases e
   refine ⟨?_,hg,rfl⟩
   have hex:execOp a.eval o=(Instr.makeMap t none >>= fun v=>pure (Next.value v)):=by unfold execOp; rw [ho]; rfl
   have hr:(Instr.makeMap t none >>= fun v=>pure (Next.value v)).run P w=.ok (.value (.map (some w.heap.size))) (w.alloc (.map #[] 0)):=by simp [Instr.makeMap,Result.andThen]
   refine ⟨ρ.set n (Loc.of (some w.heap.size) 0 0 0),w.alloc (.map #[] 0),.inl ?_,Env.set_old hn,h.new hn ((Below.refl _ _).alloc (Nat.le_refl _) _) rfl (by intro e; cases e) ⟨#[],0,Fx _ _,MapFn.empty _⟩ (fun x hx=>?_) trivial rfl,?_,Do (by intro e; cases e)⟩
   ·rw [hex,hr,V.den,Pm]; rfl
   ·simp [B.res,Res.fp,Loc.g] at hx; omega
   ·simp only [V.lt]; exact Qo (List.getElem?_eq_some_iff.1 hn).1 (by intro e; cases e)
  ·cases he
 ·cases he
theorem A3p {f:FuncId} {args:Array Value} (hc:Jl P f=true) (w:World):(callFunc f args).run P w=.ok (.enter f args) w:=by
 unfold Jl at hc
 split at hc
 ·rename_i fn hf
  simp only [bq,Bool.not_eq_true'] at hc
  have hb:fn.body.isNone=false:=by
   cases hq:fn.body with
   | none=>rw [hq] at hc; simp at hc
   | some c=>rfl
  simp only [callFunc,Sem.run_bind,run_program,Result.andThen_ok,hf,hc.1,hb,Bool.false_eq_true,if_false,Sem.run_pure]
 ·cases hc
theorem Ave {σ:Nat->Vw} {x:V} (h:V.alive σ x=true) (hz:x.nz=true):(V.rn σ x).nz=true:=by
 cases x <;> simp only [V.rn,V.alive] at h ⊢ <;> first | rfl | (cases hz; done) | skip
 all_goals (first | (obtain ⟨j,hj⟩:=Vw.of_isId h; rw [hj]; rfl) | (rename_i g; cases σ g <;> rfl))
theorem Alh (hY:YOk P X Y) (h:Emb X ρ H w) (ht:tlt (liv H) T) (ha:ActOk ds ρ nT T a) {o:Oper} {r:Rs} {I:List It} {O:List Ob} (he:evC P Y T H n o I=some r) (hg:Good P I (r.os ++ O)):Does P o a w fun u w'=>Aft X ρ H r u w'/\Good P r.I O:=by
 unfold evC at he
 split at he
 ·rename_i f xs ats ho
  split at he
  ·rename_i g hf
   split at he
   ·rename_i y
    cases hb:(Nat.beq g y.g && xs.all (fun x=>(evO T x).nz)) with
    | false=>rw [hb] at he; cases he
    | true =>
      rw [hb] at he
      simp only [bq] at hb
      obtain ⟨b1,b2⟩:=hb
      have b1:=Nat.eq_of_beq_eq_true b1
      subst b1
      obtain ⟨fn,tmps,asg,bd,h1,h2⟩:=hY y rfl h (A50 ht _) (fun x hx=>by obtain ⟨o',ho',rfl⟩:=List.mem_map.1 hx; exact (Array.all_eq_true_iff_forall_mem.1 b2) o' (by simpa using ho')) he hg
      have hex:(execOp a.eval o).run P w=(Instr.yield (ρ y.g).g (V.dens ρ (xs.toList.map (evO T))).toArray).run P w:=by
       have h4:a.eval f=.func (.yield (ρ y.g).g) #[] #[]:=by rw [ha.eval (by rw [hf]; rfl),hf,V.den]
       unfold execOp
       rw [ho]
       show Sem.run P (resolve a.eval { callee:=.value f,args:=xs,argTypes:=ats } o.type >>= fun d=>invoke d.target d.args) w=_
       simp only [resolve,h4,Deferred.ofValue,Sem.run_bind,Sem.run_pure,Result.andThen_ok,invoke]
       rw [Y0 ha b2]
       simp
      unfold Does
      rw [hex,h1]
      exact h2
   ·cases he
  ·rename_i fid b cp σ args pre res post I' hf
   cases hb:(Jl P fid && xs.all (fun x=>(evO T x).nz) && Pz H n σ args pre res post) with
   | false=>rw [hb] at he; cases he
   | true =>
     rw [hb] at he
     simp only [bq] at hb
     obtain ⟨⟨b1,b2⟩,b3⟩:=hb
     cases he
     simp only at hg
     generalize hq1:b ++ xs.toList.map (evO T) ++ cp=avs at hg
     generalize hq2:Nc H σ pre 0=fs at hg
     have hg2:Sp P fid args pre res post/\avs=V.rns (sg0 σ) args/\fs=want σ pre 0/\Good P I' O:=by
      cases hg with
      | c _ hs hg=>exact ⟨hs,rfl,rfl,hg⟩
      | cw _ hs _ e hg=>exact ⟨hs,rfl,e,hg⟩
     clear hg
     obtain ⟨hs,rfl,rfl,hg⟩:=hg2
     refine Does.mono (K:=Aft X ρ H _) ?_ (fun u w' h=>⟨h,hg⟩)
     have hex:(execOp a.eval o).run P w=.ok (.enter fid (V.dens ρ (V.rns (sg0 σ) args)).toArray) w:=by
      have h1:a.eval f=.func (.func fid) (V.dens ρ b).toArray (V.dens ρ cp).toArray:=by rw [ha.eval (by rw [hf]; rfl),hf,V.den]
      have h2:((V.dens ρ b).toArray ++ xs.map a.eval) ++ (V.dens ρ cp).toArray=(V.dens ρ (V.rns (sg0 σ) args)).toArray:=by
       rw [Y0 ha b2,← hq1,V.dens_map,V.dens_map,V.dens_map,V.dens_map]
       simp
      unfold execOp
      rw [ho]
      show Sem.run P (resolve a.eval { callee:=.value f,args:=xs,argTypes:=ats } o.type >>= fun d=>invoke d.target d.args) w=_
      simp only [resolve,h1,Deferred.ofValue,Sem.run_bind,Sem.run_pure,Result.andThen_ok,invoke]
      rw [A3p b1,h2]
     unfold Does
     rw [hex]
     refine (h.call hs b3 hq2).mono fun e w' ⟨ρ',h1,h2,h3,h4,h5⟩=>⟨_,h2,ρ',fun i hi hk=>h1 i hi ?_,rfl,h3,h4,h5,?_⟩
     ·unfold Rs.keep at hk
      simp only at hk
      cases hany:pre.any B.isRow with
      | true=>rw [hany] at hk; exact hk
      | false=>unfold W6; rw [A02 hany]; rfl
     ·simp only [Pz,bq] at b3
      exact Ave b3.1.1.2 hs.rs.2
  ·cases he
 ·cases he
theorem Aer (hY:YOk P X Y) (h:Emb X ρ H w) (ha:ActOk ds ρ nT T a) (ht:tlt (liv H) T) {o:Oper} {r:Rs} {I:List It} {O:List Ob} (he:Ahz P Y T H n o I=some r) (hg:Good P I (r.os ++ O)):Does P o a w fun u w'=>Aft X ρ H r u w'/\Good P r.I O:=by
 unfold Ahz at he
 split at he
 ·rename_i x I' os hq
  cases he
  obtain ⟨h1,h2,h3,h4⟩:=Aww h ha ht hq hg
  exact (Does.quiet h h1 rfl rfl h3 h4).mono fun u w' h=>⟨h,h2⟩
 ·split at he
  ·rename_i x I' os hq
   cases he
   obtain ⟨h1,h2,h3,h4⟩:=Awz h ha ht hq hg
   exact (Does.quiet h h1 rfl rfl h3 h4).mono fun u w' h=>⟨h,h2⟩
  ·split at he
   ·rename_i x hq
    cases he
    split at hq
    ·rename_i t ps ho
     obtain ⟨h1,h2,h3⟩:=Awr (ρ:=ρ) ha ht hq w
     refine (Does.quiet h ?_ rfl rfl h2 h3).mono fun u w' h=>⟨h,hg⟩
     have hex:execOp a.eval o=(Instr.build t (ps.map fun (i,x)=>(i,a.eval x)) >>= fun v=>pure (Next.value v)):=by unfold execOp; rw [ho]
     rw [hex]
     exact Ni h1
    ·cases hq
   ·cases hf:Gw (H.drop n) 1 with
    | false=>rw [hf] at he; exact Alh hY h ht ha he hg
    | true =>
      rw [hf] at he
      simp only [cond_true] at he
      split at he
      ·rename_i x W I' os hq
       cases he
       obtain ⟨h1,h2,h3⟩:=Awt h ha ht (As9 hf) hq hg
       exact (Does.eff h1 h3).mono fun u w' h=>⟨h,h2⟩
      ·exact Alh hY h ht ha he hg
end
