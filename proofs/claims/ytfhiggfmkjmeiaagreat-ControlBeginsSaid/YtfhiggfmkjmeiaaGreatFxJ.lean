import Derived.Test.YtfhiggfmkjmeiaaGreatFxI
set_option linter.all false
namespace Go.Proofs.YtfhiggfmkjmeiaaGreat
open Go Go.RowKit
def plF (P:Program) (t:TypeId):Option (Nat->Option (Nat × Nat)) :=
 match P.underlying t with
 | some (.array _ e)=>match P.info? e with | some ie=>some fun i=>some (i * ie.size,ie.size) | none=>none
 | some (.struct fs)=>match fs.toList.mapM (fun f=>(P.info? f.type).map fun i=>(f.offset,i.size)) with | some places=>some fun i=>places.toArray[i]? | none=>none
 | _=>none
def A0v (T:List (Nat × V)) (f:Nat->Option (Nat × Nat)):List (Nat × Operand)->Option (List (Nat × Nat × Nat × V))
 | []=>some []
 | (i,x) :: l=>match f i,A0v T f l with
   | some (o,s),some r=>bif (evO T x).nz && Nat.blt 0 s then some ((i,o,s,evO T x) :: r) else none
   | _,_=>none
def evB (P:Program) (T:List (Nat × V)) (t:TypeId) (parts:Array (Nat × Operand)):Option V :=
 match Td P t,plF P t with
 | some zl,some f=>match A0v T f parts.toList with
   | some ps=>(Zi zl (ps.map (·.2))).map A2e
   | none=>none
 | _,_=>none
section
variable {X:Ctx} {ρ:Env} {H:List B} {w w':World} {P:Program} {T:List (Nat × V)} {nT:Nat} {a:Act} {ds:List Deferred}
theorem Wg (ha:ActOk ds ρ nT T a) {m:Nat->Bool} (ht:tlt m T) {f:Nat->Option (Nat × Nat)}:∀ {l:List (Nat × Operand)} {ps:List (Nat × Nat × Nat × V)},A0v T f l=some ps ->
   (∀ p ∈ ps,f p.1=some (p.2.1,p.2.2.1))/\(∀ p ∈ ps,0 < p.2.2.1)/\(∀ p ∈ ps,V.lt m p.2.2.2=true)/\l.map (fun p=>(p.1,a.eval p.2))=ps.map fun p=>(p.1,V.den ρ p.2.2.2)
 | [],ps,h=>by cases h; exact ⟨fun p hp=>(by cases hp),fun p hp=>(by cases hp),fun p hp=>(by cases hp),rfl⟩
 | (i, x) :: l, ps, h => by
   rw [A0v] at h
   split at h
   ·rename_i o s r hf hr
    cases hz:((evO T x).nz && Nat.blt 0 s) with
    | false=>rw [hz] at h; cases h
    | true =>
      rw [hz] at h; cases h
      simp only [bq] at hz
      have hs:0 < s:=by have:=hz.2; rwa [Nat.blt_eq] at this
      obtain ⟨h1,h2,h3,h4⟩:=Wg ha ht hr
      refine ⟨fun p hp=>?_,fun p hp=>?_,fun p hp=>?_,?_⟩
      ·rcases List.mem_cons.1 hp with rfl | hp
       ·exact hf
       ·exact h1 p hp
      ·rcases List.mem_cons.1 hp with rfl | hp
       ·exact hs
       ·exact h2 p hp
      ·rcases List.mem_cons.1 hp with rfl | hp
       ·exact Gv ht x
       ·exact h3 p hp
      ·rw [List.map_cons,List.map_cons,h4,ha.eval hz.1]
   ·cases h
theorem Awr (ha:ActOk ds ρ nT T a) {m:Nat->Bool} (ht:tlt m T) {t:TypeId} {parts:Array (Nat × Operand)} {r:V} (he:evB P T t parts=some r) (w:World) :
   (Instr.build t (parts.map fun (i,x)=>(i,a.eval x))).run P w=.ok (V.den ρ r) w/\V.lt m r=true/\r.nz=true:=by
 unfold evB at he
 split at he
 ·rename_i zl f hz hf
  obtain ⟨i,x,hi,hx,z1,z2,z3⟩:=Sd hz
  split at he
  ·rename_i ps hps
   obtain ⟨r',hr,rfl⟩:=mapSome he
   obtain ⟨p1,p2,p3,p4⟩:=Wg (ρ:=ρ) ha ht hps
   obtain ⟨q1,cells',q2,q3⟩:=Zk (ρ:=ρ) f ps zl x.cells r' p1 p2 z1 (z3 ρ) hr
   refine ⟨?_,Ya (Zj (fun p hp=>by obtain ⟨y,hy,rfl⟩:=List.mem_map.1 hp; exact p3 y hy) (V.lts_mono Sh _ z2) hr),Yb _⟩
   rw [Uj,q3]
   have hp:(parts.map fun (i,x)=>(i,a.eval x)).toList=ps.map fun p=>(p.1,V.den ρ p.2.2.2):=by rw [← p4]; simp
   have:=run_build (P:=P) w t (parts.map fun (i,x)=>(i,a.eval x)) cells' (by
    rw [hp]
    unfold plF at hf
    unfold Program.built
    rw [hi]
    split at hf
    ·rename_i e hu
     rw [hu]
     split at hf
     ·rename_i ie hie
      cases hf
      simp only [hx,hie]
      exact q2
     ·cases hf
    ·rename_i fs hu
     rw [hu]
     split at hf
     ·rename_i places hpl
      cases hf
      simp only [hx,hpl]
      exact q2
     ·cases hf
    ·cases hf)
   rw [this]
  ·cases he
 ·cases he
theorem A19 {v:Value} {t oty ty:TypeId} {sz bytes n:Nat} {zv:Value} {xs:List Value} {u:Value} {m:Nat} {ys:List Value} (hown:w.ownsRow 0 ty sz v n xs) (hsrc:Src w sz u m ys) (hu:P.underlying t=some (.slice ty))
   (hinf:(P.info? ty).map (fun i=>(i.zero,i.size,i.bytes))=some (some zv,sz,bytes)) (hz:zv.cells.size=sz) (hsz:0 < sz)
   (h1:∀ u ∈ ys,u.oneCell'=true) (b1:n + m<=maxLen) (b2:(n + m) * bytes<=140737488355328) :
   ∃ v' w',(Builtin.append_ #[t,t] oty #[v,u]).run P w=.ok v' w'/\w'.ownsRow 0 ty sz v' (n + m) (xs ++ ys)/\(∀ g ∈ v'.ownBlock.toList,g ∈ v.ownBlock.toList ∨ w.heap.size<=g)/\w.grownBy w' v.ownBlock:=by
 obtain ⟨inf,hi1,hi2,hi3,hi4⟩:=info_parts hinf
 rcases hsrc with ⟨rfl,rfl,rfl⟩ | ⟨hl,A,c,rfl,hc⟩
 ·refine ⟨v,w,run_append_owned_none w 0 t oty ty inf sz hu hi1 v n xs hown,by simpa using hown,fun g hg=>.inl hg,⟨rfl,rfl,rfl,Nat.le_refl _,fun _ _ _=>rfl⟩⟩
 ·rcases hown.2 with ⟨rfl,rfl⟩ | ⟨g,cap,cur,rfl,hb,hg,hnc,hcm,hcs,htake⟩
  ·have hx0:xs=[]:=by have:=hown.1; simpa using this
   subst hx0
   obtain ⟨v',w',r1,r2,r3,_⟩:=run_append_own (P:=P) w w.heap.size t oty ty inf zv sz bytes hu hi1 hi2 hi3 hi4 hz hsz (.slice none 0 0) 0 [] (World.ownsRow_nil w _ ty sz) A m c ys hl hc h1 b1 b2 (Nat.le_refl _)
   refine ⟨v',w',r1,⟨r2.1,?_⟩,fun g hg=>.inr (World.ownsRow.lt r2 g (by simpa using hg)).1,r3⟩
   rcases r2.2 with h0 | ⟨g,cap,cur,hv,_,r⟩
   ·exact .inl h0
   ·exact .inr ⟨g,cap,cur,hv,Nat.zero_le _,r⟩
  ·by_cases hroom:n + m<=cap
   ·obtain ⟨w',r1,r2,r3⟩:=run_append_fits (P:=P) w 0 t oty ty inf sz hu hi1 hi3 g n cap xs hown A m c ys hl hc h1 hroom
    exact ⟨_,w',r1,r2,fun g' hg'=>.inl hg',r3⟩
   ·obtain ⟨v',w',r1,r2,r3⟩:=run_append_arg_grows (P:=P) w t oty ty inf zv sz bytes hu hi1 hi2 hi3 hi4 hz hsz ⟨g,0,none⟩ n cap xs hown.1 (World.ownsRow.cells hown rfl) A m c ys hl hc (by omega) b1 b2
    refine ⟨v',w',r1,⟨r2.1,?_⟩,fun g' hg'=>.inr (World.ownsRow.lt r2 g' (by simpa using hg')).1,⟨r3.os,r3.tape,r3.output,r3.size,fun k hk _=>r3.block k hk (by simp)⟩⟩
    rcases r2.2 with h0 | ⟨g',cap',cur',hv,_,r⟩
    ·exact .inl h0
    ·exact .inr ⟨g',cap',cur',hv,Nat.zero_le _,r⟩
theorem Ane {ty:TypeId} {sz n:Nat} {v:Value} {xs:List Value} (h:w.ownsRow 0 ty sz v n xs):∃ c:Loc,c.slw=v/\c.o=0/\c.n=n/\(c.a=none->c.cap=0/\c.ea=none):=by
 rcases h.2 with ⟨rfl,rfl⟩ | ⟨g,cap,_,rfl,_⟩
 ·exact ⟨Loc.nil,rfl,rfl,rfl,fun _=>⟨rfl,rfl⟩⟩
 ·exact ⟨.of (some g) 0 n cap,rfl,rfl,rfl,fun h=>by cases h⟩
end
def A0u (H:List B) (g:Nat):Option B:=match H[g]? with | some (.row e l)=>some (.row e l) | _=>none
def Zd (H:List B) (s:Nat) (y:V):Option (List V ⊕ B) :=
 match y with
 | .v (.slice none n c)=>bif Nat.beq n 0 && Nat.beq c 0 then some (.inl []) else none
 | .v (.slice (some _) n _)=>bif Nat.beq n 0 then some (.inl []) else none
 | .sl g=>match (H[g]?).map B.bare with | some (.row e l)=>some (.inr (.row e l)) | _=>none
 | .sg g o s' n=>bif Nat.beq s s' then match (H[g]?).bind Py with | some l=>(V.part l o (n * s)).map .inl | none=>none else none
 | .sk g o s' n _=>bif Nat.beq s s' then match (H[g]?).bind Py with | some l=>(V.part l o (n * s)).map .inl | none=>none else none
 | _=>none
def A33 (P:Program) (ty:TypeId):Option (Value × Nat × Nat):=match P.info? ty with | some i=>i.zero.map fun x=>(x,i.size,i.bytes) | none=>none
def Ap2:Operand->Operand->Bool
 | .tmp a,.tmp b=>Nat.beq a b
 | .const (.int k x),.const (.int k' y)=>decide (k=k') && (x == y)
 | _,_=>false
def Att:List V ⊕ B->Nat
 | .inl cs=>V.ws cs
 | .inr _=>0
def Ahr (P : Program) (H : List B) (n : Nat) (t : TypeId) (x y : V) (I : List It) : Option (V × List (Nat × B) × List It × List Ob) :=
 match K3 P t,I with
 | some ty,.ap b :: I=>match A33 P ty with
   | some (z,s,by')=>bif Nat.beq z.cells.size s && Nat.blt 0 s && Nat.ble by' 65536 then match Zd H s y with
     | some src=>match x with
       | .v (.slice none n' c)=>bif Nat.beq n' 0 && Nat.beq c 0 then some (.sl n,[(n,b)],I,[.ap (.inl []) src ty s]) else none
       | .sl g=>match A0u H g with | some b0=>some (.sl n,[(g,.gone),(n,b)],I,[.ap (.inr b0) src ty s]) | none=>none
       | .sg g o s' m=>bif Nat.beq s' s && Nat.blt 0 (Att src) then match (H[g]?).bind Py with
         | some l=>match V.part l o (m * s) with | some r=>some (.sl n,[(n,b)],I,[.ap (.inl r) src ty s]) | none=>none
         | none=>none
         else none
       | _=>none
     | none=>none
     else none
   | none=>none
 | _,_=>none
def A80 (P:Program) (H:List B) (t:TypeId) (p:V) (cs:Option (List V)) (I:List It):Option (V × List (Nat × B) × List It × List Ob) :=
 match cs,Oq P t with
 | some cs,some n=>bif Nat.beq (V.ws cs) n && Nat.blt 0 n then match p with
   | .pt g o=>match H[g]? with
     | some (.blk l ty)=>(V.putL l o cs).map fun l'=>(.v undef,[(g,.blk l' ty)],I,[])
     | _=>none
   | .ps g o i=>match H[g]?,I,cs with
     | some (.blk l ty),.lt :: I,[.v (.int k x)]=>match V.seg l o with
       | some (k',m,f)=>bif decide (k=k') then (V.put1 l o (.ar k' m (upI f i x))).map fun l'=>(.v undef,[(g,.blk l' ty)],I,[.lt i m]) else none
       | none=>none
     | _,_,_=>none
   | .pe g i s o=>match H[g]?,I with
     | some (.row e l),.sw b :: I=>bif Nat.beq s e.sz && Nat.beq o 0 && Nat.beq n s then some (.v undef,[(g,b)],I,[.sw (.row e l) i cs]) else none
     | some (.row e l),.el c0 :: .sw b :: I=>bif Nat.beq s e.sz then match V.putL c0 o cs with | some c1=>some (.v undef,[(g,b)],I,[.el (.row e l) i,.sw (.row e l) i c1]) | none=>none else none
     | _,_=>none
   | _=>none
   else none
 | _,_=>none
def Au9 (n:Nat) (d:Option Nat) (len s:Nat) (ty:TypeId) (r:List V) (I:List It):V × List (Nat × B) × List It × List Ob :=
 match I with
 | .bs d' b :: I'=>bif Wv d d' then (.sl n,[(n,b)],I',[.bs r ty s]) else (.sg n 0 s len,[(n,.blk r ty)],I,[])
 | I=>(.sg n 0 s len,[(n,.blk r ty)],I,[])
def Awq (P:Program) (n:Nat) (d:Option Nat) (t:TypeId) (I:List It):Option (V × List (Nat × B) × List It × List Ob) :=
 match K3 P t with
 | some ty=>match A33 P ty,I with
   | some (z,s,by'),.bs d' b :: I'=>bif Wv d d' && Nat.blt 0 s then some (.sl n,[(n,b)],I',[.bs [] ty s]) else none
   | _,_=>none
 | none=>none
def Aws (P : Program) (T : List (Nat × V)) (n : Nat) (d : Option Nat) (t : TypeId) (len : Nat) (parts : Array (Nat × Operand)) (I : List It) : Option (V × List (Nat × B) × List It × List Ob) :=
 bif Nat.beq len 0 && parts.toList.isEmpty then Awq P n d t I else
 match K3 P t with
 | some ty=>match Td P ty,A33 P ty with
   | some zl,some (z,s,by')=>bif Nat.blt 0 s && Nat.blt 0 len && Nat.ble (len * s) 16777216 && Nat.beq z.cells.size s then
    match A0v T (fun i=>some (i * s,s)) parts.toList with
    | some ps=>match Zi (List.replicate len zl).flatten (ps.map (·.2)) with
      | some r=>some (Au9 n d len s ty r I)
      | none=>none
    | none=>none
    else none
   | _,_=>none
 | none=>none
def zV:List V->V
 | [x]=>x
 | l=>.ag l
def Ats:V->Option (Nat × Nat × Nat × Nat)
 | .sg g o s n=>some (g,o,s,n)
 | .sk g o s n _=>some (g,o,s,n)
 | _=>none
def Ahs (P:Program) (H:List B) (t:TypeId) (x y:V) (I:List It):Option (V × List (Nat × B) × List It × List Ob) :=
 match Ats x with
 | some (g,o,s',n)=>(match H[g]?,K3 P t,I with
   | some (.blk l ty'),some ty,.cp l' k :: I=>match Oq P ty with
     | some s=>bif Nat.blt 0 s then match Zd H s y with
       | some src=>bif Nat.beq s s' && V.lts L0 l && (V.part l o (n * s)).isSome && Nat.blt 0 n then some (.v (.int .i64 (k:Int)),[(g,.blk l' ty')],I,[.cp l o n s src]) else none
       | none=>none
       else none
     | none=>none
   | _,_,_=>none)
 | none=>none
def muE (g:Nat) (y:V) (F:Int->V) (j:Int) (v:V) (I:List It):V × List (Nat × B) × List It × List Ob:=match I with
 | .mu F' :: I=>(.v undef,[(g,.mp y F')],I,[.mu F j v])
 | I=>(.v undef,[(g,.mp y (upM F j v))],I,[])
def evE (P:Program) (T:List (Nat × V)) (H:List B) (n:Nat) (o:Oper) (I:List It):Option (V × List (Nat × B) × List It × List Ob) :=
 match o.op with
 | .alloc t=>(Td P t).map fun l=>(.pt n 0,[(n,.blk l t)],I,[])
 | .box t x=>(V.un (evO T x)).map fun l=>(.pt n 0,[(n,.blk l t)],I,[])
 | .store t p x=>A80 P H t (evO T p) (V.un (evO T x)) I
 | .buildSlice t len parts=>Aws P T n o.dst t len parts I
 | .makeSlice t l c=>match K3 P t,evO T l,evO T c,I with
   | some ty,.v (.int k x),.v (.int k' y),.mk b :: I=>match Td P ty,A33 P ty with
     | some zl,some (z,s,by')=>bif Ap2 l c && Nat.blt 0 s && Nat.ble by' 65536 then some (.sl n,[(n,b)],I,[.mk x (V.flat ρN zl) ty s]) else none
     | _,_=>none
   | _,_,_,_=>none
 | .call { callee:=.builtin .append,args:=xs,argTypes:=ts }=>match xs.toList,ts.toList with
   | [x,y],[t,t']=>bif Nat.beq t t' && (evO T x).nz && (evO T y).nz then Ahr P H n t (evO T x) (evO T y) I else none
   | _,_=>none
 | .call { callee:=.builtin .copy,args:=xs,argTypes:=ts }=>match xs.toList,ts.toList with
   | [x,y],[t,t']=>bif (evO T x).nz && (evO T y).nz then Ahs P H t (evO T x) (evO T y) I else none
   | _,_=>none
 | .mapUpdate t m k v=>match evO T m with
   | .mp g=>match H[g]?,evO T k,A9i P t with
     | some (.mp y F),.v (.int .i64 j),some et=>bif V.lt L0 (evO T v) && (evO T v).nz then some (muE g y F j (evO T v) I) else none
     | _,_,_=>none
   | _=>none
 | .makeMap t none=>match A9i P t with
   | some et=>(Td P et).map fun l=>(.mp n,[(n,.mp (zV l) fun _=>zV l)],I,[])
   | none=>none
 | _=>none
section
variable {X:Ctx} {ρ:Env} {H:List B} {w w':World} {P:Program} {T:List (Nat × V)} {nT n:Nat} {a:Act} {ds:List Deferred}
def Eff (X:Ctx) (ρ:Env) (H:List B) (r:V) (W:List (Nat × B)) (res:Result Next):Prop :=
 ∃ ρ' w',(res=.ok (.value (V.den ρ' r)) w' ∨ (res=.ok .skip w'/\r=.v undef))/\(∀ i,liv H i=true->ρ' i=ρ i)/\Emb X ρ' (Em H W) w'/\V.lt (liv (Em H W)) r=true/\∀ i,liv H i=true->liv (Em H W) i=true
theorem Ajy (ρ:Env) (c:Loc) (l:List V) (ty:TypeId):(B.blk l ty).res ρ c=.blk c.g (V.flat ρ l).toArray ty:=rfl
theorem Aye (h:Emb X ρ H w) (hn:H[n]?=some .free) {l:List V} {t:TypeId} {cs:Array Value} (hw:V.wf l=true) (hl:V.lts (liv H) l=true) (hf:V.flat ρ l=cs.toList) :
   Emb X (ρ.set n (Loc.of (some w.heap.size) 0 0 0)) (H.set n (.blk l t)) (w.alloc (.cells cs t)):=by
 have old:=Env.set_old (ρ:=ρ) (c:=(Loc.of (some w.heap.size) 0 0 0)) hn
 have hf':V.flat (ρ.set n (Loc.of (some w.heap.size) 0 0 0)) l=cs.toList:=by rw [V.flat_ext old l hl]; exact hf
 refine h.new hn ((Below.refl _ _).alloc (Nat.le_refl _) _) rfl (by intro e; cases e) ?_ ?_ ⟨rfl,hw⟩ (V.lts_mono (Do (by intro e; cases e)) _ hl)
 ·rw [Ajy,hf']
  exact Fx w (.cells cs t)
 ·intro x hx
  rw [Ajy] at hx
  simp [Res.fp,Loc.g] at hx
  omega
theorem Eff.blk (h:Emb X ρ H w) (hn:H[n]?=some .free) {l:List V} {t:TypeId} {cs:Array Value} {r:V} {res:Result Next} (hw:V.wf l=true) (hl:V.lts (liv H) l=true) (hf:V.flat ρ l=cs.toList)
   (hr:res=.ok (.value (V.den (ρ.set n (Loc.of (some w.heap.size) 0 0 0)) r)) (w.alloc (.cells cs t))) (hrl:V.lt (fun i=>Nat.beq i n) r=true):Eff X ρ H r [(n,.blk l t)] res:=by
 refine ⟨_,_,.inl hr,Env.set_old hn,Aye h hn hw hl hf,?_,Do (by intro e; cases e)⟩
 refine V.lt_mono (fun i hi=>?_) r hrl
 have:=Nat.eq_of_beq_eq_true hi
 subst this
 exact Qo (List.getElem?_eq_some_iff.1 hn).1 (by intro e; cases e)
theorem Pm (ρ:Env) (n:Nat) (c:Loc):(ρ.set n c) n=c:=by unfold Env.set; rw [if_pos rfl]
theorem Av7 (ρ:Env) (n g:Nat):V.den (ρ.set n (Loc.of (some g) 0 0 0)) (.pt n 0)=.pointer (some ⟨g,0,none⟩):=by
 rw [V.den,Pm]; rfl
theorem W1 {α:Type} (e:Enc α) (ρ:Env):∀ l:List α,V.flat ρ (l.flatMap e.s)=e.cs l
 | []=>by rw [List.flatMap_nil,V.flat_nil]; rfl
 | a :: l=>by rw [List.flatMap_cons,V.flat_append,W1 e ρ l,e.flat]; rfl
theorem Ty (h : Emb X ρ H w) {s : Nat} {y : V} {src : List V ⊕ B} (he : Zd H s y = some src) {α : Type} {e : Enc α} {l : List α} (hl : IsL e src l) (hs : e.sz = s) (hs0 : 0 < s) : Src w s (V.den ρ y) l.length (e.cs l) := by
 unfold Zd at he
 split at he
 ·rename_i n c
  cases hb:(Nat.beq n 0 && Nat.beq c 0) with
  | false=>rw [hb] at he; cases he
  | true =>
    rw [hb] at he
    simp only [bq] at hb
    have e1:=Nat.eq_of_beq_eq_true hb.1
    have e2:=Nat.eq_of_beq_eq_true hb.2
    subst e1 e2
    simp only [cond_true,Option.some.injEq] at he
    cases hl with
    | row=>cases he
    | flat _ _ hfl hc hw =>
      simp only [Sum.inl.injEq] at he
      have hx:e.cs l=[]:=by rw [← hfl,← he,V.flat_nil]
      have hm:l.length=0:=by
       have:=e.csLen l
       rw [hx,hs,List.length_nil] at this
       rcases Nat.mul_eq_zero.1 this.symm with h1 | h1
       ·exact h1
       ·omega
      exact .inl ⟨by rw [V.den],hm,hx⟩
 ·rename_i ad n c
  cases hb:Nat.beq n 0 with
  | false=>rw [hb] at he; cases he
  | true =>
    rw [hb] at he
    have e1:=Nat.eq_of_beq_eq_true hb
    subst e1
    simp only [cond_true,Option.some.injEq] at he
    cases hl with
    | row=>cases he
    | flat _ _ hfl hc hw =>
      simp only [Sum.inl.injEq] at he
      have hx:e.cs l=[]:=by rw [← hfl,← he,V.flat_nil]
      have hm:l.length=0:=by
       have:=e.csLen l
       rw [hx,hs,List.length_nil] at this
       rcases Nat.mul_eq_zero.1 this.symm with h1 | h1
       ·exact h1
       ·omega
      exact .inr ⟨by rw [hx,hm,Nat.zero_mul]; rfl,ad,c,by rw [V.den,hm],fun j v hj=>by rw [hx] at hj; cases hj⟩
 ·rename_i g
  split at he
  ·rename_i β e' l' hb
   cases he
   cases hl with
   | row =>
     obtain ⟨b,hg,hb⟩:=mapSome hb
     obtain ⟨h1,h2,h3,h4⟩:=h.row hg hb
     rw [V.den]
     cases ha:(ρ g).a with
     | none =>
       have:=h3 ha
       subst this
       rw [Loc.slv_none ha]
       unfold Loc.emp
       cases (ρ g).ea with
       | none=>exact .inl ⟨rfl,rfl,rfl⟩
       | some A=>exact .inr ⟨by rw [e.csLen,hs],A,(ρ g).ec,rfl,fun j v hj=>by cases hj⟩
     | some a0 =>
       refine .inr ⟨by rw [e.csLen,hs],(ρ g).adr 0,(ρ g).cap,by rw [L2 ha,h1],fun j v hj=>?_⟩
       rw [Gt,Nat.zero_add]
       exact h4 j v hj
  ·cases he
 ·rename_i g o s' n
  cases hb:Nat.beq s s' with
  | false=>rw [hb] at he; cases he
  | true =>
    rw [hb] at he
    have e1:=Nat.eq_of_beq_eq_true hb
    subst e1
    simp only [cond_true] at he
    split at he
    ·rename_i lc hlc
     obtain ⟨r,hr,e2⟩:=mapSome he
     cases hl with
     | row=>cases e2
     | flat _ _ hfl hc hw' =>
       simp only [Sum.inl.injEq] at e2
       subst e2
       obtain ⟨hw,_⟩:=h.wfAt hlc
       obtain ⟨r1,r2,r3⟩:=V.part_ok (ρ:=ρ) hw hr
       rw [V.flat_ext (n:=L0) (ρ:=ρN) (ρ':=ρ) (fun i hi=>by cases hi) _ hc,hfl] at r2 r3
       have hn:l.length=n:=by
        have:=e.csLen l
        rw [r3,hs] at this
        exact (Nat.eq_of_mul_eq_mul_right hs0 this).symm
       rw [V.den,hn]
       refine .inr ⟨by rw [r3],_,n,rfl,fun j v hj=>?_⟩
       rw [Gt]
       rw [r2,List.getElem?_take] at hj
       split at hj
       ·rw [List.getElem?_drop] at hj; exact h.cellAt hlc hj
       ·cases hj
    ·cases he
 ·rename_i g o s' n cq
  cases hb:Nat.beq s s' with
  | false=>rw [hb] at he; cases he
  | true =>
    rw [hb] at he
    have e1:=Nat.eq_of_beq_eq_true hb
    subst e1
    simp only [cond_true] at he
    split at he
    ·rename_i lc hlc
     obtain ⟨r,hr,e2⟩:=mapSome he
     cases hl with
     | row=>cases e2
     | flat _ _ hfl hc hw' =>
       simp only [Sum.inl.injEq] at e2
       subst e2
       obtain ⟨hw,_⟩:=h.wfAt hlc
       obtain ⟨r1,r2,r3⟩:=V.part_ok (ρ:=ρ) hw hr
       rw [V.flat_ext (n:=L0) (ρ:=ρN) (ρ':=ρ) (fun i hi=>by cases hi) _ hc,hfl] at r2 r3
       have hn:l.length=n:=by
        have:=e.csLen l
        rw [r3,hs] at this
        exact (Nat.eq_of_mul_eq_mul_right hs0 this).symm
       rw [V.den,hn]
       refine .inr ⟨by rw [r3],_,cq,rfl,fun j v hj=>?_⟩
       rw [Gt]
       rw [r2,List.getElem?_take] at hj
       split at hj
       ·rw [List.getElem?_drop] at hj; exact h.cellAt hlc hj
       ·cases hj
    ·cases he
 ·cases he
theorem IsL.inl {α:Type} {e:Enc α} {d:List V ⊕ B} {l:List α} (h:IsL e d l) (ρ:Env):∀ cs,d=.inl cs->V.flat ρ cs=e.cs l:=by
 cases h with
 | row=>intro cs h; cases h
 | flat _ _ hfl hc hw=>intro cs h; cases h; rw [V.flat_ext (n:=L0) (ρ:=ρN) (ρ':=ρ) (fun i hi=>by cases hi) _ hc]; exact hfl
theorem IsL.inr {α:Type} {e:Enc α} {d:List V ⊕ B} {l:List α} (h:IsL e d l):∀ b,d=.inr b->b=.row e l:=by
 cases h with
 | row=>intro b h; cases h; rfl
 | flat _ _ _ _ _=>intro cs h; cases h
theorem Enc.csNil {α:Type} {e:Enc α} {l:List α} (h:e.cs l=[]) (hs:0 < e.sz):l=[]:=by
 have:=e.csLen l
 rw [h,List.length_nil] at this
 rcases Nat.mul_eq_zero.1 this.symm with h1 | h1
 ·exact List.length_eq_zero_iff.1 h1
 ·omega
theorem P7 {ty:TypeId} {zv:Value} {s by':Nat} (h:A33 P ty=some (zv,s,by')):(P.info? ty).map (fun i=>(i.zero,i.size,i.bytes))=some (some zv,s,by'):=by
 unfold A33 at h
 split at h
 ·rename_i i hi
  obtain ⟨x,hx,e⟩:=mapSome h
  cases e
  rw [hi,Option.map_some,hx]
 ·cases h
theorem Uk (h:Emb X ρ H w) (hn:H[n]?=some .free) {α:Type} {e:Enc α} {l:List α} {c:Loc} (hb:Below w.heap.size w w') (ho:w'.ownsRow 0 e.ty e.sz c.slw l.length (e.cs l)) (hfp:∀ g ∈ c.slw.ownBlock.toList,w.heap.size<=g)
   (hc:c.o=0/\c.n=l.length/\(c.a=none->c.cap=0/\c.ea=none)):Emb X (ρ.set n c) (H.set n (.row e l)) w' :=
 h.new hn hb rfl (by intro e; cases e) ho hfp hc rfl
theorem Yx {k m by':Nat} (h1:k + m<=2147483648) (h2:by'<=65536):k + m<=maxLen/\(k + m) * by'<=140737488355328:=by
 refine ⟨by unfold maxLen; omega,?_⟩
 have:=Nat.mul_le_mul h1 h2
 omega
theorem Aro (h : Emb X ρ H w) (hn : H[n]? = some .free) {t oty : TypeId} {x y r : V} {W : List (Nat × B)} {I I' : List It} {os O : List Ob} (he : Ahr P H n t x y I = some (r, W, I', os)) (hg : Good P I (os ++ O)) :
   Eff X ρ H r W (((Builtin.append_ #[t,t] oty #[V.den ρ x,V.den ρ y]) >>= fun v=>pure (Next.value v)).run P w)/\Good P I' O/\r.nz=true:=by
 unfold Ahr at he
 split at he
 ·rename_i ty b I1 ht
  have hu:=H5 ht
  split at he
  ·rename_i zv s by' hinf
   have hinf':=P7 hinf
   cases hc:(Nat.beq zv.cells.size s && Nat.blt 0 s && Nat.ble by' 65536) with
   | false=>rw [hc] at he; cases he
   | true =>
     rw [hc] at he
     simp only [bq] at hc
     have c1:=Nat.eq_of_beq_eq_true hc.1.1
     have c2:0 < s:=by have:=hc.1.2; rwa [Nat.blt_eq] at this
     have c3:=Nat.le_of_ble_eq_true hc.2
     simp only [cond_true] at he
     split at he
     ·rename_i src hsrc
      split at he
      ·-- none
       rename_i n' c
       cases hb:(Nat.beq n' 0 && Nat.beq c 0) with
       | false=>rw [hb] at he; cases he
       | true =>
         rw [hb] at he; cases he
         simp only [bq] at hb
         have e1:=Nat.eq_of_beq_eq_true hb.1
         have e2:=Nat.eq_of_beq_eq_true hb.2
         subst e1 e2
         cases hg with
         | ap hd hs hl hg =>
           rename_i α e l l'
           have hl0:l=[]:=Enc.csNil (by rw [← hd.inl ρN [] rfl,V.flat_nil]) c2
           subst hl0
           obtain ⟨b1,b2⟩:=Yx (by simpa using hl:0 + l'.length<=2147483648) c3
           obtain ⟨v',w',r1,r2,r3,r4⟩:=A19 (oty:=oty) (World.ownsRow_nil w 0 e.ty e.sz) (Ty h hsrc hs rfl c2) hu hinf' c1 c2 (e.csOne l') b1 b2
           obtain ⟨c,d1,d2,d3,d4⟩:=Ane r2
           rw [Nat.zero_add] at d3 r2
           refine ⟨⟨ρ.set n c,w',.inl ?_,Env.set_old hn,Uk h hn ⟨r4.os,r4.tape,r4.output,r4.size,fun k hk=>r4.block k hk (by simp [Value.ownBlock])⟩ (by rw [d1]; simpa using r2) (fun g hg=>?_) ⟨d2,by simpa using d3,d4⟩,?_,Do (by intro e; cases e)⟩,hg,rfl⟩
           ·rw [V.den,V.den,Pm,Loc.slv_w (fun ha=>(d4 ha).2),d1,Sem.run_bind,r1]; rfl
           ·rw [d1] at hg
            rcases r3 g hg with h3 | h3
            ·simp [Value.ownBlock] at h3
            ·exact h3
           ·simp only [V.lt]; exact Qo (List.getElem?_eq_some_iff.1 hn).1 (by intro e; cases e)
      ·-- a row
       rename_i g
       split at he
       ·rename_i b0 hb0
        cases he
        cases hg with
        | ap hd hs hl hg =>
          rename_i α e l l'
          have hb1:=hd.inr b0 rfl
          subst hb1
          have hgH:H[g]?=some (.row e l):=by
           unfold A0u at hb0
           split at hb0
           ·rename_i β e' l0 hq; cases hb0; exact hq
           ·cases hb0
          obtain ⟨b1,b2⟩:=Yx hl c3
          have hw:(ρ g).slv=(ρ g).slw:=Loc.slv_w fun ha=>((h.sd g _ hgH).2.2 ha).2
          have hown:w.ownsRow 0 e.ty e.sz (ρ g).slw l.length (e.cs l):=h.hs.ok g _ (Bd hgH)
          obtain ⟨v',w',r1,r2,r3,r4⟩:=A19 (oty:=oty) hown (Ty h hsrc hs rfl c2) hu hinf' c1 c2 (e.csOne l') b1 b2
          obtain ⟨c,d1,d2,d3,d4⟩:=Ane r2
          have hne:g ≠ n:=fun e=>by subst e; rw [hgH] at hn; cases hn
          have key:Emb X (ρ.set n c) ((H.set g .gone).set n (.row e (l ++ l'))) w':=by
           refine h.move hgH (by intro e; cases e) hn (.inr trivial) rfl (by intro e; cases e) ?_ ?_ r4.os r4.tape r4.output r4.size (fun k hk hk'=>r4.block k hk (fun e=>hk' (by simp only [B.res,Res.fp]; rw [← e]; simp))) ⟨d2,by simpa using d3,d4⟩ rfl
           ·show w'.ownsRow 0 e.ty e.sz c.slw (l ++ l').length (e.cs (l ++ l'))
            rw [d1,List.length_append]
            unfold Enc.cs at r2 ⊢
            rw [List.flatMap_append]; exact r2
           ·intro x hx
            simp only [B.res,Res.fp,d1] at hx ⊢
            exact r3 x hx
          refine ⟨⟨ρ.set n c,w',.inl ?_,Env.set_old hn,?_,?_,?_⟩,hg,rfl⟩
          ·rw [V.den,V.den,hw,Pm,Loc.slv_w (fun ha=>(d4 ha).2),d1,Sem.run_bind,r1]; rfl
          ·show Emb X _ ((H.set n (.row e (l ++ l'))).set g .gone) w'
           rw [List.set_comm _ _ hne.symm]; exact key
          ·simp only [V.lt]
           show liv ((H.set n (.row e (l ++ l'))).set g .gone) n=true
           rw [List.set_comm _ _ hne.symm]
           exact Qo (by rw [List.length_set]; exact (List.getElem?_eq_some_iff.1 hn).1) (by intro e; cases e)
          ·intro i hi
           exact Do (by intro e; cases e) i (Do (by intro e; cases e) i hi)
       ·cases he
      ·-- cells
       rename_i g o s' m
       cases hb:(Nat.beq s' s && Nat.blt 0 (Att src)) with
       | false=>rw [hb] at he; cases he
       | true =>
         rw [hb] at he
         simp only [bq] at hb
         have e1:=Nat.eq_of_beq_eq_true hb.1
         subst e1
         have hpos:=hb.2
         rw [Nat.blt_eq] at hpos
         simp only [cond_true] at he
         split at he
         ·rename_i lc hlc
          split at he
          ·rename_i rr hrr
           cases he
           cases hg with
           | ap hd hs hl hg =>
             rename_i α e l l'
             obtain ⟨hw,_⟩:=h.wfAt hlc
             obtain ⟨p1,p2,p3⟩:=V.part_ok (ρ:=ρ) hw hrr
             have hol:=hd.inl ρ rr rfl
             have hm:m=l.length:=by
              have:=e.csLen l
              rw [← hol,p3] at this
              exact Nat.eq_of_mul_eq_mul_right c2 this
             have hm' : 0 < l'.length := by
              cases src with
              | inr _=>simp [Att] at hpos
              | inl cs =>
                simp only [Att] at hpos
                rcases Nat.eq_zero_or_pos l'.length with h0 | h0
                ·have:l'=[]:=List.length_eq_zero_iff.1 h0
                 subst this
                 have:=hs.inl ρ cs rfl
                 have hcsw:V.wf cs=true:=by
                  generalize hq:(Sum.inl cs:List V ⊕ B)=q at hs
                  cases hs with
                  | row=>cases hq
                  | flat _ _ _ _ hw=>cases hq; exact hw
                 rw [← V.ws_ok (ρ:=ρ) hcsw,this] at hpos
                 simp [Enc.cs] at hpos
                ·exact h0
             obtain ⟨b1,b2⟩:=Yx hl c3
             obtain ⟨inf,i1,i2,i3,i4⟩:=info_parts hinf'
             have hsrc':=Ty h hsrc hs rfl c2
             rcases hsrc' with ⟨_,h0,_⟩ | ⟨hl1,A,cp,hA,hcell⟩
             ·omega
             ·obtain ⟨v',w',r1,r2,r3⟩:=run_append_arg_grows (P:=P) w t oty e.ty inf zv e.sz by' hu i1 i2 i3 i4 c1 c2 ((ρ g).adr o) m m (e.cs l) (by rw [← hol,p3]) (fun j v hj=>by
               rw [Gt]
               rw [← hol,p2,List.getElem?_take] at hj
               split at hj
               ·rw [List.getElem?_drop] at hj; exact h.cellAt hlc hj
               ·cases hj) A l'.length cp (e.cs l') hl1 hcell (by omega) (by rw [hm]; exact b1) (by rw [hm]; exact b2)
              have r2':w'.ownsRow 0 e.ty e.sz v' (l ++ l').length (e.cs (l ++ l')):=by
               rw [List.length_append]
               unfold Enc.cs at r2 ⊢
               rw [List.flatMap_append,← hm]
               refine ⟨r2.1,?_⟩
               rcases r2.2 with q0 | ⟨q1,q2,q3,q4,q5,q6⟩
               ·exact .inl q0
               ·exact .inr ⟨q1,q2,q3,q4,Nat.zero_le _,q6⟩
              obtain ⟨c,d1,d2,d3,d4⟩:=Ane r2'
              refine ⟨⟨ρ.set n c,w',.inl ?_,Env.set_old hn,Uk h hn ⟨r3.os,r3.tape,r3.output,r3.size,fun k hk=>r3.block k hk (by simp)⟩ (by rw [d1]; exact r2') (fun g hg=>?_) ⟨d2,d3,d4⟩,?_,Do (by intro e; cases e)⟩,hg,rfl⟩
              ·rw [V.den,V.den,Pm,Loc.slv_w (fun ha=>(d4 ha).2),d1,hA,Sem.run_bind,r1]; rfl
              ·rw [d1] at hg
               exact (World.ownsRow.lt r2 g (by simpa using hg)).1
              ·simp only [V.lt]; exact Qo (List.getElem?_eq_some_iff.1 hn).1 (by intro e; cases e)
          ·cases he
         ·cases he
      ·cases he
     ·cases he
  ·cases he
 ·cases he
end
