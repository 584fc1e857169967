import Derived.Test.YtfhiggfmkjmeiaaGreatFxD
set_option linter.all false
namespace Go.Proofs.YtfhiggfmkjmeiaaGreat
open Go Go.RowKit
def A3j (P:Program):Sem Next->Option Value
 | .pure (.value v)=>some v
 | .program k=>A3j P (k P)
 | _=>none
theorem A9q {P:Program}:∀ {s:Sem Next} {v:Value},A3j P s=some v->∀ w,s.run P w=.ok (.value v) w
 | .pure (.value v),_,h,w=>by cases h; rfl
 | .program k,v,h,w=>by
   have h':A3j P (k P)=some v:=h
   show (k P).run P w=_
   exact A9q h' w
 | .pure .skip,_,h,_ | .load _ _ _,_,h,_ | .store _ _ _ _,_,h,_ | .new _ _,_,h,_ | .shape _ _,_,h,_ | .freeze _ _ _,_,h,_ | .frozen _ _,_,h,_ | .getObj _ _,_,h,_ | .setObj _ _ _,_,h,_
 | .choose _ _,_,h,_ | .sys _ _,_,h,_ | .mark _ _,_,h,_ | .halt _,_,h,_=>by cases h
 | .pure (.enter ..),_,h,_ | .pure (.row ..),_,h,_ | .pure (.round ..),_,h,_ | .pure (.defer ..),_,h,_ | .pure (.spawn ..),_,h,_ | .pure (.comm ..),_,h,_ | .pure .recover,_,h,_ | .pure .numGoroutine,_,h,_ | .pure (.coroswitch ..),_,h,_=>by cases h
def evP (T:List (Nat × V)) (x:Operand):Value:=V.den ρN (evO T x)
def Ad1 (T:List (Nat × V)) (x:Operand):Bool:=V.lt L0 (evO T x) && (evO T x).nz
def B0i (o:Op):Bool:=match o with | .select _ _=>false | _=>true
def A67 (T:List (Nat × V)) (o:Oper):Bool:=B0i o.op && o.op.operands.all (Ad1 T)
def Oq (P:Program) (t:TypeId):Option Nat:=(P.info? t).map (·.size)
def U1 (P:Program) (t:TypeId) (f:Nat):Option Field:=match P.underlying t with | some (.struct fs)=>fs[f]? | _=>none
def All (P:Program) (t:TypeId) (f:Nat) (x:V):Option V :=
 match U1 P t f with
 | some fl=>match Oq P fl.type with
   | some n=>bif Nat.beq n 0 then none else match x with
     | .pt g o=>some (.pt g (o + fl.offset))
     | .pe g i s o=>some (.pe g i s (o + fl.offset))
     | _=>none
   | none=>none
 | none=>none
def Abn (P:Program) (t:TypeId) (l:List V) (o:Nat):Option V :=
 match Kl P t with
 | some n=>(V.part l o n).map A2e
 | none=>bif Ms P t then V.look l o else none
def Ir (b:B):Option Nat:=match b with | .row _ l=>some l.length | .ro (.row _ l)=>some l.length | _=>none
def Si (P:Program) (t:TypeId):Option (Nat × TypeId):=match P.underlying t with | some (.array n e)=>some (n,e) | _=>none
def K3 (P:Program) (t:TypeId):Option TypeId:=match P.underlying t with | some (.slice e)=>some e | _=>none
def Zo (H:List B) (g o:Nat):Bool:=match (H[g]?).bind Py with | some l=>(V.seg l o).isSome | none=>false
def Abi (P:Program) (H:List B) (t:TypeId) (c:Bool) (x y:V) (I:List It):Option (V × List It × List Ob) :=
 match x,y with
 | .pt g o, .v (.int _ j) => match Si P t with
   | some (n,e)=>match Oq P e with
     | some s=>match c,I with
       | true,I=>if 0<=j/\j < n then some (.pt g (o + j.toNat * s),I,[]) else none
       | false,.ix i :: I=>some (bif Nat.beq s 1 && Zo H g o then .ps g o i else .pt g (o + i * s),I,[.ix j n])
       | _,_=>none
     | none=>none
   | none=>none
 | .sl g,.v (.int _ j)=>match K3 P t,(H[g]?).bind Ir,I with
   | some e,some n,.ix i :: I=>match Oq P e with
     | some s=>some (.pe g i s 0,I,[.ix j n])
     | none=>none
   | _,_,_=>none
 | .ss g i s n,.v (.int _ j)=>match K3 P t,(H[g]?).bind Ir,I with
   | some e,some m,.ix k :: .ix _ :: I=>match Oq P e with
     | some s'=>bif Nat.beq s' s then some (.pe g (k + i) s 0,I,[.ix j n,.ix ((k + i:Nat):Int) m]) else none
     | none=>none
   | _,_,_=>none
 | .sg g o s n,.v (.int _ j)=>match K3 P t,I with
   | some e,.ix i :: I=>match Oq P e with
     | some s'=>some (bif Nat.beq s' 1 && Zo H g o then .ps g o i else .pt g (o + i * s'),I,[.ix j n])
     | none=>none
   | _,_=>none
 | _,_=>none
def Arv (P:Program) (t:TypeId) (x y:V) (I:List It):Option (V × List It × List Ob) :=
 match x,y,I with
 | .ar k m f,.v (.int _ j),.ix i :: I=>match Si P t with
   | some (n,e)=>match Oq P e with
     | some s=>bif Nat.beq (n * s) m then
      match Kl P e with
      | some s'=>bif Nat.beq s s' then some (.ar k s (fun q=>f (i * s + q)),I,[.ix j n]) else none
      | none=>bif Ms P e && Nat.beq s 1 then some (.v (.int k (f i)),I,[.ix j n]) else none
      else none
     | none=>none
   | none=>none
 | _,_,_=>none
def Ua:V->Bool
 | .pt _ _ | .pe _ _ _ _ | .ps _ _ _=>true
 | _=>false
def Ql:V->Bool
 | .v (.pointer none)=>true
 | _=>false
theorem A6b {ρ:Env} {x:V} (h:Ua x=true):∃ ad,V.den ρ x=.pointer (some ad):=by
 cases x <;> first | exact ⟨_,by rw [V.den]⟩ | cases h
theorem A9l {ρ:Env} {x:V} (h:Ql x=true):V.den ρ x=.pointer none:=by
 unfold Ql at h
 split at h
 ·rw [V.den]
 ·cases h
def Aga (P:Program) (t:TypeId):Bool:=match P.underlying t with | some (.pointer _)=>true | _=>false
def A7x (P:Program) (op:BinOp) (t:TypeId) (x y:V):Option V :=
 bif Aga P t && ((Ua x && Ql y) || (Ql x && Ua y)) then
  match op with | .eql=>some (.v (.bool false)) | .neq=>some (.v (.bool true)) | _=>none
 else none
def Alk (P:Program) (op:BinOp) (t:TypeId) (x y:V):Option V :=
 match V.den ρN x,V.den ρN y with
 | .agg xs,.agg ys=>bif V.lt L0 x && V.lt L0 y && !(P.eqGuardType P.depth t) then
  match eqW P 10000 t (.agg xs) (.agg ys),op with
  | some r,.eql=>some (.v (.bool r))
  | some r,.neq=>some (.v (.bool !r))
  | _,_=>none
   else none
 | _,_=>none
def Awy (P:Program) (H:List B) (t:TypeId) (x:V) (lo hi:Option V) (I:List It):Option (V × List It × List Ob) :=
 match x with
 | .pt g o=>match Si P t with
   | some (n,e)=>match Oq P e,lo,hi with
     | some s,none,none=>bif Nat.blt 0 n then some (.sg g o s n,I,[]) else none
     | _,_,_=>none
   | none=>none
 | _=>none
def evQ (P:Program) (T:List (Nat × V)) (H:List B) (o:Oper) (I:List It):Option (V × List It × List Ob) :=
 match o.op with
 | .move x | .assign x=>bif (evO T x).nz then some (evO T x,I,[]) else none
 | .load t x=>Abk P H t (evO T x) I
 | .fieldAddr t x f=>(All P t f (evO T x)).map fun y=>(y,I,[])
 | .indexAddr t x i=>Abi P H t (match i with | .const _=>true | _=>false) (evO T x) (evO T i) I
 | .extract x i=>match evO T x with
   | .tu l=>match l[i]? with | some y=>bif y.nz then some (y,I,[]) else none | none=>none
   | _=>none
 | .makeFunc fn b c=>bif (b.all fun x=>(evO T x).nz) && (c.all fun x=>(evO T x).nz) then some (.fn fn (b.toList.map (evO T)) (c.toList.map (evO T)),I,[]) else none
 | .nilCheck x=>bif Ua (evO T x) then some (evO T x,I,[]) else none
 | .field t x f=>match evO T x,U1 P t f with
   | .ag l,some fl=>bif V.wf l then (Abn P fl.type l fl.offset).map fun y=>(y,I,[]) else none
   | _,_=>none
 | .index t x i=>Arv P t (evO T x) (evO T i) I
 | .call { callee:=.builtin .len,args:=xs,argTypes:=ts }=>match xs[0]?,ts[0]? with
   | some x,some t=>bif Nat.beq xs.size 1 && Nat.beq ts.size 1 then match evO T x,K3 P t with
     | .sl g,some _=>match (H[g]?).bind Ir with | some n=>some (.v (.int .i64 (n:Int)),I,[]) | none=>none
     | .sg g o s n,some _=>some (.v (.int .i64 (n:Int)),I,[])
     | .ss g i s n,some _=>match (H[g]?).bind Ir,I with
       | some m,.sl _ _ :: I=>some (.v (.int .i64 (n:Int)),I,[.sl (i:Int) ((i + n:Nat):Int) m])
       | _,_=>none
     | _,_=>none
     else none
   | _,_=>none
 | _=>none
section
variable {X:Ctx} {ρ:Env} {H:List B} {w:World} {P:Program} {T:List (Nat × V)} {n:Nat} {a:Act} {ds:List Deferred}
theorem Gt (c:Loc) (o k:Nat):(c.adr o).add k=c.adr (o + k):=by
 unfold Loc.adr
 rw [Nv,Nat.add_assoc]
theorem Pk {t:TypeId} {n:Nat} (h:Oq P t=some n) (w:World):(sizeOf t).run P w=.ok n w:=A1a h
theorem U2 {t:TypeId} {f:Nat} {fl:Field} (h:U1 P t f=some fl):∃ fs,P.underlying t=some (.struct fs)/\fs[f]?=some fl:=by
 unfold U1 at h
 split at h
 ·exact ⟨_,by assumption,h⟩
 ·cases h
theorem M9 {t e:TypeId} {n:Nat} (h:Si P t=some (n,e)):P.underlying t=some (.array n e):=by
 unfold Si at h
 split at h
 ·rename_i hu; cases h; exact hu
 ·cases h
theorem H5 {t e:TypeId} (h:K3 P t=some e):P.underlying t=some (.slice e):=by
 unfold K3 at h
 split at h
 ·rename_i hu; cases h; exact hu
 ·cases h
theorem Ux {t:TypeId} {f:Nat} {fl:Field} {n:Nat} (h:U1 P t f=some fl) (hs:Oq P fl.type=some n) (hn:Nat.beq n 0=false) (ad:Addr) (w:World) :
   (Instr.fieldAt t (.pointer (some ad)) f).run P w=.ok (.pointer (some (ad.add fl.offset))) w:=by
 obtain ⟨fs,h1,h2⟩:=U2 h
 have hn':¬ n=0:=fun e=>by subst e; cases hn
 simp only [Instr.fieldAt,Sem.run_bind,run_underlying h1,Result.andThen_ok,h2,Instr.sureAddr,Sem.run_pure,fieldPlace,Pk hs,if_neg hn']
theorem Art {t:TypeId} {f:Nat} {x y:V} (he:All P t f x=some y) (hx:V.lt (liv H) x=true) (w:World) :
   (Instr.fieldAt t (V.den ρ x) f).run P w=.ok (V.den ρ y) w/\V.lt (liv H) y=true/\y.nz=true:=by
 unfold All at he
 split at he
 ·rename_i fl hf
  split at he
  ·rename_i n hn
   cases hz:Nat.beq n 0 with
   | true=>rw [hz] at he; cases he
   | false =>
     rw [hz] at he
     simp only [cond_false] at he
     split at he
     ·cases he
      refine ⟨?_,by simpa [V.lt] using hx,rfl⟩
      rw [V.den,V.den,Ux hf hn hz,Gt]
     ·cases he
      refine ⟨?_,by simpa [V.lt] using hx,rfl⟩
      rw [V.den,V.den,Ux hf hn hz,Gt,Nat.add_assoc]
     ·cases he
  ·cases he
 ·cases he
theorem Wn {t e:TypeId} {n s:Nat} (h:Si P t=some (n,e)) (hs:Oq P e=some s) (ad:Addr) (k:IntKind) {j:Int} (h1:0<=j/\j < n) (w:World) :
   (Instr.indexAt t (.pointer (some ad)) (.int k j)).run P w=.ok (.pointer (some (ad.add (j.toNat * s)))) w:=by
 have hu:=M9 h
 have hal:P.arrayLen t=n:=by simp [Program.arrayLen,hu]
 have hel:P.elem t=e:=by simp [Program.elem,hu]
 rw [run_indexAt_array (h:=by rw [hal,hel]; exact hu),hal,if_pos h1,hel,Pk hs]
 rfl
theorem Uy {t e:TypeId} {s len cap:Nat} (h:K3 P t=some e) (hs:Oq P e=some s) (ad:Addr) (k:IntKind) {i:Nat} (h1:i < len) (w:World) :
   (Instr.indexAt t (.slice (some ad) len cap) (.int k ((i:Nat):Int))).run P w=.ok (.pointer (some (ad.add (i * s)))) w:=by
 have hu:=H5 h
 have hel:P.elem t=e:=by simp [Program.elem,hu]
 rw [run_indexAt_slice (h:=by rw [hel]; exact hu),if_pos ⟨by omega,by omega⟩,hel,Pk hs]
 rfl
theorem Sk {b:B} {n:Nat} (h:Ir b=some n):∃ (α:Type) (e:Enc α) (l:List α),b.bare=.row e l/\n=l.length:=by
 unfold Ir at h
 split at h
 ·cases h; exact ⟨_,_,_,rfl,rfl⟩
 ·cases h; exact ⟨_,_,_,rfl,rfl⟩
 ·cases h
theorem Emb.rowLen (h:Emb X ρ H w) {g n:Nat} (hb:(H[g]?).bind Ir=some n):(ρ g).n=n/\n<=(ρ g).cap/\((ρ g).a=none->n=0):=by
 obtain ⟨b,hg,hb⟩:=bindSome hb
 obtain ⟨α,e,l,h1,rfl⟩:=Sk hb
 obtain ⟨h2,h3,h4,_⟩:=h.row hg h1
 exact ⟨h2,by omega,fun h5=>by rw [h4 h5]; rfl⟩
theorem L2 {c:Loc} {a:Nat} (h:c.a=some a):c.slv=.slice (some (c.adr 0)) c.n c.cap:=by
 unfold Loc.slv Loc.adr Loc.g
 rw [h]; rfl
theorem Aru (h : Emb X ρ H w) {t : TypeId} {c : Bool} {x y r : V} {I I' : List It} {os O : List Ob} (he : Abi P H t c x y I = some (r, I', os)) (hg : Good P I (os ++ O)) (hx : V.lt (liv H) x = true) (w' : World) :
   (Instr.indexAt t (V.den ρ x) (V.den ρ y)).run P w'=.ok (V.den ρ r) w'/\Good P I' O/\V.lt (liv H) r=true/\r.nz=true:=by
 unfold Abi at he
 split at he
 ·rename_i g o k j
  split at he
  ·rename_i n e ha
   split at he
   ·rename_i s hs
    split at he
    ·split at he
     ·rename_i hj
      cases he
      refine ⟨?_,hg,by simpa [V.lt] using hx,rfl⟩
      rw [V.den,V.den,V.den,Wn ha hs _ k hj,Gt]
     ·cases he
    ·cases he
     cases hg with
     | ix hi hg hj =>
       rename_i i
       have hij:0<=j/\j < n:=by omega
       cases hb:(Nat.beq s 1 && Zo H g o) with
       | true =>
         simp only [bq] at hb
         have e1:=Nat.eq_of_beq_eq_true hb.1
         subst e1
         refine ⟨?_,hg,by simpa [V.lt] using hx,rfl⟩
         simp only [cond_true]
         rw [V.den,V.den,V.den,Wn ha hs _ k hij,Gt,hj,Int.toNat_natCast,Nat.mul_one]
       | false =>
         refine ⟨?_,hg,by simpa [V.lt] using hx,rfl⟩
         simp only [cond_false]
         rw [V.den,V.den,V.den,Wn ha hs _ k hij,Gt,hj,Int.toNat_natCast]
    ·cases he
   ·cases he
  ·cases he
 ·rename_i g k j
  split at he
  ·rename_i e n I'' ht hb
   split at he
   ·rename_i s hs
    cases he
    cases hg with
    | ix hi hg hj =>
      rename_i i
      obtain ⟨h1,h2,h3⟩:=h.rowLen hb
      refine ⟨?_,hg,by simpa [V.lt] using hx,rfl⟩
      cases ha:(ρ g).a with
      | none=>rw [h3 ha] at hi; omega
      | some a0 =>
        rw [V.den,V.den,V.den,L2 ha,hj,Uy ht hs _ k (by rw [h1]; exact hi),Gt,Nat.zero_add,Nat.add_zero]
   ·cases he
  ·cases he
 ·rename_i g i s n kk j
  split at he
  ·rename_i e m k k2 I'' ht hb
   split at he
   ·rename_i s' hs
    cases hq:Nat.beq s' s with
    | false=>rw [hq] at he; cases he
    | true =>
      rw [hq] at he
      have e1:=Nat.eq_of_beq_eq_true hq
      subst e1
      cases he
      cases hg with
      | ix hi hg hj =>
        cases hg with
        | ix hi2 hg hj2 =>
          obtain ⟨h1,h2,h3⟩:=h.rowLen hb
          refine ⟨?_,hg,by simpa [V.lt] using hx,rfl⟩
          cases ha:(ρ g).a with
          | none=>rw [h3 ha] at hi2; omega
          | some a0 =>
            have e2:(ρ g).sub i s' n=.slice (some ((ρ g).adr (i * s'))) n ((ρ g).cap - i):=by
             unfold Loc.sub Loc.vw Loc.slv Loc.adr Loc.g
             simp only [ha]
             rw [if_neg (by omega)]; rfl
            rw [V.den,V.den,V.den,e2,hj,Uy ht hs _ kk hi,Gt,← Nat.add_mul,Nat.add_zero,Nat.add_comm i]
   ·cases he
  ·cases he
 ·rename_i g o s n k j
  split at he
  ·rename_i e I'' ht
   split at he
   ·rename_i s' hs
    cases he
    cases hg with
    | ix hi hg hj =>
      rename_i i
      cases hb:(Nat.beq s' 1 && Zo H g o) with
      | true =>
        simp only [bq] at hb
        have e1:=Nat.eq_of_beq_eq_true hb.1
        subst e1
        refine ⟨?_,hg,by simpa [V.lt] using hx,rfl⟩
        simp only [cond_true]
        rw [V.den,V.den,V.den,hj,Uy ht hs _ k hi,Gt,Nat.mul_one]
      | false =>
        refine ⟨?_,hg,by simpa [V.lt] using hx,rfl⟩
        simp only [cond_false]
        rw [V.den,V.den,V.den,hj,Uy ht hs _ k hi,Gt]
   ·cases he
  ·cases he
 ·cases he
theorem A83 (l:List Value) (o n:Nat):l.toArray.extract o (o + n)=((l.drop o).take n).toArray:=by
 apply Array.ext'
 simp
theorem A3r {t:TypeId} {cs:Array Value} {o n:Nat} (h:Kl P t=some n) (w:World):(part t cs o).run P w=.ok (.agg (cs.extract o (o + n))) w:=by
 refine Om (v:=.agg (cs.extract o (o + n))) ?_ w
 unfold Kl at h
 unfold Qv
 cases hu:P.underlying t with
 | none=>rw [hu] at h; cases h
 | some d =>
   cases hi:P.info? t with
   | none=>rw [hu,hi] at h; cases d <;> cases h
   | some i =>
     rw [hu,hi] at h
     cases d <;> (simp only at h) <;> cases h <;> rfl
theorem A3q {t:TypeId} {cs:Array Value} {o:Nat} {v:Value} (h:Ms P t=true) (hc:cs[o]?=some v) (w:World):(part t cs o).run P w=.ok v w:=by
 unfold Ms at h
 cases hu:P.underlying t with
 | none=>rw [hu] at h; cases h
 | some d =>
   rw [hu] at h
   have hr:=run_underlying hu w
   cases d <;> (simp only at h) <;> first | (cases h; done) | simp only [part,isAgg,Sem.run_bind,hr,Result.andThen_ok,Sem.run_pure,Bool.false_eq_true,if_false,hc]
theorem Ai0 {t:TypeId} {l:List V} {o:Nat} {y:V} (he:Abn P t l o=some y) (hw:V.wf l=true) {m:Nat->Bool} (hl:V.lts m l=true) (w:World) :
   (part t (V.flat ρ l).toArray o).run P w=.ok (V.den ρ y) w/\V.lt m y=true/\y.nz=true:=by
 unfold Abn at he
 split at he
 ·rename_i n hn
  obtain ⟨r,hr,rfl⟩:=mapSome he
  obtain ⟨r1,r2,r3⟩:=V.part_ok (ρ:=ρ) hw hr
  refine ⟨?_,Ya (V.part_lt hl hr),Yb r⟩
  rw [A3r hn,Uj,r2]
  congr 2
  exact A83 _ _ _
 ·cases h1:Ms P t with
  | false=>rw [h1] at he; cases he
  | true =>
    rw [h1] at he
    refine ⟨A3q h1 (by simpa using V.look_ok (ρ:=ρ) hw he) w,V.look_lt hl he,V.look_nz (ρ:=ρ) hw he⟩
theorem A78 (k:IntKind) (f:Nat->Int) {m o n:Nat} (h:o + n<=m):((arV k f m 0).drop o).take n=arV k (fun q=>f (o + q)) n 0:=by
 have:=V.part_ok (ρ:=ρN) (l:=[.ar k m f]) (o:=o) (n:=n) (r:=if n=0 then [] else if o=0 then [.ar k n f] else [.ar k n fun q=>f (o + q)]) rfl (by
  rw [V.part]
  by_cases hn:n=0
  ·rw [if_pos hn,if_pos hn]
  ·rw [if_neg hn,if_neg hn,if_neg (by omega)]
   by_cases ho:o=0
   ·subst ho
    rw [if_pos rfl,if_pos rfl]
    by_cases hmn:m<=n
    ·have:m=n:=by omega
     subst this
     rw [if_pos hmn]
     simp [V.part]
    ·rw [if_neg hmn]
   ·rw [if_neg ho,if_neg ho,if_pos h])
 have e:=this.2.1
 rw [V.flat_cons,V.cells_ar,V.flat_nil,List.append_nil] at e
 rw [← e]
 by_cases hn:n=0
 ·subst hn; rw [if_pos rfl,V.flat_nil]; rfl
 ·rw [if_neg hn]
  by_cases ho:o=0
  ·subst ho
   rw [if_pos rfl,V.flat_cons,V.cells_ar,V.flat_nil,List.append_nil]
   exact Jj _ _ fun j _ _=>by rw [Nat.zero_add]
  ·rw [if_neg ho,V.flat_cons,V.cells_ar,V.flat_nil,List.append_nil]
theorem Arw {t:TypeId} {x y r:V} {I I':List It} {os O:List Ob} (he:Arv P t x y I=some (r,I',os)) (hg:Good P I (os ++ O)) (m:Nat->Bool) (w:World) :
   (Instr.index t (V.den ρ x) (V.den ρ y)).run P w=.ok (V.den ρ r) w/\Good P I' O/\V.lt m r=true/\r.nz=true:=by
 unfold Arv at he
 split at he
 ·rename_i k q f k2 j i I''
  split at he
  ·rename_i n e ha
   split at he
   ·rename_i s hs
    cases hb:Nat.beq (n * s) q with
    | false=>rw [hb] at he; cases he
    | true =>
      rw [hb] at he
      simp only [cond_true] at he
      have hq:=Nat.eq_of_beq_eq_true hb
      have hu:=M9 ha
      have key:∀ {j:Int} {i:Nat},j=((i:Nat):Int)->i < n->(Instr.index t (V.den ρ (.ar k q f)) (V.den ρ (.v (.int k2 j)))).run P w=(part e (arV k f q 0).toArray (i * s)).run P w:=fun hj hi=>by
       rw [V.den,V.den,hj]
       simp only [Instr.index,asIntOf,Sem.run_bind,Sem.run_pure,Result.andThen_ok,run_underlying hu]
       rw [if_pos ⟨by omega,by omega⟩]
       simp only [Sem.run_bind,Pk hs,Result.andThen_ok,Int.toNat_natCast]
      split at he
      ·rename_i s' hs'
       cases hb2:Nat.beq s s' with
       | false=>rw [hb2] at he; cases he
       | true =>
         rw [hb2] at he
         cases he
         have e2:=Nat.eq_of_beq_eq_true hb2
         cases hg with
         | ix hi hg hj =>
           refine ⟨?_,hg,by simp [V.lt],rfl⟩
           have hle:i * s + s<=q:=by
            have:=Nat.mul_le_mul_right s (show i + 1<=n by omega)
            rw [Nat.succ_mul] at this; omega
           rw [key hj hi,A3r (n:=s) (by rw [e2]; exact hs'),V.den,← A78 k f hle]
           congr 2
           exact A83 _ _ _
      ·cases hb2:(Ms P e && Nat.beq s 1) with
       | false=>rw [hb2] at he; cases he
       | true =>
         rw [hb2] at he
         cases he
         simp only [bq] at hb2
         have e2:=Nat.eq_of_beq_eq_true hb2.2
         subst e2
         cases hg with
         | ix hi hg hj =>
           refine ⟨?_,hg,by simp [V.lt],rfl⟩
           rw [key hj hi,V.den]
           refine A3q hb2.1 ?_ w
           simp only [List.getElem?_toArray]
           rw [Nat.mul_one,Tg _ _ _ _ _ (by omega),Nat.zero_add]
   ·cases he
  ·cases he
 ·cases he
end
section
variable {X:Ctx} {ρ:Env} {H:List B} {w:World} {P:Program} {T:List (Nat × V)} {n:Nat} {a:Act} {ds:List Deferred}
theorem Ni {s:Sem Value} {v:Value} {w:World} (h:s.run P w=.ok v w):(s >>= fun v=>pure (Next.value v)).run P w=.ok (.value v) w:=by
 rw [Sem.run_bind,h]; rfl
theorem Awu (t:TypeId) (f:Nat):All P t f .z=none:=by
 unfold All
 split
 ·split
  ·cases Nat.beq _ 0 <;> rfl
  ·rfl
 ·rfl
theorem A3e {x:V} (h:x ≠ .z):x.nz=true:=by cases x <;> first | rfl | exact absurd rfl h
theorem Y0 (ha:ActOk ds ρ n T a) {b:Array Operand} (hb:(b.all fun x=>(evO T x).nz)=true):b.map a.eval=(V.dens ρ (b.toList.map (evO T))).toArray:=by
 rw [V.dens_map]
 apply Array.ext'
 simp only [Array.toList_map,List.map_map]
 refine List.map_congr_left fun x hx=>?_
 have:=(Array.all_eq_true_iff_forall_mem.1 hb) x (by simpa using hx)
 simpa using ha.eval this
theorem A50 {m:Nat->Bool} (ht:tlt m T) (l:List Operand):V.lts m (l.map (evO T))=true:=by
 rw [V.lts_iff]; intro x hx; obtain ⟨y,_,rfl⟩:=List.mem_map.1 hx; exact Gv ht y
theorem Aww (h : Emb X ρ H w) (ha : ActOk ds ρ n T a) (ht : tlt (liv H) T) {o : Oper} {r : V} {I I' : List It} {os O : List Ob} (he : evQ P T H o I = some (r, I', os)) (hg : Good P I (os ++ O)) :
   (execOp a.eval o).run P w=.ok (.value (V.den ρ r)) w/\Good P I' O/\V.lt (liv H) r=true/\r.nz=true:=by
 obtain ⟨dst,op,ty,pos,after,guard⟩:=o
 have key:∀ {x:Operand},evO T x ≠ .z->a.eval x=V.den ρ (evO T x):=fun hx=>ha.eval (A3e hx)
 have hl:=fun x=>Gv ht x
 unfold evQ at he
 simp only at he
 split at he
 ·rename_i x
  cases hz:(evO T x).nz with
  | false=>rw [hz] at he; cases he
  | true =>
    rw [hz] at he; cases he
    refine ⟨?_,hg,hl x,hz⟩
    show Sem.run P (pure (Next.value (a.eval x))) w=_
    rw [ha.eval hz]; rfl
 ·rename_i x
  cases hz:(evO T x).nz with
  | false=>rw [hz] at he; cases he
  | true =>
    rw [hz] at he; cases he
    refine ⟨?_,hg,hl x,hz⟩
    show Sem.run P (pure (Next.value (a.eval x))) w=_
    rw [ha.eval hz]; rfl
 ·rename_i t x
  have hx:evO T x ≠ .z:=fun e=>by rw [e] at he; cases he
  obtain ⟨h1,h2⟩:=Aeq h he hg
  refine ⟨?_,h2⟩
  rw [← h1,← key hx]; rfl
 ·rename_i t x f
  obtain ⟨y,hy,e⟩:=mapSome he
  cases e
  have hx:evO T x ≠ .z:=fun e=>by rw [e,Awu] at hy; cases hy
  obtain ⟨h1,h2⟩:=Art (ρ:=ρ) hy (hl x) w
  refine ⟨?_,hg,h2⟩
  rw [← key hx] at h1
  exact Ni h1
 ·rename_i t x i
  have hx:evO T x ≠ .z:=fun e=>by rw [e] at he; cases he
  have hi:evO T i ≠ .z:=fun e=>by rw [e] at he; unfold Abi at he; split at he <;> simp_all
  obtain ⟨h1,h2,h3⟩:=Aru h he hg (hl x) w
  refine ⟨?_,h2,h3⟩
  rw [← key hx,← key hi] at h1
  exact Ni h1
 ·rename_i x i
  split at he
  ·rename_i l hx
   split at he
   ·rename_i y hy
    cases hz:y.nz with
    | false=>rw [hz] at he; cases he
    | true =>
      rw [hz] at he; cases he
      have hlt:=hl x
      rw [hx,V.lt,V.lts_iff] at hlt
      refine ⟨?_,hg,hlt _ (List.mem_of_getElem? hy),hz⟩
      have h1:a.eval x=.tuple (V.dens ρ l).toArray:=by rw [key (by rw [hx]; intro e; cases e),hx,V.den]
      refine Ni (s:=Instr.extract (a.eval x) i) ?_
      rw [h1]
      have:(V.dens ρ l).toArray[i]?=some (V.den ρ r):=by rw [V.dens_map]; simp [hy]
      simp only [Instr.extract,this]; rfl
   ·cases he
  ·cases he
 ·rename_i fn b c
  cases hz:((b.all fun x=>(evO T x).nz) && (c.all fun x=>(evO T x).nz)) with
  | false=>rw [hz] at he; cases he
  | true =>
    rw [hz] at he; cases he
    simp only [bq] at hz
    refine ⟨?_,hg,?_,rfl⟩
    ·refine Ni (s:=Instr.makeFunc fn (b.map a.eval) (c.map a.eval)) ?_
     rw [Y0 ha hz.1,Y0 ha hz.2,V.den]; rfl
    ·simp only [V.lt,bq]; exact ⟨A50 ht _,A50 ht _⟩
 ·rename_i x
  cases hz:Ua (evO T x) with
  | false=>rw [hz] at he; cases he
  | true =>
    rw [hz] at he; cases he
    have hx:evO T x ≠ .z:=fun e=>by rw [e] at hz; cases hz
    obtain ⟨ad,hd⟩:=A6b (ρ:=ρ) hz
    refine ⟨?_,hg,hl x,A3e hx⟩
    have h1:a.eval x=.pointer (some ad):=by rw [key hx,hd]
    rw [hd]
    unfold execOp
    simp only [h1]
    rfl
 ·rename_i t x f
  split at he
  ·rename_i l fl hx hf
   cases hw:V.wf l with
   | false=>rw [hw] at he; cases he
   | true =>
     rw [hw] at he
     obtain ⟨y,hy,e⟩:=mapSome he
     cases e
     have hlt:=hl x
     rw [hx,V.lt] at hlt
     obtain ⟨h1,h2⟩:=Ai0 (ρ:=ρ) hy hw hlt w
     refine ⟨?_,hg,h2⟩
     obtain ⟨fs,hu,hfs⟩:=U2 hf
     refine Ni (s:=Instr.field t (a.eval x) f) ?_
     rw [key (by rw [hx]; intro e; cases e),hx,V.den]
     simp only [Instr.field,Sem.run_bind,run_underlying hu,Result.andThen_ok,hfs,asAgg,Sem.run_pure]
     exact h1
  ·cases he
 ·rename_i t x i
  have hx:evO T x ≠ .z:=fun e=>by rw [e] at he; cases he
  have hi:evO T i ≠ .z:=fun e=>by rw [e] at he; unfold Arv at he; split at he <;> simp_all
  obtain ⟨h1,h2,h3⟩:=Arw (ρ:=ρ) he hg (liv H) w
  refine ⟨?_,h2,h3⟩
  rw [← key hx,← key hi] at h1
  exact Ni h1
 ·rename_i xs ts
  split at he
  ·rename_i x t hxs hts
   cases hz:(Nat.beq xs.size 1 && Nat.beq ts.size 1) with
   | false=>rw [hz] at he; cases he
   | true =>
     rw [hz] at he
     simp only [bq] at hz
     have e1:=Nat.eq_of_beq_eq_true hz.1
     have e2:=Nat.eq_of_beq_eq_true hz.2
     have hxs':xs=#[x]:=by
      apply Array.ext'
      have:xs.toList.length=1:=by simpa using e1
      match hq:xs.toList,this with
      | [y], _ => have : xs.toList[0]? = some x := by simpa using hxs
                  rw [hq] at this; simp at this; rw [this]
     have hts':ts=#[t]:=by
      apply Array.ext'
      have:ts.toList.length=1:=by simpa using e2
      match hq:ts.toList,this with
      | [y], _ => have : ts.toList[0]? = some t := by simpa using hts
                  rw [hq] at this; simp at this; rw [this]
     have go:∀ {y:V} {base:Option Addr} {m c:Nat} {e:TypeId},evO T x=y->y ≠ .z->K3 P t=some e->V.den ρ y=.slice base m c ->
        (execOp a.eval { dst:=dst,op:=.call { callee:=.builtin .len,args:=xs,argTypes:=ts },type:=ty,pos:=pos,after:=after,guard:=guard }).run P w=.ok (.value (.int .i64 (m:Int))) w:=fun {y base m c e} hy hyz hs hd=>by
      have hu:=H5 hs
      have hel:P.elem t=e:=by simp [Program.elem,hu]
      have h1:a.eval x=.slice base m c:=by rw [key (by rw [hy]; exact hyz),hy,hd]
      have h2:=run_len_slice (P:=P) (w:=w) t ty base m c (by rw [hel]; exact hu)
      show Sem.run P (resolve a.eval { callee:=.builtin .len,args:=xs,argTypes:=ts } ty >>= fun d=>invoke d.target d.args) w=_
      subst hxs' hts'
      simp only [resolve,Sem.run_bind,Sem.run_pure,Result.andThen_ok,invoke,builtin]
      rw [show (#[x].map a.eval)=#[.slice base m c] by simp [h1],h2]
      rfl
     simp only [cond_true] at he
     split at he
     ·rename_i g e hx hs
      split at he
      ·rename_i q hb
       cases he
       obtain ⟨h1,h2,h3⟩:=h.rowLen hb
       refine ⟨?_,hg,by simp [V.lt],rfl⟩
       rw [V.den]
       cases hq:(ρ g).a with
       | none =>
         have:=h3 hq
         subst this
         cases he:(ρ g).ea with
         | none=>exact go hx (by intro e; cases e) hs (base:=none) (m:=0) (c:=0) (by rw [V.den,Loc.slv_none hq]; unfold Loc.emp; rw [he])
         | some A=>exact go hx (by intro e; cases e) hs (base:=some A) (m:=0) (c:=(ρ g).ec) (by rw [V.den,Loc.slv_none hq]; unfold Loc.emp; rw [he])
       | some a0 =>
         rw [← h1]
         exact go hx (by intro e; cases e) hs (by rw [V.den,L2 hq])
      ·cases he
     ·rename_i g o s q e hx hs
      cases he
      refine ⟨?_,hg,by simp [V.lt],rfl⟩
      rw [V.den]
      exact go hx (by intro e; cases e) hs (by rw [V.den])
     ·rename_i g i s q e hx hs
      split at he
      ·rename_i m _ _ _ hb
       cases he
       cases hg with
       | sl hle hg e1 e2 =>
         obtain ⟨r1,r2,r3⟩:=h.rowLen hb
         refine ⟨?_,hg,by simp [V.lt],rfl⟩
         rw [V.den]
         cases hq:(ρ g).a with
         | none =>
           have:=r3 hq
           have e0:q=0:=by omega
           subst e0
           cases he:(ρ g).ea with
           | none=>exact go hx (by intro e; cases e) hs (base:=none) (m:=0) (c:=0) (by rw [V.den,Loc.sub_none hq]; unfold Loc.emp; rw [he])
           | some A=>exact go hx (by intro e; cases e) hs (base:=some A) (m:=0) (c:=(ρ g).ec) (by rw [V.den,Loc.sub_none hq]; unfold Loc.emp; rw [he])
         | some a0 =>
           exact go hx (by intro e; cases e) hs (base:=some ⟨a0,if (ρ g).cap=i then (ρ g).o else (ρ g).o + i * s,none⟩) (m:=q) (c:=(ρ g).cap - i) (by rw [V.den]; unfold Loc.sub Loc.vw Loc.slv; simp only [hq])
      ·cases he
     ·cases he
  ·cases he
 ·cases he
end
