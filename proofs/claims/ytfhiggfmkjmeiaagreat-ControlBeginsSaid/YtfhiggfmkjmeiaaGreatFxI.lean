import Derived.Test.YtfhiggfmkjmeiaaGreatFxF
import Derived.Great.BuildSlice
set_option linter.all false
namespace Go.Proofs.YtfhiggfmkjmeiaaGreat
open Go Go.RowKit
theorem A2h (A:Option Addr) (c s:Nat):sliced A 0 (0 + 0) c s=.slice A 0 c:=by
 unfold sliced
 simp only [Nat.zero_mul,Nat.zero_add,Nat.sub_zero]
 split
 ·rfl
 ·cases A with
  | none=>rfl
  | some A=>simp [Addr.add]
def A2y (P:Program) (H:List B) (t:TypeId) (x:V) (lo hi:Option V) (I:List It):Option (V × List It × List Ob) :=
 match x,I with
 | .sl g, .sl i n :: I => match K3 P t, (H[g]?).bind Ir with
   | some e,some m=>match Oq P e with
     | some s=>match lo,hi with
       | none,none=>some (.ss g i s n,I,[.sl 0 (m:Int) m])
       | some (.v (.int _ l)),none=>some (.ss g i s n,I,[.sl l (m:Int) m])
       | none,some (.v (.int _ h))=>some (.ss g i s n,I,[.sl 0 h m])
       | some (.v (.int _ l)),some (.v (.int _ h))=>some (.ss g i s n,I,[.sl l h m])
       | _,_=>none
     | none=>none
   | _,_=>none
 | _,_=>none
def veq:Value->Value->Bool
 | .int k a,.int k' b=>decide (k=k') && (a == b)
 | .bool a,.bool b=>a == b
 | .pointer none,.pointer none=>true
 | .slice none n c,.slice none n' c'=>Nat.beq n n' && Nat.beq c c'
 | .nilFunc,.nilFunc=>true
 | .map none,.map none=>true
 | .string a,.string b=>decide (a=b)
 | _,_=>false
theorem Aqa {x y:Value} (h:veq x y=true):x=y:=by
 unfold veq at h
 split at h
 ·simp only [bq,decide_eq_true_eq,beq_iff_eq] at h; rw [h.1,h.2]
 ·simp at h; rw [h]
 ·rfl
 ·simp only [bq] at h; rw [Nat.eq_of_beq_eq_true h.1,Nat.eq_of_beq_eq_true h.2]
 ·rfl
 ·rfl
 ·simp at h; rw [h]
 ·cases h
def Ajj:List Value->List Value->Bool
 | [],[]=>true
 | x :: l,y :: r=>veq x y && Ajj l r
 | _,_=>false
theorem A72:∀ {l r:List Value},Ajj l r=true->l=r
 | [],[],_=>rfl
 | x :: l,y :: r,h=>by simp only [Ajj,bq] at h; rw [Aqa h.1,A72 h.2]
 | [],_ :: _,h=>by cases h
 | _ :: _,[],h=>by cases h
theorem Wo {P:Program} {t:TypeId} {i:TypeInfo} {x:Value} (hi:P.info? t=some i) (hz:i.zero=some x) (w:World):(zeroValue t).run P w=.ok x w:=by
 simp [zeroValue,typeInfo,hi,hz]
def Awx (P:Program) (t:TypeId) (x:V) (lo hi:Option V) (I:List It):Option (V × List It × List Ob) :=
 match x,I with
 | .pt g o, .sl i n :: I => match Si P t with
   | some (m,e)=>match Oq P e with
     | some s=>bif Nat.blt 0 m then match lo,hi with
       | some (.v (.int _ l)),none=>some (.sk g (if m=i then o else o + i * s) s n (m - i),I,[.sl l (m:Int) m])
       | none,some (.v (.int _ h))=>some (.sk g (if m=i then o else o + i * s) s n (m - i),I,[.sl 0 h m])
       | some (.v (.int _ l)),some (.v (.int _ h))=>some (.sk g (if m=i then o else o + i * s) s n (m - i),I,[.sl l h m])
       | _,_=>none
       else none
     | none=>none
   | none=>none
 | _,_=>none
def Alp (P:Program) (H:List B) (t:TypeId) (x:V) (I:List It):Option (V × List It × List Ob) :=
 match Si P t with
 | some (n,e)=>match Oq P e with
   | some s=>match x with
     | .sl g=>(match (H[g]?).bind Ir,I with
       | some k,.sl i m :: I=>bif Nat.beq i 0 && Nat.beq m n && Nat.blt 0 n then some (.pe g 0 s 0,I,[.sl 0 ((n:Nat):Int) k]) else none
       | _,_=>none)
     | .sg g o s' k=>bif Nat.ble n k then some (.pt g o,I,[]) else none
     | .sk g o s' k c=>bif Nat.ble n k then some (.pt g o,I,[]) else none
     | _=>none
   | none=>none
 | none=>none
def A9i (P:Program) (t:TypeId):Option TypeId:=match P.underlying t with
 | some (.map kt et)=>(match P.underlying kt with | some (.int .i64)=>some et | _=>none)
 | _=>none
def Au5:Value->Value->Bool
 | .agg xs,.agg ys=>Ajj xs.toList ys.toList
 | .agg _,_=>false
 | _,.agg _=>false
 | x,y=>veq x y
def Abm (P:Program) (H:List B) (t:TypeId) (x k:V):Option V :=
 match x with
 | .mp g=>(match (H[g]?).map B.bare,k,A9i P t with
   | some (.mp y F),.v (.int .i64 j),some et=>match (P.info? et).bind (·.zero) with
     | some z=>bif Au5 z (V.den ρN y) && V.lt L0 (F j) && (F j).nz then some (F j) else none
     | none=>none
   | _,_,_=>none)
 | _=>none
def Wv (d:Option Nat) (k:Nat):Bool:=match d with | some d=>Nat.beq d k | none=>false
def Ali (dst:Option Nat) (v:Value) (I:List It):V × List It × List Ob :=
 match I with
 | .e d y :: I'=>bif Wv dst d then (.v y,I',[.e v]) else (.v v,I,[])
 | I=>(.v v,I,[])
def Ary (P:Program) (T:List (Nat × V)) (o:Oper) (I:List It):Option (V × List It × List Ob) :=
 bif A67 T o then
  match I with
  | .p d x :: I'=>bif Wv o.dst d then some (x,I',[.p (execOp (evP T) o)]) else (A3j P (execOp (evP T) o)).map fun v=>(.v v,I,[])
  | I=>(A3j P (execOp (evP T) o)).map fun v=>Ali o.dst v I
 else none
def nzo (T:List (Nat × V)) (x:Option Operand):Bool:=match x with | some l=>(evO T l).nz | none=>true
def plK:Op->Bool
 | .unOp .. | .convert .. | .field .. | .index .. | .extract .. | .nilCheck .. | .move _ | .assign _=>true
 | .call { callee:=.builtin b,.. }=>match b with | .min | .max | .len=>true | _=>false
 | _=>false
def Xm (H:List B) (x:V):Bool:=match x with
 | .sl g=>(match (H[g]?).bind Ir with | some (_ + 1)=>true | _=>false)
 | .sg _ _ _ _=>true
 | .sk _ _ _ _ _=>true
 | .v (.slice (some _) _ _)=>true
 | _=>false
def Zt (x:V):Bool:=match x with | .v (.slice none _ _)=>true | _=>false
def Qc (P:Program) (H:List B) (op:BinOp) (t:TypeId) (x y:V):Option V :=
 bif (K3 P t).isSome && Xm H x && Zt y then
  match op with | .eql=>some (.v (.bool false)) | .neq=>some (.v (.bool true)) | _=>none
 else none
def evX (P : Program) (T : List (Nat × V)) (H : List B) (o : Oper) (I : List It) : Option (V × List It × List Ob) :=
 match o.op with
 | .pick c x y=>match evO T c,I with
   | .v (.bool q),.t b :: I=>bif (evO T x).nz && (evO T y).nz then some (bif b then evO T x else evO T y,I,[.t q]) else none
   | _,_=>none
 | .binOp op t x y _=>match A7x P op t (evO T x) (evO T y) with
   | some r=>some (r,I,[])
   | none=>match Alk P op t (evO T x) (evO T y) with
     | some r=>some (r,I,[])
     | none=>match Qc P H op t (evO T x) (evO T y) with
       | some r=>some (r,I,[])
       | none=>Ary P T o I
 | .slice t x lo hi mx=>match mx with
   | none=>bif nzo T lo && nzo T hi then
    match Awy P H t (evO T x) (lo.map (evO T)) (hi.map (evO T)) I with
    | some r=>some r
    | none=>match A2y P H t (evO T x) (lo.map (evO T)) (hi.map (evO T)) I with
      | some r=>some r
      | none=>Awx P t (evO T x) (lo.map (evO T)) (hi.map (evO T)) I
     else none
   | some _=>none
 | .sliceToArrayPointer t x=>Alp P H t (evO T x) I
 | .lookup t x k c=>bif c then none else (Abm P H t (evO T x) (evO T k)).map fun r=>(r,I,[])
 | op=>bif plK op then Ary P T o I else none
section
variable {X:Ctx} {ρ:Env} {H:List B} {w:World} {P:Program} {T:List (Nat × V)} {n:Nat} {a:Act} {ds:List Deferred}
theorem Aiv (ha:ActOk ds ρ n T a) {x:Operand} (h:Ad1 T x=true):a.eval x=evP T x:=by
 simp only [Ad1,bq] at h
 rw [ha.eval h.2]
 exact V.den_ext (n:=L0) (fun i hi=>by cases hi) _ h.1
theorem Aet (ha : ActOk ds ρ n T a) {o : Oper} {r : V} {I I' : List It} {os O : List Ob} (he : Ary P T o I = some (r, I', os)) (hg : Good P I (os ++ O)) (m : Nat -> Bool) (w : World) :
   (execOp a.eval o).run P w=.ok (.value (V.den ρ r)) w/\Good P I' O/\V.lt m r=true/\r.nz=true:=by
 unfold Ary at he
 cases hp:A67 T o with
 | false=>rw [hp] at he; cases he
 | true =>
   rw [hp] at he
   simp only [A67,bq] at hp
   have he':execOp a.eval o=execOp (evP T) o:=execOp_congr o (fun cs b e=>by rw [e] at hp; cases hp.1) fun x hx =>
    Aiv ha ((Array.all_eq_true_iff_forall_mem.1 hp.2) x hx)
   rw [he']
   simp only [cond_true] at he
   have val:∀ {v:Value},A3j P (execOp (evP T) o)=some v->(execOp (evP T) o).run P w=.ok (.value (V.den ρ (.v v))) w:=fun h=>by rw [V.den]; exact A9q h w
   split at he
   ·rename_i d x I1
    cases hd:Wv o.dst d with
    | true =>
      rw [hd] at he; cases he
      cases hg with
      | p _ h hg hx hz =>
        refine ⟨?_,hg,V.lt_mono Sh _ hx,hz⟩
        rw [h w,V.den_ext (n:=L0) (ρ:=ρN) (ρ':=ρ) (fun i hi=>by cases hi) r hx]
    | false =>
      rw [hd] at he
      obtain ⟨v,hv,e⟩:=mapSome he
      cases e
      exact ⟨val hv,hg,by simp [V.lt],rfl⟩
   ·obtain ⟨v,hv,e⟩:=mapSome he
    unfold Ali at e
    split at e
    ·rename_i d _ _ _
     cases hd:Wv o.dst d with
     | true =>
       rw [hd] at e; cases e
       cases hg with
       | e _ h hg=>subst h; exact ⟨val hv,hg,by simp [V.lt],rfl⟩
     | false=>rw [hd] at e; cases e; exact ⟨val hv,hg,by simp [V.lt],rfl⟩
    ·cases e; exact ⟨val hv,hg,by simp [V.lt],rfl⟩
theorem Ad6 {t:TypeId} (h:Aga P t=true):∃ e,P.underlying t=some (.pointer e):=by
 unfold Aga at h
 split at h
 ·exact ⟨_,by assumption⟩
 ·cases h
theorem Aln {op:BinOp} {t:TypeId} {x y r:V} (he:A7x P op t x y=some r) (x' y':Operand) (m:Nat->Bool) (w:World) :
   ((eqGuard op t x' y' (V.den ρ x) (V.den ρ y)) >>= fun _=>binOp op t (V.den ρ x) (V.den ρ y)).run P w=.ok (V.den ρ r) w/\V.lt m r=true/\r.nz=true:=by
 unfold A7x at he
 cases hc:(Aga P t && ((Ua x && Ql y) || (Ql x && Ua y))) with
 | false=>rw [hc] at he; cases he
 | true =>
   rw [hc] at he
   simp only [bq,Bool.or_eq_true] at hc
   obtain ⟨e,hu⟩:=Ad6 hc.1
   have heq:∀ u v:Value,(∃ ad,(u=.pointer (some ad)/\v=.pointer none) ∨ (u=.pointer none/\v=.pointer (some ad)))->(Op.equal t u v).run P w=.ok false w:=fun u v ⟨ad,h⟩=>by
    rcases h with ⟨rfl,rfl⟩ | ⟨rfl,rfl⟩
    ·show (Op.equalIn (9999 + 1) t (.pointer (some ad)) (.pointer none)).run P w=_
     rw [Op.equalIn]; simp only [Sem.run_bind,run_underlying hu,Result.andThen_ok,Sem.run_pure]
    ·show (Op.equalIn (9999 + 1) t (.pointer none) (.pointer (some ad))).run P w=_
     rw [Op.equalIn]; simp only [Sem.run_bind,run_underlying hu,Result.andThen_ok,Sem.run_pure]; rfl
   have hxy:∃ ad,(V.den ρ x=.pointer (some ad)/\V.den ρ y=.pointer none) ∨ (V.den ρ x=.pointer none/\V.den ρ y=.pointer (some ad)):=by
    rcases hc.2 with ⟨h1,h2⟩ | ⟨h1,h2⟩
    ·obtain ⟨ad,h3⟩:=A6b (ρ:=ρ) h1; exact ⟨ad,.inl ⟨h3,A9l h2⟩⟩
    ·obtain ⟨ad,h3⟩:=A6b (ρ:=ρ) h2; exact ⟨ad,.inr ⟨A9l h1,h3⟩⟩
   have h1:=heq _ _ hxy
   have hg:(eqGuard op t x' y' (V.den ρ x) (V.den ρ y)).run P w=.ok () w:=by
    obtain ⟨ad,⟨h2,h3⟩ | ⟨h2,h3⟩⟩:=hxy <;> rw [h2,h3] <;> cases op <;> rfl
   rw [Sem.run_bind,hg,Result.andThen_ok]
   simp only [cond_true] at he
   split at he
   ·cases he
    refine ⟨?_,by simp [V.lt],rfl⟩
    obtain ⟨ad,⟨h2,h3⟩ | ⟨h2,h3⟩⟩:=hxy <;> rw [h2,h3] at h1 ⊢ <;> simp only [binOp,Sem.run_bind,h1,Result.andThen_ok,Sem.run_pure,V.den]
   ·cases he
    refine ⟨?_,by simp [V.lt],rfl⟩
    obtain ⟨ad,⟨h2,h3⟩ | ⟨h2,h3⟩⟩:=hxy <;> rw [h2,h3] at h1 ⊢ <;> simp only [binOp,Sem.run_bind,h1,Result.andThen_ok,Sem.run_pure,V.den] <;> rfl
   ·cases he
theorem Aj6 (h:Emb X ρ H w) {x:V} (hx:Xm H x=true):∃ ad n c,V.den ρ x=.slice (some ad) n c:=by
 unfold Xm at hx
 split at hx
 ·rename_i g
  split at hx
  ·rename_i n hb
   obtain ⟨h1,h2,h3⟩:=h.rowLen hb
   rw [V.den]
   cases ha:(ρ g).a with
   | none=>have:=h3 ha; omega
   | some a=>exact ⟨_,_,_,L2 ha⟩
  ·cases hx
 ·exact ⟨_,_,_,by rw [V.den]⟩
 ·exact ⟨_,_,_,by rw [V.den]⟩
 ·exact ⟨_,_,_,by rw [V.den]⟩
 ·cases hx
theorem Ac6 {x:V} (hx:Zt x=true):∃ n c,V.den ρ x=.slice none n c:=by
 unfold Zt at hx
 split at hx
 ·exact ⟨_,_,by rw [V.den]⟩
 ·cases hx
theorem Ahy (h:Emb X ρ H w) {op:BinOp} {t:TypeId} {x y r:V} (he:Qc P H op t x y=some r) (x' y':Operand) (m:Nat->Bool) (w:World) :
   ((eqGuard op t x' y' (V.den ρ x) (V.den ρ y)) >>= fun _=>binOp op t (V.den ρ x) (V.den ρ y)).run P w=.ok (V.den ρ r) w/\V.lt m r=true/\r.nz=true:=by
 unfold Qc at he
 cases hc:((K3 P t).isSome && Xm H x && Zt y) with
 | false=>rw [hc] at he; cases he
 | true =>
   rw [hc] at he
   simp only [bq] at hc
   obtain ⟨e,hs⟩:=Option.isSome_iff_exists.1 hc.1.1
   have hu:=H5 hs
   obtain ⟨ad,n,c,h2⟩:=Aj6 h hc.1.2
   obtain ⟨n',c',h3⟩:=Ac6 (ρ:=ρ) hc.2
   have h1:(Op.equal t (.slice (some ad) n c) (.slice none n' c')).run P w=.ok false w:=by
    show (Op.equalIn (9999 + 1) t _ _).run P w=_
    rw [Op.equalIn]; simp only [Sem.run_bind,run_underlying hu,Result.andThen_ok,Sem.run_pure]
   rw [h2,h3]
   have hg:(eqGuard op t x' y' (.slice (some ad) n c) (.slice none n' c')).run P w=.ok () w:=by
    cases op <;> rfl
   rw [Sem.run_bind,hg,Result.andThen_ok]
   simp only [cond_true] at he
   split at he
   ·cases he
    refine ⟨?_,by simp [V.lt],rfl⟩
    simp only [binOp,Sem.run_bind,h1,Result.andThen_ok,Sem.run_pure,V.den]
   ·cases he
    refine ⟨?_,by simp [V.lt],rfl⟩
    simp only [binOp,Sem.run_bind,h1,Result.andThen_ok,Sem.run_pure,V.den]; rfl
   ·cases he
theorem Ars {op:BinOp} {t:TypeId} {x y r:V} (he:Alk P op t x y=some r) (x' y':Operand) (m:Nat->Bool) (w:World) :
   ((eqGuard op t x' y' (V.den ρ x) (V.den ρ y)) >>= fun _=>binOp op t (V.den ρ x) (V.den ρ y)).run P w=.ok (V.den ρ r) w/\V.lt m r=true/\r.nz=true:=by
 unfold Alk at he
 split at he
 ·rename_i xs ys hx hy
  cases hc:(V.lt L0 x && V.lt L0 y && !(P.eqGuardType P.depth t)) with
  | false=>rw [hc] at he; cases he
  | true =>
    rw [hc] at he
    simp only [bq,Bool.not_eq_true'] at hc
    obtain ⟨⟨c1,c2⟩,c3⟩:=hc
    rw [V.den_ext (n:=L0) (ρ:=ρN) (fun i hi=>by cases hi) x c1,V.den_ext (n:=L0) (ρ:=ρN) (fun i hi=>by cases hi) y c2,hx,hy]
    simp only [cond_true] at he
    split at he
    ·rename_i b hb
     cases he
     refine ⟨?_,by simp [V.lt],rfl⟩
     simp only [Sem.run_bind,run_eqGuard_agg w .eql t x' y' xs ys c3,Result.andThen_ok,run_eql_struct,Yj _ _ _ _ _ hb,Sem.run_pure,V.den]
    ·rename_i b hb
     cases he
     refine ⟨?_,by simp [V.lt],rfl⟩
     simp only [Sem.run_bind,run_eqGuard_agg w .neq t x' y' xs ys c3,Result.andThen_ok,run_neq_struct,Yj _ _ _ _ _ hb,Sem.run_pure,V.den]
    ·cases he
 ·cases he
theorem As0 {t:TypeId} {x r:V} {lo hi:Option V} {I I':List It} {os O:List Ob} (he:Awy P H t x lo hi I=some (r,I',os)) (hg:Good P I (os ++ O)) (hx:V.lt (liv H) x=true) (w:World) :
   (Instr.sliceAt t (V.den ρ x) (lo.map (V.den ρ)) (hi.map (V.den ρ)) none).run P w=.ok (V.den ρ r) w/\Good P I' O/\V.lt (liv H) r=true/\r.nz=true:=by
 unfold Awy at he
 split at he
 ·rename_i g o
  split at he
  ·rename_i n e ha
   split at he
   ·rename_i s hs
    cases hb:Nat.blt 0 n with
    | false=>rw [hb] at he; cases he
    | true =>
      rw [hb] at he; cases he
      rw [Nat.blt_eq] at hb
      refine ⟨?_,hg,by simpa [V.lt] using hx,rfl⟩
      have hu:=M9 ha
      have hal:P.arrayLen t=n:=by simp [Program.arrayLen,hu]
      have hel:P.elem t=e:=by simp [Program.elem,hu]
      rw [V.den,V.den]
      simp only [Option.map_none]
      rw [run_sliceAt_array_all (ht:=by rw [hal,hel]; exact hu),hel,Pk hs,hal]
      simp only [Result.andThen_ok,slicedAt,if_neg (show ¬ n=0 by omega),Nat.sub_zero,Nat.zero_mul,Gt,Nat.add_zero]
   ·cases he
  ·cases he
 ·cases he
theorem A6m {t e:TypeId} {s len cap i n:Nat} {ad:Option Addr} (h:K3 P t=some e) (hs:Oq P e=some s) (h1:i + n<=len) (h2:len<=cap) (w:World) {lo hi:Option Value}
   (hlo:lo=none/\i=0 ∨ ∃ k,lo=some (.int k ((i:Nat):Int))) (hhi:hi=none/\i + n=len ∨ ∃ k,hi=some (.int k ((i + n:Nat):Int))) :
   (Instr.sliceAt t (.slice ad len cap) lo hi none).run P w=.ok (sliced ad i (i + n) cap s) w:=by
 have hu:=H5 h
 have hel:P.elem t=e:=by simp [Program.elem,hu]
 have hu':P.underlying t=some (.slice (P.elem t)):=by rw [hel]; exact hu
 have hb:(Instr.sliceBounds true len cap lo hi none).run P w=.ok (i,i + n,cap) w:=by
  rcases hlo with ⟨rfl,rfl⟩ | ⟨k,rfl⟩ <;> rcases hhi with ⟨rfl,e2⟩ | ⟨k',rfl⟩
  ·simp [Instr.sliceBounds,e2]
  ·simp only [Instr.sliceBounds,Sem.run_bind,Sem.run_pure,Result.andThen_ok]
   rw [run_sliceBound (h0:=by omega) (h1:=by omega)]
   simp [Result.andThen]
  ·simp only [Instr.sliceBounds,Sem.run_bind,Sem.run_pure,Result.andThen_ok]
   rw [run_sliceBound (h0:=by omega) (h1:=by omega)]
   simp [Result.andThen,e2]
  ·simp only [Instr.sliceBounds,Sem.run_bind,Sem.run_pure,Result.andThen_ok]
   rw [run_sliceBound (h0:=by omega) (h1:=by omega)]
   simp only [Result.andThen_ok]
   rw [run_sliceBound (h0:=by omega) (h1:=by omega)]
   simp [Result.andThen,show ((i:Int) + (n:Int)).toNat=i + n by omega]
 rw [run_sliceAt_slice (h:=hu'),run_slice_any (ht:=hu'),hb]
 simp only [Result.andThen_ok,hel,Pk hs]
theorem Alo (h : Emb X ρ H w) {t : TypeId} {x r : V} {lo hi : Option V} {I I' : List It} {os O : List Ob} (he : A2y P H t x lo hi I = some (r, I', os)) (hg : Good P I (os ++ O)) (hx : V.lt (liv H) x = true) (w' : World) :
   (Instr.sliceAt t (V.den ρ x) (lo.map (V.den ρ)) (hi.map (V.den ρ)) none).run P w'=.ok (V.den ρ r) w'/\Good P I' O/\V.lt (liv H) r=true/\r.nz=true:=by
 unfold A2y at he
 split at he
 ·rename_i g i n I1
  split at he
  ·rename_i e m hs hb
   split at he
   ·rename_i s hsz
    obtain ⟨h1,h2,h3⟩:=h.rowLen hb
    have key:∀ {l u:Int} {lo hi:Option V},(lo=none/\l=0 ∨ ∃ k,lo=some (.v (.int k l)))->(hi=none/\u=(m:Int) ∨ ∃ k,hi=some (.v (.int k u)))->i + n<=m->l=((i:Nat):Int)->u=((i + n:Nat):Int) ->
     (Instr.sliceAt t (V.den ρ (.sl g)) (lo.map (V.den ρ)) (hi.map (V.den ρ)) none).run P w'=.ok (V.den ρ (.ss g i s n)) w':=fun {l u lo hi} hlo hhi hle hl hu=>by
     have hlo':lo.map (V.den ρ)=none/\i=0 ∨ ∃ k,lo.map (V.den ρ)=some (.int k ((i:Nat):Int)):=by
      rcases hlo with ⟨rfl,e1⟩ | ⟨k,rfl⟩
      ·exact .inl ⟨rfl,by omega⟩
      ·exact .inr ⟨k,by simp only [Option.map_some,V.den,hl]⟩
     have hhi':hi.map (V.den ρ)=none/\i + n=m ∨ ∃ k,hi.map (V.den ρ)=some (.int k ((i + n:Nat):Int)):=by
      rcases hhi with ⟨rfl,e1⟩ | ⟨k,rfl⟩
      ·exact .inl ⟨rfl,by omega⟩
      ·exact .inr ⟨k,by simp only [Option.map_some,V.den,hu]⟩
     rw [V.den,V.den]
     cases ha:(ρ g).a with
     | some a0 =>
       rw [Loc.sub_some ha,L2 ha,h1,A6m hs hsz hle h2 w' hlo' hhi']
       unfold Loc.adr Loc.g
       rw [ha]; rfl
     | none =>
       have hm:=h3 ha
       subst hm
       have hcap:(ρ g).cap=0:=by
        obtain ⟨b,hg',hb'⟩:=bindSome hb
        have hsd:=h.sd g b hg'
        obtain ⟨α,e',l',hb2,_⟩:=Sk hb'
        cases b with
        | row e l=>exact (hsd.2.2 ha).1
        | ro b=>simp only [B.bare] at hb2; subst hb2; exact (hsd.2.2.1 ha).2
        | _=>cases hb2
       have e1:i=0:=by omega
       have e2:n=0:=by omega
       subst e1 e2
       rw [Loc.sub_none ha,Loc.slv_none ha]
       unfold Loc.emp
       cases (ρ g).ea with
       | none=>rw [A6m hs hsz (Nat.le_refl _) (Nat.le_refl _) w' hlo' hhi']; rfl
       | some A=>rw [A6m hs hsz (Nat.le_refl _) (Nat.zero_le _) w' hlo' hhi',A2h]
    split at he
    ·cases he
     cases hg with
     | sl hle hg e1 e2=>exact ⟨key (.inl ⟨rfl,rfl⟩) (.inl ⟨rfl,rfl⟩) hle e1 e2,hg,by simpa [V.lt] using hx,rfl⟩
    ·cases he
     cases hg with
     | sl hle hg e1 e2=>exact ⟨key (.inr ⟨_,rfl⟩) (.inl ⟨rfl,rfl⟩) hle e1 e2,hg,by simpa [V.lt] using hx,rfl⟩
    ·cases he
     cases hg with
     | sl hle hg e1 e2=>exact ⟨key (.inl ⟨rfl,rfl⟩) (.inr ⟨_,rfl⟩) hle e1 e2,hg,by simpa [V.lt] using hx,rfl⟩
    ·cases he
     cases hg with
     | sl hle hg e1 e2=>exact ⟨key (.inr ⟨_,rfl⟩) (.inr ⟨_,rfl⟩) hle e1 e2,hg,by simpa [V.lt] using hx,rfl⟩
    ·cases he
   ·cases he
  ·cases he
 ·cases he
theorem Ap1 {t e:TypeId} {s m i n:Nat} {ad:Addr} (ha:Si P t=some (m,e)) (hs:Oq P e=some s) (h1:i + n<=m) (w:World) {lo hi:Option Value}
   (hlo:lo=none/\i=0 ∨ ∃ k,lo=some (.int k ((i:Nat):Int))) (hhi:hi=none/\i + n=m ∨ ∃ k,hi=some (.int k ((i + n:Nat):Int))) :
   (Instr.sliceAt t (.pointer (some ad)) lo hi none).run P w=.ok (.slice (some (if m=i then ad else ad.add (i * s))) n (m - i)) w:=by
 have hu:=M9 ha
 have hb:(Instr.sliceBounds false m m lo hi none).run P w=.ok (i,i + n,m) w:=by
  rcases hlo with ⟨rfl,rfl⟩ | ⟨k,rfl⟩ <;> rcases hhi with ⟨rfl,e2⟩ | ⟨k',rfl⟩
  ·simp [Instr.sliceBounds,e2]
  ·simp only [Instr.sliceBounds,Sem.run_bind,Sem.run_pure,Result.andThen_ok]
   rw [run_sliceBound (h0:=by omega) (h1:=by omega)]
   simp [Result.andThen]
  ·simp only [Instr.sliceBounds,Sem.run_bind,Sem.run_pure,Result.andThen_ok]
   rw [run_sliceBound (h0:=by omega) (h1:=by omega)]
   simp [Result.andThen,e2]
  ·simp only [Instr.sliceBounds,Sem.run_bind,Sem.run_pure,Result.andThen_ok]
   rw [run_sliceBound (h0:=by omega) (h1:=by omega)]
   simp only [Result.andThen_ok]
   rw [run_sliceBound (h0:=by omega) (h1:=by omega)]
   simp [Result.andThen,show ((i:Int) + (n:Int)).toNat=i + n by omega]
 simp only [Instr.sliceAt,Sem.run_bind,run_underlying hu,Result.andThen_ok,Instr.sureAddr,Sem.run_pure,hb,Pk hs,Nat.add_sub_cancel_left]
theorem Arz {t:TypeId} {x r:V} {lo hi:Option V} {I I':List It} {os O:List Ob} (he:Awx P t x lo hi I=some (r,I',os)) (hg:Good P I (os ++ O)) (hx:V.lt (liv H) x=true) (w:World) :
   (Instr.sliceAt t (V.den ρ x) (lo.map (V.den ρ)) (hi.map (V.den ρ)) none).run P w=.ok (V.den ρ r) w/\Good P I' O/\V.lt (liv H) r=true/\r.nz=true:=by
 unfold Awx at he
 split at he
 ·rename_i g o i n I1
  split at he
  ·rename_i m e ha
   split at he
   ·rename_i s hs
    cases hb:Nat.blt 0 m with
    | false=>rw [hb] at he; cases he
    | true =>
    rw [hb] at he
    simp only [cond_true] at he
    have key:∀ {l u:Int} {lo hi:Option V},(lo=none/\l=0 ∨ ∃ k,lo=some (.v (.int k l)))->(hi=none/\u=(m:Int) ∨ ∃ k,hi=some (.v (.int k u)))->i + n<=m->l=((i:Nat):Int)->u=((i + n:Nat):Int) ->
     (Instr.sliceAt t (V.den ρ (.pt g o)) (lo.map (V.den ρ)) (hi.map (V.den ρ)) none).run P w=.ok (V.den ρ (.sk g (if m=i then o else o + i * s) s n (m - i))) w:=fun {l u lo hi} hlo hhi hle hl hu=>by
      have hlo':lo.map (V.den ρ)=none/\i=0 ∨ ∃ k,lo.map (V.den ρ)=some (.int k ((i:Nat):Int)):=by
       rcases hlo with ⟨rfl,e1⟩ | ⟨k,rfl⟩
       ·exact .inl ⟨rfl,by omega⟩
       ·exact .inr ⟨k,by simp only [Option.map_some,V.den,hl]⟩
      have hhi':hi.map (V.den ρ)=none/\i + n=m ∨ ∃ k,hi.map (V.den ρ)=some (.int k ((i + n:Nat):Int)):=by
       rcases hhi with ⟨rfl,e1⟩ | ⟨k,rfl⟩
       ·exact .inl ⟨rfl,by omega⟩
       ·exact .inr ⟨k,by simp only [Option.map_some,V.den,hu]⟩
      rw [V.den,V.den,Ap1 ha hs hle w hlo' hhi']
      split
      ·rfl
      ·rw [Gt]
    split at he
    ·cases he
     cases hg with
     | sl hle hg e1 e2=>exact ⟨key (.inr ⟨_,rfl⟩) (.inl ⟨rfl,rfl⟩) hle e1 e2,hg,by simpa [V.lt] using hx,rfl⟩
    ·cases he
     cases hg with
     | sl hle hg e1 e2=>exact ⟨key (.inl ⟨rfl,rfl⟩) (.inr ⟨_,rfl⟩) hle e1 e2,hg,by simpa [V.lt] using hx,rfl⟩
    ·cases he
     cases hg with
     | sl hle hg e1 e2=>exact ⟨key (.inr ⟨_,rfl⟩) (.inr ⟨_,rfl⟩) hle e1 e2,hg,by simpa [V.lt] using hx,rfl⟩
    ·cases he
   ·cases he
  ·cases he
 ·cases he
theorem R6 {t e:TypeId} {m len cap:Nat} {ad:Option Addr} (ha:Si P t=some (m,e)) (h:m<=len) (w:World):(Instr.arrayAt t (.slice ad len cap)).run P w=.ok (.pointer ad) w:=by
 simp only [Instr.arrayAt,Sem.run_bind,run_underlying (M9 ha),Result.andThen_ok,Sem.run_pure]
 rw [if_neg (by omega)]
 rfl
theorem As2 (h:Emb X ρ H w) {t:TypeId} {x r:V} {I I':List It} {os O:List Ob} (he:Alp P H t x I=some (r,I',os)) (hg:Good P I (os ++ O)) (hx:V.lt (liv H) x=true) (w':World) :
   (Instr.arrayAt t (V.den ρ x)).run P w'=.ok (V.den ρ r) w'/\Good P I' O/\V.lt (liv H) r=true/\r.nz=true:=by
 unfold Alp at he
 split at he
 ·rename_i n e ha
  split at he
  ·rename_i s hs
   split at he
   ·rename_i g
    split at he
    ·rename_i k i m I1 hk
     cases hb:(Nat.beq i 0 && Nat.beq m n && Nat.blt 0 n) with
     | false=>rw [hb] at he; cases he
     | true =>
       rw [hb] at he; cases he
       simp only [bq] at hb
       have h0:0 < n:=Nat.le_of_ble_eq_true hb.2
       have hm:=Nat.eq_of_beq_eq_true hb.1.2
       have hi:=Nat.eq_of_beq_eq_true hb.1.1
       subst hm hi
       obtain ⟨h1,h2,h3⟩:=h.rowLen hk
       cases hg with
       | sl hle hg e1 e2 =>
         refine ⟨?_,hg,by simpa [V.lt] using hx,rfl⟩
         rw [V.den,V.den]
         cases hq:(ρ g).a with
         | none=>have:=h3 hq; omega
         | some a0=>rw [L2 hq,R6 ha (by omega)]; rw [Nat.zero_mul]
    ·cases he
   ·rename_i g o s' k
    cases hb:Nat.ble n k with
    | false=>rw [hb] at he; cases he
    | true =>
      rw [hb] at he; cases he
      exact ⟨by rw [V.den,V.den,R6 ha (Nat.le_of_ble_eq_true hb)],hg,by simpa [V.lt] using hx,rfl⟩
   ·rename_i g o s' k c
    cases hb:Nat.ble n k with
    | false=>rw [hb] at he; cases he
    | true =>
      rw [hb] at he; cases he
      exact ⟨by rw [V.den,V.den,R6 ha (Nat.le_of_ble_eq_true hb)],hg,by simpa [V.lt] using hx,rfl⟩
   ·cases he
  ·cases he
 ·cases he
theorem A0b {t et:TypeId} (h:A9i P t=some et):∃ kt,P.underlying t=some (.map kt et)/\P.underlying kt=some (.int .i64):=by
 unfold A9i at h
 split at h
 ·rename_i kt et' hu
  split at h
  ·rename_i hk; cases h; exact ⟨kt,hu,hk⟩
  ·cases h
 ·cases h
theorem Au6 {x y:Value} (h:Au5 x y=true):x=y:=by
 unfold Au5 at h
 split at h
 ·rename_i xs ys; have:=A72 h; rw [Array.toList_inj.1 this]
 ·cases h
 ·cases h
 ·exact Aqa h
theorem Arx (h:Emb X ρ H w) {t:TypeId} {x k r:V} (he:Abm P H t x k=some r) :
   (Instr.lookup t (V.den ρ x) (V.den ρ k) false >>= fun v=>pure (Next.value v)).run P w=.ok (.value (V.den ρ r)) w/\V.lt (liv H) r=true/\r.nz=true:=by
 unfold Abm at he
 split at he
 ·rename_i g
  split at he
  ·rename_i y F j et hb hm
   split at he
   ·rename_i z hz
    cases hq:(Au5 z (V.den ρN y) && V.lt L0 (F j) && (F j).nz) with
    | false=>rw [hq] at he; cases he
    | true =>
      rw [hq] at he; cases he
      simp only [bq] at hq
      obtain ⟨⟨q1,q2⟩,q3⟩:=hq
      obtain ⟨kt,hu,hk⟩:=A0b hm
      obtain ⟨i,hi,hi2⟩:=bindSome hz
      obtain ⟨b,hg,hb'⟩:=mapSome hb
      obtain ⟨es,cl,h1,h2⟩:=h.map hg hb'
      have hzz:z=V.den ρN y:=Au6 q1
      have:=Adg (P:=P) (z:=V.den ρN y) hu hk (fun w=>by rw [← hzz]; exact Wo hi hi2 w) h1 h2 j
      refine ⟨?_,V.lt_mono Sh _ q2,q3⟩
      rw [V.den,V.den,this,← V.den_ext (n:=L0) (ρ:=ρN) (ρ':=ρ) (fun i hi=>by cases hi) _ q2]
   ·cases he
  ·cases he
 ·cases he
theorem Awz (h:Emb X ρ H w) (ha:ActOk ds ρ n T a) (ht:tlt (liv H) T) {o:Oper} {r:V} {I I':List It} {os O:List Ob} (he:evX P T H o I=some (r,I',os)) (hg:Good P I (os ++ O)) :
   (execOp a.eval o).run P w=.ok (.value (V.den ρ r)) w/\Good P I' O/\V.lt (liv H) r=true/\r.nz=true:=by
 have key:∀ {x:Operand},evO T x ≠ .z->a.eval x=V.den ρ (evO T x):=fun hx=>ha.eval (A3e hx)
 have hl:=fun x=>Gv ht x
 unfold evX at he
 split at he
 ·rename_i c x y ho
  split at he
  ·rename_i q b I1 hc
   cases hz:((evO T x).nz && (evO T y).nz) with
   | false=>rw [hz] at he; cases he
   | true =>
     rw [hz] at he; cases he
     simp only [bq] at hz
     cases hg with
     | t hq hg =>
       subst hq
       have hc':a.eval c=.bool q:=by rw [key (by rw [hc]; intro e; cases e),hc,V.den]
       have hex:execOp a.eval o=(asBool (a.eval c) >>= fun z=>pure (Next.value (if z then a.eval x else a.eval y))):=by unfold execOp; rw [ho]
       rw [hex,hc']
       simp only [asBool,Sem.run_bind,Sem.run_pure,Result.andThen_ok]
       cases q with
       | true=>refine ⟨?_,hg,hl x,hz.1⟩; simp only [if_true,cond_true,ha.eval hz.1]
       | false=>refine ⟨?_,hg,hl y,hz.2⟩; simp only [Bool.false_eq_true,if_false,cond_false,ha.eval hz.2]
  ·cases he
 ·rename_i op t x y t' ho
  have hex:execOp a.eval o=((eqGuard op t x y (a.eval x) (a.eval y) >>= fun _=>binOp op t (a.eval x) (a.eval y)) >>= fun v=>pure (Next.value v)):=by unfold execOp; rw [ho]
  split at he
  ·rename_i r' hr
   cases he
   obtain ⟨h1,h2⟩:=Aln (ρ:=ρ) hr x y (liv H) w
   refine ⟨?_,hg,h2⟩
   have hxz:evO T x ≠ .z:=fun e=>by rw [e] at hr; unfold A7x at hr; simp [Ua,Ql] at hr
   have hyz:evO T y ≠ .z:=fun e=>by rw [e] at hr; unfold A7x at hr; simp [Ua,Ql] at hr
   rw [hex,key hxz,key hyz]
   exact Ni h1
  ·split at he
   ·rename_i r' hr
    cases he
    obtain ⟨h1,h2⟩:=Ars (ρ:=ρ) hr x y (liv H) w
    refine ⟨?_,hg,h2⟩
    have hxz:evO T x ≠ .z:=fun e=>by rw [e] at hr; unfold Alk at hr; simp [V.den,undef] at hr
    have hyz:evO T y ≠ .z:=fun e=>by rw [e] at hr; unfold Alk at hr; simp [V.den,undef] at hr
    rw [hex,key hxz,key hyz]
    exact Ni h1
   ·split at he
    ·rename_i r' hr
     cases he
     obtain ⟨h1,h2⟩:=Ahy h hr x y (liv H) w
     refine ⟨?_,hg,h2⟩
     have hxz:evO T x ≠ .z:=fun e=>by rw [e] at hr; unfold Qc at hr; simp [Xm] at hr
     have hyz:evO T y ≠ .z:=fun e=>by rw [e] at hr; unfold Qc at hr; simp [Zt] at hr
     rw [hex,key hxz,key hyz]
     exact Ni h1
    ·exact Aet ha he hg (liv H) w
 ·rename_i t x lo hi mx ho
  split at he
  ·cases hz:(nzo T lo && nzo T hi) with
   | false=>rw [hz] at he; cases he
   | true =>
     rw [hz] at he
     simp only [bq] at hz
     have hex:execOp a.eval o=(Instr.sliceAt t (a.eval x) (lo.map a.eval) (hi.map a.eval) none >>= fun v=>pure (Next.value v)):=by unfold execOp; rw [ho]; rfl
     have hlo:lo.map a.eval=(lo.map (evO T)).map (V.den ρ):=by
      cases lo with
      | none=>rfl
      | some l=>simp only [Option.map_some,ha.eval hz.1]
     have hhi:hi.map a.eval=(hi.map (evO T)).map (V.den ρ):=by
      cases hi with
      | none=>rfl
      | some l=>simp only [Option.map_some,ha.eval hz.2]
     simp only [cond_true] at he
     split at he
     ·rename_i r' hr
      cases he
      have hxz:evO T x ≠ .z:=fun e=>by rw [e] at hr; cases hr
      obtain ⟨h1,h2⟩:=As0 (ρ:=ρ) hr hg (hl x) w
      refine ⟨?_,h2⟩
      rw [hex,hlo,hhi,key hxz]
      exact Ni h1
     ·split at he
      ·rename_i r' hr
       cases he
       have hxz:evO T x ≠ .z:=fun e=>by rw [e] at hr; cases hr
       obtain ⟨h1,h2⟩:=Alo h hr hg (hl x) w
       refine ⟨?_,h2⟩
       rw [hex,hlo,hhi,key hxz]
       exact Ni h1
      ·have hxz:evO T x ≠ .z:=fun e=>by rw [e] at he; cases he
       obtain ⟨h1,h2⟩:=Arz he hg (hl x) w
       refine ⟨?_,h2⟩
       rw [hex,hlo,hhi,key hxz]
       exact Ni h1
  ·cases he
 ·rename_i t x ho
  have hxz:evO T x ≠ .z:=fun e=>by rw [e] at he; unfold Alp at he; split at he <;> first | (split at he <;> cases he) | cases he
  obtain ⟨h1,h2⟩:=As2 h he hg (hl x) w
  refine ⟨?_,h2⟩
  have hex:execOp a.eval o=(Instr.arrayAt t (a.eval x) >>= fun v=>pure (Next.value v)):=by unfold execOp; rw [ho]
  rw [hex,key hxz]
  exact Ni h1
 ·rename_i t x k c ho
  cases c with
  | true=>cases he
  | false =>
    simp only [cond_false] at he
    obtain ⟨r',hr,e⟩:=mapSome he
    cases e
    have hxz:evO T x ≠ .z:=fun e=>by rw [e] at hr; cases hr
    have hkz:evO T k ≠ .z:=fun e=>by
     rw [e] at hr
     generalize evO T x=xv at hr
     unfold Abm at hr
     split at hr
     ·split at hr
      ·rename_i hh _; cases hh
      ·cases hr
     ·cases hr
    obtain ⟨h1,h2⟩:=Arx h hr
    refine ⟨?_,hg,h2⟩
    have hex:execOp a.eval o=(Instr.lookup t (a.eval x) (a.eval k) false >>= fun v=>pure (Next.value v)):=by unfold execOp; rw [ho]
    rw [hex,key hxz,key hkz]
    exact h1
 ·cases hk:plK o.op with
  | false=>rw [hk] at he; cases he
  | true=>rw [hk] at he; exact Aet ha he hg (liv H) w
end
end Go.Proofs.YtfhiggfmkjmeiaaGreat
namespace Go.Proofs.YtfhiggfmkjmeiaaGreat
open Go Go.RowKit
section
variable {M:List Nat} {w0 w w':World} {L:List Res}
theorem Hs.swp (h:Hs M w0 w L) {i j:Nat} {r s:Res} (hi:L[i]?=some r) (hj:L[j]?=some s) (hne:i ≠ j):Hs M w0 w ((L.set i s).set j r):=by
 have hil:=(List.getElem?_eq_some_iff.1 hi).1
 have hjl:=(List.getElem?_eq_some_iff.1 hj).1
 have key:∀ {k:Nat} {t:Res},((L.set i s).set j r)[k]?=some t->∃ k',L[k']?=some t/\(k'=if k=i then j else if k=j then i else k):=fun {k t} hk=>by
  by_cases e1:k=j
  ·subst e1
   rw [List.getElem?_set_self (by rw [List.length_set]; exact hjl)] at hk
   cases hk
   exact ⟨i,hi,by rw [if_neg (Ne.symm hne),if_pos rfl]⟩
  ·rw [List.getElem?_set_ne (Ne.symm e1)] at hk
   by_cases e2:k=i
   ·subst e2
    rw [List.getElem?_set_self hil] at hk
    cases hk
    exact ⟨j,hj,by rw [if_pos rfl]⟩
   ·rw [List.getElem?_set_ne (Ne.symm e2)] at hk
    exact ⟨k,hk,by rw [if_neg e2,if_neg e1]⟩
 refine ⟨fun k t hk=>?_,fun k k' t t' hkk hk hk'=>?_,fun k t hk=>?_,h.fr⟩
 ·obtain ⟨q,hq,_⟩:=key hk; exact h.ok q t hq
 ·obtain ⟨q,hq,e⟩:=key hk
  obtain ⟨q',hq',e'⟩:=key hk'
  refine h.ap q q' t t' (fun e2=>hkk ?_) hq hq'
  rw [e,e'] at e2
  by_cases a1:k=i <;> by_cases a2:k=j <;> by_cases a3:k'=i <;> by_cases a4:k'=j <;> simp_all
 ·obtain ⟨q,hq,_⟩:=key hk; exact h.my q t hq
end
theorem Uv (ρ:Env) (b:B):∀ (H:List B) (i g:Nat),rsF ρ (H.set g b) i=(rsF ρ H i).set g (b.res ρ (ρ (i + g)))
 | [],_,_=>rfl
 | c :: H,i,0=>rfl
 | c :: H,i,g + 1=>by rw [List.set_cons_succ,rsF,rsF,List.set_cons_succ,Uv ρ b H (i + 1) g,show i + 1 + g=i + (g + 1) by omega]
theorem Agi {n:Nat->Bool} {ρ ρ':Env} (h:∀ i,n i=true->ρ' i=ρ i):∀ (H:List B) (i:Nat),(∀ (j:Nat) b,H[j]?=some b->b.lt n=true/\(ρ' (i + j)=ρ (i + j) ∨ b=.free))->rsF ρ' H i=rsF ρ H i
 | [],_,_=>rfl
 | c :: H,i,hc=>by
   rw [rsF,rsF,Agi h H (i + 1) (fun j b hb=>by have:=hc (j + 1) b (by simpa using hb); rwa [show i + (j + 1)=i + 1 + j by omega] at this)]
   congr 1
   obtain ⟨h1,h2⟩:=hc 0 c rfl
   rcases h2 with h2 | h2
   ·rw [show i + 0=i from rfl] at h2
    rw [h2]; exact B.res_ext h h1
   ·subst h2; rfl
def Env.set (ρ:Env) (n:Nat) (c:Loc):Env:=fun i=>if i=n then c else ρ i
section
variable {X:Ctx} {ρ:Env} {H:List B} {w w':World} {P:Program}
theorem Do {H:List B} {g:Nat} {b:B} (hb:b ≠ .free):∀ i,liv H i=true->liv (H.set g b) i=true:=fun i hi=>by
 obtain ⟨c,hc,hcf⟩:=Bq.1 hi
 by_cases e:g=i
 ·subst e; exact Bq.2 ⟨b,List.getElem?_set_self (List.getElem?_eq_some_iff.1 hc).1,hb⟩
 ·exact Bq.2 ⟨c,by rw [List.getElem?_set_ne e]; exact hc,hcf⟩
theorem Qo {H:List B} {g:Nat} {b:B} (hg:g < H.length) (hb:b ≠ .free):liv (H.set g b) g=true:=Bq.2 ⟨b,List.getElem?_set_self hg,hb⟩
theorem Env.set_old {n:Nat} {c:Loc} (hn:H[n]?=some .free):∀ i,liv H i=true->(ρ.set n c) i=ρ i:=fun i hi=>by
 unfold Env.set
 rw [if_neg fun e=>?_]
 subst e
 obtain ⟨b,hb,hbf⟩:=Bq.1 hi
 rw [hn] at hb; cases hb; exact hbf rfl
theorem Emb.env (h:Emb X ρ H w) {n:Nat} {c:Loc} (hn:H[n]?=some .free):Emb X (ρ.set n c) H w:=by
 have old:=Env.set_old (ρ:=ρ) (c:=c) hn
 have at':∀ (j:Nat) b,H[j]?=some b->(ρ.set n c) j=ρ j ∨ b=.free:=fun j b hb=>by
  by_cases e:b=.free
  ·exact .inr e
  ·exact .inl (old j (Bq.2 ⟨b,hb,e⟩))
 refine ⟨?_,fun i b hb=>?_,h.cl,fun i hi hf=>by rw [old i (h.kl i hi)]; exact h.ag i hi hf,h.kl,h.nr⟩
 ·rw [Agi old H 0 fun j b hb=>⟨h.cl j b hb,by rw [Nat.zero_add]; exact at' j b hb⟩]; exact h.hs
 ·rcases at' i b hb with e | e
  ·rw [e]; exact (B.side_ext old (h.cl i b hb)).2 (h.sd i b hb)
  ·subst e; trivial
theorem Emb.upd (h:Emb X ρ H w) {g:Nat} {b b':B} (hg:H[g]?=some b) (hrow:b'.isRow=true->b.isRow=true ∨ b=.free) (hf:b' ≠ .free) (hok:(b'.res ρ (ρ g)).ok w') (hfp:∀ x ∈ (b'.res ρ (ρ g)).fp,x ∈ (b.res ρ (ρ g)).fp ∨ w.heap.size<=x)
    (hos:w'.os=w.os) (htape:w'.tape=w.tape) (hout:w'.output=w.output) (hsz:w.heap.size<=w'.heap.size) (hk:∀ k,k < w.heap.size->k ∉ (b.res ρ (ρ g)).fp->w'.heap[k]?=w.heap[k]?)
    (hs:b'.side X.w X.M ρ (ρ g)) (hlt:b'.lt (liv (H.set g b'))=true):Emb X ρ (H.set g b') w':=by
 have hgl:=(List.getElem?_eq_some_iff.1 hg).1
 refine ⟨?_,fun i c hc=>?_,fun i c hc=>?_,h.ag,fun i hi=>Do hf i (h.kl i hi),fun i c hi hfx hc=>?_⟩
 ·rw [Uv,Nat.zero_add]
  exact h.hs.upd g (Bd hg) hok hfp hos htape hout hsz hk
 ·by_cases e:g=i
  ·subst e; rw [List.getElem?_set_self hgl] at hc; cases hc; exact hs
  ·rw [List.getElem?_set_ne e] at hc; exact h.sd i c hc
 ·by_cases e:g=i
  ·subst e; rw [List.getElem?_set_self hgl] at hc; cases hc; exact hlt
  ·rw [List.getElem?_set_ne e] at hc; exact B.lt_mono (Do hf) (h.cl i c hc)
 ·by_cases e:g=i
  ·subst e
   rw [List.getElem?_set_self hgl] at hc; cases hc
   cases hr:b'.isRow with
   | false=>rfl
   | true =>
     rcases hrow hr with h1 | h1
     ·rw [h.nr g b hi hfx hg] at h1; cases h1
     ·subst h1; have:=h.kl g hi; unfold liv at this; rw [hg] at this; cases this
  ·rw [List.getElem?_set_ne e] at hc; exact h.nr i c hi hfx hc
theorem Emb.new (h:Emb X ρ H w) {n:Nat} {c:Loc} {b:B} (hn:H[n]?=some .free) (hb:Below w.heap.size w w') (hro:b.isRo=false) (hf:b ≠ .free) (hok:(b.res (ρ.set n c) c).ok w') (hfp:∀ x ∈ (b.res (ρ.set n c) c).fp,w.heap.size<=x)
    (hs:b.side X.w X.M (ρ.set n c) c) (hlt:b.lt (liv (H.set n b))=true):Emb X (ρ.set n c) (H.set n b) w':=by
 have h1:=h.env (c:=c) hn
 have hc:(ρ.set n c) n=c:=by unfold Env.set; rw [if_pos rfl]
 refine h1.upd hn (fun _=>.inr rfl) hf (by rw [hc]; exact hok) (fun x hx=>?_) hb.os hb.tape hb.output hb.size (fun k hk _=>hb.block k hk) (by rw [hc]; exact hs) hlt
 rw [hc] at hx; exact .inr (hfp x hx)
theorem Emb.move (h:Emb X ρ H w) {g n:Nat} {c:Loc} {b b':B} (hg:H[g]?=some b) (hb0:b ≠ .free) (hn:H[n]?=some .free) (hk0:¬ g < X.k ∨ True) (hro':b'.isRo=false) (hf:b' ≠ .free) (hok:(b'.res (ρ.set n c) c).ok w')
    (hfp:∀ x ∈ (b'.res (ρ.set n c) c).fp,x ∈ (b.res ρ (ρ g)).fp ∨ w.heap.size<=x)
    (hos:w'.os=w.os) (htape:w'.tape=w.tape) (hout:w'.output=w.output) (hsz:w.heap.size<=w'.heap.size) (hk:∀ k,k < w.heap.size->k ∉ (b.res ρ (ρ g)).fp->w'.heap[k]?=w.heap[k]?)
    (hs:b'.side X.w X.M (ρ.set n c) c) (hlt:b'.lt (liv ((H.set g .gone).set n b'))=true):Emb X (ρ.set n c) ((H.set g .gone).set n b') w':=by
 have hgl:=(List.getElem?_eq_some_iff.1 hg).1
 have hnl:=(List.getElem?_eq_some_iff.1 hn).1
 have hne:g ≠ n:=fun e=>by subst e; rw [hg] at hn; exact hb0 (Option.some.inj hn)
 have h1:=h.env (c:=c) hn
 have hc:(ρ.set n c) n=c:=by unfold Env.set; rw [if_pos rfl]
 have hgo:(ρ.set n c) g=ρ g:=by unfold Env.set; rw [if_neg hne]
 have old:=Env.set_old (ρ:=ρ) (c:=c) hn
 have hres:b.res (ρ.set n c) ((ρ.set n c) g)=b.res ρ (ρ g):=by rw [hgo]; exact B.res_ext old (h.cl g b hg)
 have lv:∀ i,liv H i=true->liv ((H.set g .gone).set n b') i=true:=fun i hi=>Do hf i (Do (by intro e; cases e) i hi)
 refine ⟨?_,fun i d hd=>?_,fun i d hd=>?_,h1.ag,fun i hi=>lv i (h.kl i hi),fun i d hi hfx hd=>?_⟩
 ·have h2:=h1.hs.upd g (Bd hg) (r':=b'.res (ρ.set n c) c) hok (by rw [hres]; exact hfp) hos htape hout hsz (by rw [hres]; exact hk)
  have e1:((rsF (ρ.set n c) H 0).set g (b'.res (ρ.set n c) c))[g]?=some (b'.res (ρ.set n c) c):=List.getElem?_set_self (by rw [A6l]; exact hgl)
  have e2:((rsF (ρ.set n c) H 0).set g (b'.res (ρ.set n c) c))[n]?=some Sf:=by rw [List.getElem?_set_ne hne]; exact Bd hn
  have h3:=h2.swp e1 e2 hne
  rw [Uv,Uv,Nat.zero_add,Nat.zero_add,hc]
  rw [List.set_set] at h3
  exact h3
 ·by_cases e:n=i
  ·subst e; rw [List.getElem?_set_self (by rw [List.length_set]; exact hnl)] at hd; cases hd; rw [hc]; exact hs
  ·rw [List.getElem?_set_ne e] at hd
   by_cases e2:g=i
   ·subst e2; rw [List.getElem?_set_self hgl] at hd; cases hd; trivial
   ·rw [List.getElem?_set_ne e2] at hd; exact h1.sd i d hd
 ·by_cases e:n=i
  ·subst e; rw [List.getElem?_set_self (by rw [List.length_set]; exact hnl)] at hd; cases hd; exact hlt
  ·rw [List.getElem?_set_ne e] at hd
   by_cases e2:g=i
   ·subst e2; rw [List.getElem?_set_self hgl] at hd; cases hd; rfl
   ·rw [List.getElem?_set_ne e2] at hd; exact B.lt_mono lv (h.cl i d hd)
 ·by_cases e:n=i
  ·subst e; have:=h.kl n hi; unfold liv at this; rw [hn] at this; cases this
  ·rw [List.getElem?_set_ne e] at hd
   by_cases e2:g=i
   ·subst e2; rw [List.getElem?_set_self hgl] at hd; cases hd; rfl
   ·rw [List.getElem?_set_ne e2] at hd; exact h.nr i d hi hfx hd
end
end Go.Proofs.YtfhiggfmkjmeiaaGreat
namespace Go.Proofs.YtfhiggfmkjmeiaaGreat
open Go Go.RowKit
def Aqk (P:Program):Nat->TypeId->Option (List V)
 | 0,_=>none
 | d + 1, t => match P.underlying t with
   | some (.struct fs)=>fs.toList.foldr (fun f r=>match Aqk P d f.type,r with | some a,some b=>some (a ++ b) | _,_=>none) (some [])
   | some (.array n e)=>match P.underlying e with
     | some (.int k)=>some [.ar k n fun _=>0]
     | _=>(Aqk P d e).map fun l=>(List.replicate n l).flatten
   | some _=>match P.info? t with | some i=>i.zero.map fun x=>[.v x] | none=>none
   | none=>none
def Td (P:Program) (t:TypeId):Option (List V) :=
 match Aqk P 40 t,P.info? t with
 | some l,some i=>match i.zero with
   | some z=>bif V.wf l && V.lts L0 l && Ajj (V.flat ρN l) z.cells.toList then some l else none
   | none=>none
 | _,_=>none
section
variable {P:Program}
theorem Sd {t:TypeId} {l:List V} (h:Td P t=some l):∃ (i:TypeInfo) (x:Value),P.info? t=some i/\i.zero=some x/\V.wf l=true/\V.lts L0 l=true/\∀ ρ,V.flat ρ l=x.cells.toList:=by
 unfold Td at h
 split at h
 ·rename_i l' i hl hi
  split at h
  ·rename_i x hx
   cases hc:(V.wf l' && V.lts L0 l' && Ajj (V.flat ρN l') x.cells.toList) with
   | false=>rw [hc] at h; cases h
   | true =>
     rw [hc] at h; cases h
     simp only [bq] at hc
     exact ⟨i,x,hi,hx,hc.1.1,hc.1.2,fun ρ=>by rw [V.flat_ext (n:=L0) (ρ:=ρN) (fun i hi=>by cases hi) l hc.1.2,A72 hc.2]⟩
  ·cases h
 ·cases h
end
def V.un:V->Option (List V)
 | .ag l=>bif V.wf l then some l else none
 | .ar k n f=>some [.ar k n f]
 | .tu _ | .z=>none
 | .v (.agg cs)=>bif cs.toList.all Value.oneCell' then some (cs.toList.map V.v) else none
 | x=>bif x.cell then some [x] else none
theorem Af5 (ρ:Env):∀ l:List Value,l.all Value.oneCell'=true->V.flat ρ (l.map V.v)=l/\V.wf (l.map V.v)=true
 | [],_=>⟨by simp [V.flat_nil],rfl⟩
 | x :: l,h=>by
   simp only [List.all_cons,bq] at h
   obtain ⟨h1,h2⟩:=Af5 ρ l h.2
   have hx:x.cells=#[x]:=by cases x <;> first | rfl | cases h.1
   refine ⟨?_,?_⟩
   ·rw [List.map_cons,V.flat_cons,V.den,hx,h1]; rfl
   ·simp only [List.map_cons,V.wf,List.all_cons,bq]; exact ⟨h.1,h2⟩
theorem V.un_ok {x:V} {l:List V} (h:V.un x=some l) (ρ:Env):V.wf l=true/\V.flat ρ l=(V.den ρ x).cells.toList:=by
 unfold V.un at h
 split at h
 ·rename_i l'
  cases hw:V.wf l' with
  | false=>rw [hw] at h; cases h
  | true=>rw [hw] at h; cases h; exact ⟨hw,by rw [V.den]; rfl⟩
 ·rename_i k m f
  cases h; exact ⟨rfl,by rw [V.flat_cons,V.flat_nil,List.append_nil]⟩
 ·cases h
 ·cases h
 ·rename_i cs
  cases hw:cs.toList.all Value.oneCell' with
  | false=>rw [hw] at h; cases h
  | true =>
    rw [hw] at h; cases h
    obtain ⟨h1,h2⟩:=Af5 ρ _ hw
    exact ⟨h2,by rw [h1,V.den]; rfl⟩
 ·cases hc:x.cell with
  | false=>rw [hc] at h; cases h
  | true=>rw [hc] at h; cases h; exact ⟨by simp [V.wf,hc],by rw [V.flat_cons,V.flat_nil,List.append_nil]⟩
theorem V.un_lt {x:V} {l:List V} {n:Nat->Bool} (h:V.un x=some l) (hx:V.lt n x=true):V.lts n l=true:=by
 unfold V.un at h
 split at h
 ·rename_i l'
  cases hw:V.wf l' with
  | false=>rw [hw] at h; cases h
  | true=>rw [hw] at h; cases h; simpa [V.lt] using hx
 ·cases h; simp [V.lts,V.lt]
 ·cases h
 ·cases h
 ·rename_i cs
  cases hw:cs.toList.all Value.oneCell' with
  | false=>rw [hw] at h; cases h
  | true=>rw [hw] at h; cases h; rw [V.lts_iff]; intro y hy; obtain ⟨z,_,rfl⟩:=List.mem_map.1 hy; simp [V.lt]
 ·cases hc:x.cell with
  | false=>rw [hc] at h; cases h
  | true=>rw [hc] at h; cases h; simp [V.lts,hx]
def V.ws:List V->Nat
 | []=>0
 | x :: l=>x.w + V.ws l
theorem V.ws_ok {ρ:Env}:∀ {l:List V},V.wf l=true->(V.flat ρ l).length=V.ws l
 | [],_=>by rw [V.flat_nil]; rfl
 | x :: l,h=>by
   simp only [V.wf,List.all_cons,bq] at h
   rw [V.flat_cons,List.length_append,V.cells_len h.1,V.ws_ok h.2]; rfl
theorem V.un_ws {x:V} {l:List V} (h:V.un x=some l) (ρ:Env):(V.den ρ x).cells.size=V.ws l:=by
 obtain ⟨h1,h2⟩:=V.un_ok h ρ
 rw [← V.ws_ok (ρ:=ρ) h1,h2]; simp
theorem V.put1_lt {n : Nat -> Bool} {v : V} (hv : V.lt n v = true) : ∀ {l : List V} {o : Nat} {r : List V}, V.lts n l = true -> V.put1 l o v = some r -> V.lts n r = true
 | [],o,r,_,h=>by cases h
 | y :: l, o, r, hl, h => by
   simp only [V.lts,bq] at hl
   have hl2:=hl.2
   have e:V.put1 (y :: l) o v=(match y with | .ar k m f=>if m<=o then (V.put1 l (o - m) v).map (V.ar k m f :: ·) else V.putA k m f l o v | y=>if o=0 then V.putB l v else (V.put1 l (o - 1) v).map (y :: ·)):=by cases y <;> rfl
   rw [e] at h
   split at h
   ·rename_i k m f
    split at h
    ·obtain ⟨r',hr,rfl⟩:=mapSome h
     simp only [V.lts,bq]; exact ⟨by simp [V.lt],V.put1_lt hv hl2 hr⟩
    ·unfold V.putA at h
     split at h
     ·split at h
      ·cases h; simp only [V.lts,bq]; exact ⟨by simp [V.lt],hl2⟩
      ·cases h
     ·split at h
      ·split at h
       ·cases h; simp only [V.lts,bq]; exact ⟨by simp [V.lt],hl2⟩
       ·split at h
        ·cases h; simp only [V.lts,bq]; exact ⟨by simp [V.lt],hl2⟩
        ·cases h
      ·cases h
     ·cases h
   ·split at h
    ·unfold V.putB at h
     split at h
     ·cases h
     ·cases h; simp only [V.lts,bq]; exact ⟨hv,hl.2⟩
    ·obtain ⟨r',hr,rfl⟩:=mapSome h
     simp only [V.lts,bq]; exact ⟨hl.1,V.put1_lt hv hl.2 hr⟩
theorem V.putL_lt {n:Nat->Bool}:∀ {vs l:List V} {o:Nat} {r:List V},V.lts n vs=true->V.lts n l=true->V.putL l o vs=some r->V.lts n r=true
 | [],l,o,r,_,hl,h=>by cases h; exact hl
 | u :: vs,l,o,r,hv,hl,h=>by
   simp only [V.lts,bq] at hv
   rw [V.putL] at h
   cases hr:V.put1 l o u with
   | none=>rw [hr] at h; cases h
   | some l'=>rw [hr] at h; exact V.putL_lt hv.2 (V.put1_lt hv.1 hl hr) h
theorem An6 (L:List Value) (v:Value) (vs:List Value) {k k':Nat} (hk:k'=k + 1) (hj:k < L.length) :
   (L.set k v).take k' ++ vs ++ (L.set k v).drop (k' + vs.length)=L.take k ++ v :: vs ++ L.drop (k + (vs.length + 1)):=by
 subst hk
 have e1:(L.set k v).take (k + 1)=L.take k ++ [v]:=by
  rw [List.take_add_one,List.getElem?_set_self hj,List.take_set_of_le (Nat.le_refl _)]; rfl
 have e2:(L.set k v).drop (k + 1 + vs.length)=L.drop (k + (vs.length + 1)):=by
  rw [List.drop_set_of_lt (by omega),show k + 1 + vs.length=k + (vs.length + 1) by omega]
 rw [e1,e2]
 simp [List.append_assoc]
theorem A89 (off:Nat):∀ (vs:List Value) (cs:Array Value) (j:Nat),off + j + vs.length<=cs.size ->
   ((vs.zipIdx j).foldl (fun cs (p:Value × Nat)=>cs.setIfInBounds (off + p.2) p.1) cs).toList=cs.toList.take (off + j) ++ vs ++ cs.toList.drop (off + j + vs.length)
 | [],cs,j,h=>by simp
 | v :: vs,cs,j,h=>by
   simp only [List.length_cons] at h
   rw [List.zipIdx_cons,List.foldl_cons,A89 off vs _ (j + 1) (by simp; omega)]
   have hj:off + j < cs.toList.length:=by simp; omega
   simp only [Array.toList_setIfInBounds,List.length_cons]
   exact An6 cs.toList v vs (by omega) hj
def Zi (l:List V):List (Nat × Nat × V)->Option (List V)
 | []=>some l
 | (off,size,x) :: ps=>match V.un x with
   | some c=>bif Nat.beq (V.ws c) size then match V.putL l off c with | some l'=>Zi l' ps | none=>none else none
   | none=>none
theorem Zk {ρ : Env} (place : Nat -> Option (Nat × Nat)) : ∀ (ps : List (Nat × Nat × Nat × V)) (l : List V) (cells : Array Value) (r : List V), (∀ p ∈ ps, place p.1 = some (p.2.1, p.2.2.1)) -> (∀ p ∈ ps, 0 < p.2.2.1) -> V.wf l = true -> V.flat ρ l = cells.toList ->
   Zi l (ps.map (·.2))=some r->V.wf r=true/\∃ cells',Instr.fill place cells (ps.map fun p=>(p.1,V.den ρ p.2.2.2))=some cells'/\V.flat ρ r=cells'.toList
 | [],l,cells,r,_,_,hw,hf,h=>by cases h; exact ⟨hw,cells,rfl,hf⟩
 | (i, off, size, x) :: ps, l, cells, r, hp, hz, hw, hf, h => by
   have hpl:=hp _ (List.mem_cons_self)
   have hsz:=hz _ (List.mem_cons_self)
   simp only at hpl hsz
   simp only [List.map_cons,Zi] at h
   split at h
   ·rename_i c hc
    cases hb:Nat.beq (V.ws c) size with
    | false=>rw [hb] at h; cases h
    | true =>
      rw [hb] at h
      simp only [cond_true] at h
      have hws:=Nat.eq_of_beq_eq_true hb
      obtain ⟨u1,u2⟩:=V.un_ok hc ρ
      have hcs:=V.un_ws hc ρ
      split at h
      ·rename_i l' hl'
       obtain ⟨p1,p2,p3⟩:=V.putL_ok (ρ:=ρ) u1 hw hl'
       have hlen:(V.flat ρ c).length=size:=by rw [V.ws_ok u1,hws]
       have hle:off + size<=cells.size:=by
        rw [hlen,hf] at p3
        have:cells.toList.length=cells.size:=by simp
        omega
       have e1:((V.den ρ x).cells.zipIdx.foldl (fun cs (c,j)=>cs.setIfInBounds (off + j) c) cells).toList=V.flat ρ l':=by
        rw [← Array.foldl_toList,Array.toList_zipIdx]
        have:=A89 off (V.den ρ x).cells.toList cells 0 (by rw [← u2,hlen]; omega)
        rw [p2,hf,u2]
        simpa using this
       obtain ⟨q1,cells',q2,q3⟩:=Zk (ρ:=ρ) place ps l' ((V.den ρ x).cells.zipIdx.foldl (fun cs (c,j)=>cs.setIfInBounds (off + j) c) cells) r (fun p h=>hp p (List.mem_cons_of_mem _ h)) (fun p h=>hz p (List.mem_cons_of_mem _ h)) p1 e1.symm h
       refine ⟨q1,cells',?_,q3⟩
       rw [List.map_cons,Instr.fill]
       simp only [hpl]
       rw [if_neg (by rw [hcs,hws]; simp; omega)]
       exact q2
      ·cases h
   ·cases h
theorem Zj {n:Nat->Bool}:∀ {ps:List (Nat × Nat × V)} {l r:List V},(∀ p ∈ ps,V.lt n p.2.2=true)->V.lts n l=true->Zi l ps=some r->V.lts n r=true
 | [],l,r,_,hl,h=>by cases h; exact hl
 | (off,size,x) :: ps,l,r,hp,hl,h=>by
   simp only [Zi] at h
   split at h
   ·rename_i c hc
    cases hb:Nat.beq (V.ws c) size with
    | false=>rw [hb] at h; cases h
    | true =>
      rw [hb] at h
      simp only [cond_true] at h
      split at h
      ·rename_i l' hl'
       exact Zj (fun p h=>hp p (List.mem_cons_of_mem _ h)) (V.putL_lt (V.un_lt hc (hp _ List.mem_cons_self)) hl hl') h
      ·cases h
   ·cases h
