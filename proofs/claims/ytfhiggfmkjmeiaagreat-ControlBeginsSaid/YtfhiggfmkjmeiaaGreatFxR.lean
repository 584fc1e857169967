import Derived.Test.YtfhiggfmkjmeiaaGreatFxK
set_option linter.all false
namespace Go.Proofs.YtfhiggfmkjmeiaaGreat
open Go Go.RowKit
structure St:Type 1 where
 T:List (Nat × V)
 H:List B
 n:Nat
 I:List It
 L:List Nat
def Ki (kp:Option (Nat->Bool)) (T:List (Nat × V)):List (Nat × V) :=
 match kp with
 | none=>T
 | some k=>T.map fun p=>(p.1,bif V.lt k p.2 then p.2 else .z)
theorem Mx {k:Nat->Bool}:∀ (T:List (Nat × V)) (i:Nat),Ay (Ki (some k) T) i=bif V.lt k (Ay T i) then Ay T i else .z
 | [],i=>by simp [Ki,Ay,V.lt]
 | (j,x) :: T,i=>by
   have:=Mx (k:=k) T i
   unfold Ki at this ⊢
   simp only [List.map_cons,Ay]
   cases hb:Nat.beq i j with
   | true=>rfl
   | false=>exact this
def Ahx (ops:Array Oper) (T:List (Nat × V)) (o:Oper) (I:List It):Option (Bool × List It × List Ob) :=
 match o.guard with
 | none=>some (true,I,[])
 | some (j,want)=>match (ops[j]?).bind (·.dst) with
   | some d=>match Ay T d,I with
     | .v (.bool q),.t b :: I=>some (b == want,I,[.t q])
     | .v (.tuple _),I=>some (false,I,[])
     | _,_=>none
   | none=>none
def Ze (P:Program) (Y:Option Yd) (nT:Nat) (ops:Array Oper) (o:Oper) (s:St):Option (St × List Ob) :=
 match Ahx ops s.T o s.I with
 | some (true,I1,os1)=>match Ahz P Y s.T s.H s.n o I1 with
   | some r=>some (⟨Re nT (Ki r.kp s.T) o.dst r.x,Em s.H r.W,s.n + r.c,r.I,r.W.map (·.1) ++ s.L⟩,os1 ++ r.os)
   | none=>none
 | some (false,I1,os1)=>some (⟨Re nT s.T o.dst (.v undef),s.H,s.n,I1,s.L⟩,os1)
 | none=>none
def A2x (P:Program) (Y:Option Yd) (nT:Nat) (ops:Array Oper):List Oper->St->Option (St × List Ob)
 | [],s=>some (s,[])
 | o :: l, s => match Ze P Y nT ops o s with
   | some (s',os)=>match A2x P Y nT ops l s' with
     | some (s2,os2)=>some (s2,os ++ os2)
     | none=>none
   | none=>none
structure At (X:Ctx) (ds:List Deferred) (nT:Nat) (s:St) (a:Act) (w:World):Prop where
 out:∃ ρ,Emb X ρ s.H w/\ActOk ds ρ nT s.T a/\tlt (liv s.H) s.T
section
variable {X:Ctx} {ρ:Env} {H:List B} {w w':World} {P:Program} {T:List (Nat × V)} {nT n:Nat} {a:Act} {ops:Array Oper} {ρl:Option Nat} {Q:Exit->Act->World->Prop} {rest:List Oper} {ds:List Deferred} {Y:Option Yd}
theorem Xz (ha:ActOk ds ρ nT T a) {o:Oper} {b:Bool} {I I':List It} {os O:List Ob} (he:Ahx ops T o I=some (b,I',os)) (hg:Good P I (os ++ O)):Region.wanted o (yielded ops a.tmps)=b/\Good P I' O:=by
 unfold Ahx at he
 unfold Region.wanted
 split at he
 ·rename_i hn; cases he; rw [hn]; exact ⟨rfl,hg⟩
 ·rename_i j want hj
  rw [hj]
  split at he
  ·rename_i d hd
   have key:Ay T d ≠ .z->((ops[j]?).bind (·.dst)).bind (a.tmps[·]?)=some (V.den ρ (Ay T d)):=fun hz=>by
    rw [hd]
    rcases ha.t d with h1 | h1
    ·exact absurd h1 hz
    ·exact h1
   split at he
   ·rename_i q b' I1 hq
    cases he
    cases hg with
    | t h hg =>
      subst h
      refine ⟨?_,hg⟩
      simp only [yielded]
      rw [key (by rw [hq]; intro e; cases e),hq,V.den]
      simp
   ·rename_i vs I1 hq
    cases he
    refine ⟨?_,hg⟩
    simp only [yielded]
    rw [key (by rw [hq]; intro e; cases e),hq,V.den]
    rfl
   ·cases he
  ·cases he
theorem Ah4 {o:Oper} {K:Value->World->Prop} (hw:Region.wanted o (yielded ops a.tmps)=true) (hd:Does P o a w K) (k:∀ u w',K u w'->XL ρl P ops Q rest (a.put o.dst u) w'):XL ρl P ops Q (o :: rest) a w:=by
 have hnd:N1 o=true:=by
  unfold N1
  split
  ·rename_i c hc
   unfold Does at hd
   have:execOp a.eval o=(resolve a.eval c o.type >>= fun d=>pure (Next.defer d)):=by unfold execOp; rw [hc]
   rw [this,Sem.run_bind] at hd
   cases hr:(resolve a.eval c o.type).run P w with
   | ok d w'=>rw [hr] at hd; exact hd.elim
   | halt x w'=>rw [hr] at hd; exact hd.elim
  ·rfl
 unfold Does at hd
 split at hd
 ·rename_i u w' hr; exact Ah3 hw hnd hr (k u w' hd)
 ·rename_i w' hr; exact B2j hw hnd hr (k _ w' hd)
 ·rename_i f args w' hr
  refine ⟨?_⟩
  unfold wpListIn
  rw [if_pos hw]
  refine ⟨fun _ _=>trivial,?_⟩
  rw [Mw hnd,hr]
  refine ⟨fun h=>(by cases h),Xu.2 (hd.mono fun e w'' hq=>?_)⟩
  obtain ⟨u,rfl,hk⟩:=hq
  exact (k u w'' hk).out
 ·rename_i l f tmps asg bd w' hr
  refine ⟨?_⟩
  unfold wpListIn
  rw [if_pos hw]
  refine ⟨fun _ _=>trivial,?_⟩
  rw [Mw hnd,hr]
  refine ⟨fun h=>(by cases h),hd.1,fun c cs _=>?_⟩
  obtain ⟨e,w'',⟨u,he,hk⟩,hc⟩:=hd.2 c cs (fun d h=>by cases h)
  subst he
  exact ⟨.returned u,w'',(k u w'' hk).out,hc⟩
 ·exact hd.elim
theorem Aty {m:Nat->Bool} {kp:Option (Nat->Bool)} (h:tlt m T):tlt m (Ki kp T):=fun i=>by
 cases kp with
 | none=>exact h i
 | some k =>
   rw [Mx]
   cases V.lt k (Ay T i) with
   | true=>exact h i
   | false=>simp [V.lt]
theorem Ajr (ha:ActOk ds ρ nT T a) (ht:tlt (liv H) T) {r:Rs} {u:Value} {w':World} (hr:Aft X ρ H r u w') (d:Option Nat) (n':Nat) (I:List It) (l:List Nat):At X ds nT ⟨Re nT (Ki r.kp T) d r.x,Em H r.W,n',I,l⟩ (a.put d u) w':=by
 obtain ⟨ρ',h1,h2,h3,h4,h5,h6⟩:=hr
 refine ⟨ρ',h3,?_,Ym (A1h h5 (Aty ht)) h4⟩
 refine ActOk.put ⟨ha.sz,ha.df,fun i=>?_⟩ d r.x (.inr h2)
 unfold Rs.keep at h1
 cases hk:r.kp with
 | none =>
   rw [hk] at h1
   rcases ha.t i with e | e
   ·exact .inl e
   ·refine .inr ?_
    show a.tmps[i]?=some (V.den ρ' (Ay T i))
    rw [V.den_ext (n:=liv H) (fun j hj=>h1 j hj rfl) _ (ht i)]; exact e
 | some k =>
   rw [hk] at h1
   rw [Mx]
   cases hq:V.lt k (Ay T i) with
   | false=>exact .inl rfl
   | true =>
     simp only [cond_true]
     rcases ha.t i with e | e
     ·exact .inl e
     ·refine .inr ?_
      rw [V.den_ext (n:=fun j=>liv H j && k j) (fun j hj=>by simp only [bq] at hj; exact h1 j hj.1 hj.2) _ (V.lt_and _ (ht i) hq)]; exact e
theorem Ai2 (hY:YOk P X Y) {s s':St} {o:Oper} {os O:List Ob} (he:Ze P Y nT ops o s=some (s',os)) (hg:Good P s.I (os ++ O)) (hA:At X ds nT s a w) (k:∀ a' w',At X ds nT s' a' w'->Good P s'.I O->XL ρl P ops Q rest a' w'):XL ρl P ops Q (o :: rest) a w:=by
 obtain ⟨ρ,hE,ha,ht⟩:=hA
 unfold Ze at he
 split at he
 ·rename_i I1 os1 hgd
  split at he
  ·rename_i r hr
   cases he
   rw [List.append_assoc] at hg
   obtain ⟨h1,h2⟩:=Xz ha hgd hg
   exact Ah4 h1 (Aer hY hE ha ht hr h2) fun u w' hA'=>k _ _ (Ajr ha ht hA'.1 o.dst _ _ _) hA'.2
  ·cases he
 ·rename_i I1 os1 hgd
  cases he
  obtain ⟨h1,h2⟩:=Xz ha hgd hg
  refine Aqi h1 (k _ _ ⟨ρ,hE,ha.put o.dst (.v undef) (.inr (by rw [V.den])),Ym ht (by simp [V.lt])⟩ h2)
 ·cases he
theorem A7y (hY:YOk P X Y):∀ {l:List Oper} {s s':St} {a:Act} {w:World} {os O:List Ob},A2x P Y nT ops l s=some (s',os)->Good P s.I (os ++ O)->At X ds nT s a w->(∀ a' w',At X ds nT s' a' w'->Good P s'.I O->Q .normal a' w')->XL ρl P ops Q l a w
 | [],s,s',a,w,os,O,he,hg,hA,k=>by cases he; exact L4 (k a w hA hg)
 | o :: l, s, s', a, w, os, O, he, hg, hA, k => by
   rw [A2x] at he
   split at he
   ·rename_i s1 os1 h1
    split at he
    ·rename_i s2 os2 h2
     cases he
     rw [List.append_assoc] at hg
     exact Ai2 hY h1 hg hA fun a' w' hA' hg'=>A7y hY h2 hg' hA' k
    ·cases he
   ·cases he
end
end Go.Proofs.YtfhiggfmkjmeiaaGreat
namespace Go.Proofs.YtfhiggfmkjmeiaaGreat
open Go Go.RowKit
def rdO:Op->Bool
 | .load .. | .indexAddr .. | .slice .. | .call .. | .store .. | .lookup .. | .mapUpdate .. | .sliceToArrayPointer .. | .binOp ..=>true
 | _=>false
def Aie (T:List (Nat × V)) (o:Oper):Bool:=match o.op with
 | .call { callee:=.value f,.. }=>(match evO T f with | .yl _=>true | _=>false)
 | _=>false
def Aif (m:Nat->Bool) (n:Nat):It->Bool
 | .c σ _ pre _ post=>σ.all (Vw.to m) && (List.range (post.length - pre.length)).all fun i=>m (n + i)
 | _=>true
def evY (P:Program) (T:List (Nat × V)) (H:List B) (o:Oper) (I:List It):Option (V × List It × List Ob) :=
 match evQ P T H o I with
 | some r=>some r
 | none=>match evX P T H o I with
   | some r=>some r
   | none=>match (match o.op with | .build t ps=>evB P T t ps | _=>none) with
     | some x=>some (x,I,[])
     | none=>none
def evZ (P:Program) (Y:Option Yd) (T:List (Nat × V)) (H:List B) (n:Nat) (o:Oper) (I:List It):Option Rs :=
 bif Gw (H.drop n) 1 then (match evE P T H n o I with
  | some (x,W,I',os)=>some ⟨x,W,(bif W.any (fun p=>Nat.beq p.1 n) then 1 else 0),I',os,none⟩
  | none=>evC P Y T H n o I) else evC P Y T H n o I
theorem Aes (P:Program) (Y:Option Yd) (T:List (Nat × V)) (H:List B) (n:Nat) (o:Oper) (I:List It):Ahz P Y T H n o I=match evY P T H o I with
    | some (x,I',os)=>some ⟨x,[],0,I',os,none⟩
    | none=>evZ P Y T H n o I:=by
 unfold Ahz evY evZ
 cases evQ P T H o I with
 | some r=>rfl
 | none =>
   cases evX P T H o I with
   | some r=>rfl
   | none =>
     simp only
     have key:∀ (q:Option V) (Z:Option Rs),(match q with | some x=>some (⟨x,[],0,I,[],none⟩:Rs) | none=>Z)=(match (match q with | some x=>some (x,I,([]:List Ob)) | none=>none) with | some (x,I',os)=>some (⟨x,[],0,I',os,none⟩:Rs) | none=>Z):=fun q Z=>by cases q <;> rfl
     exact key _ _
section
variable {P:Program} {T:List (Nat × V)} {H H':List B} {n:Nat} {m:Nat->Bool} {o:Oper} {I:List It} {Y:Option Yd}
theorem Abl (ha:∀ g,m g=true->H'[g]?=H[g]?) {t:TypeId} {x:V} (hx:V.lt m x=true):Abk P H' t x I=Abk P H t x I:=by
 cases x <;> simp only [V.lt] at hx <;> unfold Abk <;> first | rfl | (simp only [ha _ hx])
theorem Abj (ha:∀ g,m g=true->H'[g]?=H[g]?) {t:TypeId} {c:Bool} {x y:V} (hx:V.lt m x=true):Abi P H' t c x y I=Abi P H t c x y I:=by
 cases x <;> simp only [V.lt] at hx <;> first | rfl | skip
 all_goals (cases y <;> first | rfl | skip)
 all_goals (rename_i v; cases v <;> first | rfl | (simp only [Abi,Zo,ha _ hx]))
theorem A81 (ha:∀ g,m g=true->H'[g]?=H[g]?) {t:TypeId} {x:V} {lo hi:Option V} (hx:V.lt m x=true):A2y P H' t x lo hi I=A2y P H t x lo hi I:=by
 cases x <;> simp only [V.lt] at hx <;> first | rfl | skip
 all_goals (cases I with | nil=>rfl | cons a I=>cases a <;> first | rfl | (simp only [A2y,ha _ hx]))
theorem Abp (ha:∀ g,m g=true->H'[g]?=H[g]?) {t:TypeId} {p:V} {cs:Option (List V)} (hx:V.lt m p=true):A80 P H' t p cs I=A80 P H t p cs I:=by
 unfold A80
 cases cs with
 | none=>rfl
 | some cs =>
   cases Oq P t with
   | none=>rfl
   | some n =>
     simp only
     cases (Nat.beq (V.ws cs) n && Nat.blt 0 n) with
     | false=>rfl
     | true =>
       simp only [cond_true]
       cases p <;> simp only [V.lt] at hx <;> first | rfl | (simp only [ha _ hx])
theorem Ww (ha:∀ g,m g=true->H'[g]?=H[g]?) {s:Nat} {y:V} (hx:V.lt m y=true):Zd H' s y=Zd H s y:=by
 cases y <;> simp only [V.lt] at hx <;> first | rfl | (simp only [Zd,ha _ hx]; done) | skip
 rename_i v
 cases v <;> first | rfl | skip
 rename_i a n c
 cases a <;> rfl
theorem Abf (ha:∀ g,m g=true->H'[g]?=H[g]?) {t:TypeId} {x y:V} (hx:V.lt m x=true) (hy:V.lt m y=true):Ahr P H' n t x y I=Ahr P H n t x y I:=by
 have h1:∀ {g:Nat},m g=true->A0u H' g=A0u H g:=fun hg=>by simp only [A0u,ha _ hg]
 unfold Ahr
 simp only [Ww ha hy]
 split <;> try rfl
 split <;> try rfl
 congr 1
 split <;> try rfl
 cases x <;> simp only [V.lt] at hx <;> first | rfl | (simp only [h1 hx]; done) | (simp only [ha _ hx]; done) | skip
 rename_i v
 cases v <;> first | rfl | skip
 rename_i a n c
 cases a <;> rfl
theorem Ai1 (ha:∀ g,m g=true->H'[g]?=H[g]?) (hm:rdO o.op=true->tlt m T):evQ P T H' o I=evQ P T H o I:=by
 unfold evQ
 split
 all_goals (try rfl)
 ·rename_i ho; rw [ho] at hm; exact Abl ha (Gv (hm rfl) _)
 ·rename_i ho; rw [ho] at hm; exact Abj ha (Gv (hm rfl) _)
 ·rename_i xs ts ho
  rw [ho] at hm
  split
  ·rename_i x t hx ht
   have hv:=Gv (hm rfl) x
   cases hb:(Nat.beq xs.size 1 && Nat.beq ts.size 1) with
   | false=>rfl
   | true =>
     simp only [cond_true]
     generalize evO T x=y at hv ⊢
     cases K3 P t <;> cases y <;> simp only [V.lt] at hv <;> first | rfl | (simp only [ha _ hv])
  ·rfl
theorem A4z (ha:∀ g,m g=true->H'[g]?=H[g]?) {op:BinOp} {t:TypeId} {x y:V} (hx:V.lt m x=true):Qc P H' op t x y=Qc P H op t x y:=by
 have e:Xm H' x=Xm H x:=by
  cases x <;> simp only [V.lt] at hx <;> first | rfl | (simp only [Xm,ha _ hx]; done) | skip
  rename_i v
  cases v <;> first | rfl | skip
  rename_i a n c
  cases a <;> rfl
 unfold Qc
 rw [e]
theorem Ai3 (ha:∀ g,m g=true->H'[g]?=H[g]?) (hm:rdO o.op=true->tlt m T):evX P T H' o I=evX P T H o I:=by
 unfold evX
 split
 all_goals (try rfl)
 ·rename_i op t x y _ ho
  rw [ho] at hm
  rw [A4z ha (Gv (hm rfl) x)]
 ·rename_i t x lo hi mx ho
  rw [ho] at hm
  split
  ·rw [A81 ha (Gv (hm rfl) x)]; rfl
  ·rfl
 ·rename_i t x ho
  rw [ho] at hm
  have hx:=Gv (hm rfl) x
  generalize evO T x=y at hx ⊢
  cases y <;> simp only [V.lt] at hx <;> first | rfl | (simp only [Alp,ha _ hx]; done)
 ·rename_i t x k c ho
  rw [ho] at hm
  have hx:=Gv (hm rfl) x
  have e:Abm P H' t (evO T x) (evO T k)=Abm P H t (evO T x) (evO T k):=by
   generalize evO T x=y at hx ⊢
   cases y <;> simp only [V.lt] at hx <;> first | rfl | (simp only [Abm,ha _ hx]; done)
  rw [e]
theorem Ai4 (ha:∀ g,m g=true->H'[g]?=H[g]?) (hm:rdO o.op=true->tlt m T):evY P T H' o I=evY P T H o I:=by
 unfold evY
 rw [Ai1 ha hm,Ai3 ha hm]
theorem Abg (ha:∀ g,m g=true->H'[g]?=H[g]?) {t:TypeId} {x y:V} (hx:V.lt m x=true) (hy:V.lt m y=true):Ahs P H' t x y I=Ahs P H t x y I:=by
 unfold Ahs
 cases hk:Ats x with
 | none=>rfl
 | some p =>
   obtain ⟨g,o,s,n⟩:=p
   have hg:m g=true:=by
    unfold Ats at hk
    split at hk <;> cases hk <;> simpa [V.lt] using hx
   simp only [ha _ hg,Ww ha hy]
theorem Ahw (ha:∀ g,m g=true->H'[g]?=H[g]?) (hm:rdO o.op=true->tlt m T):evE P T H' n o I=evE P T H n o I:=by
 unfold evE
 split
 all_goals (try rfl)
 ·rename_i ho; rw [ho] at hm; exact Abp ha (Gv (hm rfl) _)
 ·rename_i ho
  rw [ho] at hm
  split
  ·rw [Abf ha (Gv (hm rfl) _) (Gv (hm rfl) _)]
  ·rfl
 ·rename_i ho
  rw [ho] at hm
  split
  ·rw [Abg ha (Gv (hm rfl) _) (Gv (hm rfl) _)]
  ·rfl
 ·rename_i t m' k v ho
  rw [ho] at hm
  have hx:=Gv (hm rfl) m'
  generalize evO T m'=y at hx ⊢
  cases y <;> simp only [V.lt] at hx <;> first | rfl | (simp only [ha _ hx]; done)
theorem A31:∀ {H:List B} {c:Nat},(∀ i,i < c->H[i]?=some .free)->Gw H c=true
 | _,0,_=>by unfold Gw; rfl
 | [],c + 1,h=>by have:=h 0 (by omega); cases this
 | b :: H,c + 1,h=>by
   have h0:=h 0 (by omega)
   simp only [List.getElem?_cons_zero,Option.some.injEq] at h0
   subst h0
   rw [Gw]
   exact A31 fun i hi=>by have:=h (i + 1) (by omega); simpa using this
theorem U5 (ha:∀ g,m g=true->H'[g]?=H[g]?) {c:Nat} (hc:∀ i,i < c->m (n + i)=true) (h:Gw (H.drop n) c=true):Gw (H'.drop n) c=true :=
 A31 fun i hi=>by rw [List.getElem?_drop,ha _ (hc i hi),← List.getElem?_drop]; exact P2 h hi
theorem Ap3 {σ:List Vw} (h:σ.all (Vw.to m)=true) (i:Nat):(sg0 σ i).to m=true:=by
 unfold sg0
 cases hi:σ[i]? with
 | none=>rfl
 | some x=>exact (List.all_eq_true.1 h) x (List.mem_of_getElem? hi)
theorem Ai7 (ha:∀ g,m g=true->H'[g]?=H[g]?) {x:Vw} (hx:x.to m=true):fd1 H' x=fd1 H x:=by
 cases x <;> simp only [Vw.to] at hx <;> unfold fd1 <;> first | rfl | (simp only [ha _ hx])
theorem X5 (ha:∀ g,m g=true->H'[g]?=H[g]?) {σ:List Vw} (h:σ.all (Vw.to m)=true):∀ (bs:List B) (i:Nat),Nc H' σ bs i=Nc H σ bs i
 | [],_=>rfl
 | b :: bs,i=>by rw [Nc,Nc,X5 ha h bs,Ai7 ha (Ap3 h i)]
theorem Un (ha:∀ g,m g=true->H'[g]?=H[g]?) {σ:List Vw} (h:σ.all (Vw.to m)=true):∀ (bs:List B) (i:Nat),Pe H' σ bs i=Pe H σ bs i
 | [],_=>rfl
 | b :: bs,i=>by
   rw [Pe,Pe,Un ha h bs]
   have:=Ap3 h i
   cases hq:sg0 σ i with
   | id j=>rw [hq] at this; simp only [Vw.to] at this; simp only [ha j this]
   | _=>rfl
theorem Xg {σ:List Vw} {pre:List B}:∀ {H:List B} {i:Nat},(∀ (j:Nat) b,H[j]?=some b->A0t σ pre 0 (i + j)=true ∨ b.lt (W6 σ pre)=true)->Mt σ pre H i=true
 | [],i,h=>rfl
 | c :: H,i,h=>by
   rw [Mt,bq,Bool.or_eq_true]
   refine ⟨h 0 c rfl,Xg fun j b hb=>?_⟩
   have:=h (j + 1) b (by simpa using hb)
   rwa [show i + (j + 1)=i + 1 + j by omega] at this
theorem A2v (hy:Aie T o=true->H'=H) (hl:H'.length=H.length) (ha:∀ g,m g=true->H'[g]?=H[g]?) (hJ:I.all (Aif m n)=true) {r:Rs} (ho:∀ f,r.kp=some f->∀ (j:Nat) b,H'[j]?=some b->H[j]?=some b ∨ b.lt f=true)
   (he:evC P Y T H n o I=some r):evC P Y T H' n o I=some r:=by
 unfold evC at he ⊢
 split at he
 ·rename_i f xs ats hop
  split at he
  ·rename_i g hf
   rw [hy (by unfold Aie; rw [hop]; simp only [hf])]
   exact he
  ·rename_i fid b cp σ args pre res post I' hf
   simp only [List.all_cons,bq,Aif] at hJ
   obtain ⟨⟨hσ,hn⟩,_⟩:=hJ
   cases hb:(Jl P fid && xs.all (fun x=>(evO T x).nz) && Pz H n σ args pre res post) with
   | false=>rw [hb] at he; cases he
   | true =>
     rw [hb] at he
     simp only [cond_true,Option.some.injEq] at he
     have hb' : (Jl P fid && xs.all (fun x => (evO T x).nz) && Pz H' n σ args pre res post) = true := by
      simp only [bq] at hb ⊢
      refine ⟨hb.1,?_⟩
      have h2:=hb.2
      simp only [Pz,bq] at h2 ⊢
      obtain ⟨⟨⟨⟨⟨⟨⟨⟨⟨⟨c1,c2⟩,c3⟩,c4⟩,c5⟩,c6⟩,c7⟩,c8⟩,c9⟩,c10⟩,c11⟩:=h2
      refine ⟨⟨⟨⟨⟨⟨⟨⟨⟨⟨c1,by rw [hl]; exact c2⟩,by rw [Un ha hσ]; exact c3⟩,c4⟩,c5⟩,c6⟩,c7⟩,c8⟩,c9⟩,?_⟩,?_⟩
      ·exact U5 ha (fun i hi=>(List.all_eq_true.1 hn) i (List.mem_range.2 hi)) c10
      ·cases hany:pre.any B.isRow with
       | false=>rfl
       | true =>
         rw [hany] at c11
         simp only [cond_true] at c11 ⊢
         refine Xg fun j b' hj=>?_
         have hk:r.kp=some (W6 σ pre):=by rw [← he,hany]; rfl
         rcases ho _ hk j b' hj with h3 | h3
         ·cases hq:A0t σ pre 0 (0 + j) with
          | true=>exact .inl rfl
          | false=>exact .inr (Pd c11 h3 hq)
         ·exact .inr h3
     rw [hb',X5 ha hσ]
     simp only [cond_true,Option.some.injEq]
     exact he
  ·cases he
 ·cases he
theorem Ai5 (hy:Aie T o=true->H'=H) (hl:H'.length=H.length) (ha:∀ g,m g=true->H'[g]?=H[g]?) (hm:rdO o.op=true->tlt m T) (hn:m n=true) (hJ:I.all (Aif m n)=true) {r:Rs} (ho:∀ f,r.kp=some f->∀ (j:Nat) b,H'[j]?=some b->H[j]?=some b ∨ b.lt f=true)
   (he:evZ P Y T H n o I=some r):evZ P Y T H' n o I=some r:=by
 have hfr:Gw (H'.drop n) 1=Gw (H.drop n) 1:=by
  have h1:∀ {A C:List B},(∀ g,m g=true->C[g]?=A[g]?)->Gw (A.drop n) 1=true->Gw (C.drop n) 1=true:=fun hac h=>U5 hac (fun i hi=>by rw [show n + i=n by omega]; exact hn) h
  cases ha1:Gw (H.drop n) 1 with
  | true=>exact h1 ha ha1
  | false =>
    cases hb1:Gw (H'.drop n) 1 with
    | false=>rfl
    | true=>rw [h1 (fun g hg=>(ha g hg).symm) hb1] at ha1; cases ha1
 unfold evZ at he ⊢
 rw [hfr,Ahw ha hm]
 cases hq:Gw (H.drop n) 1 with
 | false =>
   rw [hq] at he
   simp only [cond_false] at he ⊢
   exact A2v hy hl ha hJ ho he
 | true =>
   rw [hq] at he
   simp only [cond_true] at he ⊢
   cases hE:evE P T H n o I with
   | some y=>rw [hE] at he; exact he
   | none =>
     rw [hE] at he
     exact A2v hy hl ha hJ ho he
end
end Go.Proofs.YtfhiggfmkjmeiaaGreat
namespace Go.Proofs.YtfhiggfmkjmeiaaGreat
open Go Go.RowKit
structure Dn:Type 1 where
 o:Oper
 J:List It
 n:Nat
 u:List V
 H:List B
 r:Rs
 q:Bool
 bm:Nat
def evD (P:Program) (Y:Option Yd) (ops:Array Oper) (o:Oper) (J:List It) (n:Nat) (u:List V) (H:List B):Option (Rs × Bool) :=
 match Ahx ops ((o.looksAt ops).zip u) o J with
 | some (true,J1,os1)=>match evY P ((o.looksAt ops).zip u) H o J1 with
   | some (x,I',os)=>some (⟨x,[],0,I',os1 ++ os,none⟩,true)
   | none=>match evZ P Y ((o.looksAt ops).zip u) H n o J1 with
     | some r=>some (⟨r.x,r.W,r.c,r.I,os1 ++ r.os,r.kp⟩,false)
     | none=>none
 | some (false,J1,os1)=>some (⟨.v undef,[],0,J1,os1,none⟩,true)
 | none=>none
def msk (ms:List Nat) (o:Oper):Nat :=
 o.after.toList.foldl (fun s e=>bif Region.binds .any e then s ||| (2 ^ e.on ||| ms.getD e.on 0) else s) 0
def Ahv (P:Program) (Y:Option Yd) (nT:Nat) (ops:Array Oper):List Oper->Nat->List Nat->St->Option (List Dn × St × List Ob)
 | [],k,ms,s=>some ([],s,[])
 | o :: l, k, ms, s => match evD P Y ops o s.I s.n ((o.looksAt ops).map (Ay s.T)) s.H with
   | some (r0,_)=>match evD P Y ops o (s.I.take (s.I.length - r0.I.length)) s.n ((o.looksAt ops).map (Ay s.T)) s.H with
     | some (r,q)=>bif r.I.isEmpty && Nat.beq r.os.length (s.I.length - r0.I.length) && ((o.looksAt ops).map (Ay s.T)).all V.nz && N1 o && (o.after.toList.all fun e=>!Region.binds .any e || Nat.blt e.on k) then
      match Ahv P Y nT ops l (k + 1) (ms ++ [msk ms o]) ⟨Re nT (Ki r.kp s.T) o.dst r.x,Em s.H r.W,(bif q then s.n else s.n + max 1 r.c),s.I.drop (s.I.length - r0.I.length),r.W.map (·.1) ++ s.L⟩ with
      | some (D,s',os)=>some (⟨o,s.I.take (s.I.length - r0.I.length),s.n,(o.looksAt ops).map (Ay s.T),s.H,r,q,msk ms o⟩ :: D,s',r.os ++ os)
      | none=>none
       else none
     | none=>none
   | none=>none
def Rf (i mk:Nat):List Dn->Nat->List Dn
 | [],_=>[]
 | k :: D,j=>bif (bif Nat.blt j i then !mk.testBit j else bif Nat.blt i j then !k.bm.testBit i else false) then k :: Rf i mk D (j + 1) else Rf i mk D (j + 1)
def Ajp (ops:Array Oper) (d k:Dn):Bool:=match k.o.dst with | some t=>!(d.o.looksAt ops).contains t && !(d.o.dst == some t) | none=>true
def B05 (d k:Dn):Bool :=
 (match k.r.kp with | none=>true | some f=>V.lts f d.u && V.lt f d.r.x) &&
 (match d.r.kp with | none=>true | some f=>k.r.W.all fun p=>p.2.lt f && (match k.H[p.1]? with | some b=>b.lt f | none=>true))
def Aub (ops:Array Oper) (d:Dn) (un:List Dn) (bad:List (Nat × B)):Bool :=
 un.all (fun k=>Ajp ops d k && B05 d k) && (!rdO d.o.op || V.lts (fun g=>(look g bad).isNone) d.u) && (d.q || ((look d.n bad).isNone && d.J.all (Aif (fun g=>(look g bad).isNone) d.n))) && (d.r.W.all fun p=>(look p.1 bad).isNone) && (!Aie ((d.o.looksAt ops).zip d.u) d.o || un.isEmpty)
def Adz (ops:Array Oper) (d:Dn) (un:List Dn):Bool:=Aub ops d un (un.flatMap fun k=>k.r.W)
def N8 (ops:Array Oper) (D:List Dn):List Dn->Nat->Bool
 | [],_=>true
 | d :: l,i=>Adz ops d (Rf i d.bm D 0) && N8 ops D l (i + 1)
def Zc (P:Program) (Y:Option Yd) (nT:Nat) (ops:Array Oper) (s:St):Option (St × List Ob) :=
 bif P.follows .mixedOrders then match Ahv P Y nT ops ops.toList 0 [] s with
  | some (D,s',os)=>bif N8 ops D D 0 then some (s',os) else none
  | none=>none
 else none
structure FS:Type 1 where
 τ:Nat->V
 H:List B
def K0 (nT:Nat) (dst:Option Nat) (t:Nat):Bool:=match dst with | some d=>Nat.blt d nT && Nat.beq t d | none=>false
def O4 (kp:Option (Nat->Bool)) (x:V):V:=match kp with | none=>x | some k=>bif V.lt k x then x else .z
def Dn.eff (nT:Nat) (d:Dn) (s:FS):FS:=⟨fun t=>bif K0 nT d.o.dst t then d.r.x else O4 d.r.kp (s.τ t),Em s.H d.r.W⟩
theorem A1g {nT:Nat} {kp:Option (Nat->Bool)} {T:List (Nat × V)} {d:Option Nat} {x:V} (t:Nat):Ay (Re nT (Ki kp T) d x) t=bif K0 nT d t then x else O4 kp (Ay T t):=by
 have h0:Ay (Ki kp T) t=O4 kp (Ay T t):=by
  cases kp with
  | none=>rfl
  | some k=>rw [Mx]; rfl
 unfold Re K0
 cases d with
 | none=>exact h0
 | some d =>
   cases hd:Nat.blt d nT with
   | false=>simpa only [hd,cond_false,Bool.false_and] using h0
   | true =>
     simp only [hd,cond_true,Bool.true_and]
     rw [Ay]
     cases Nat.beq t d with
     | true=>rfl
     | false=>exact h0
def Gs (nT:Nat) (L:Nat->Bool):List Dn->Nat->FS->FS
 | [],_,s=>s
 | k :: D,j,s=>Gs nT L D (j + 1) (bif L j then k.eff nT s else s)
def Chain (P:Program) (Y:Option Yd) (nT:Nat) (ops:Array Oper):List Dn->FS->Prop
 | [],_=>True
 | d :: D,s=>(d.u=(d.o.looksAt ops).map s.τ/\d.H=s.H/\evD P Y ops d.o d.J d.n d.u d.H=some (d.r,d.q)/\d.r.I=[]/\d.u.all V.nz=true/\N1 d.o=true)/\Chain P Y nT ops D (d.eff nT s)
section
variable {P:Program} {nT:Nat} {ops:Array Oper} {L:Nat->Bool} {Y:Option Yd}
theorem Uw:∀ (A C:List Dn) (j:Nat) (s:FS),Gs nT L (A ++ C) j s=Gs nT L C (j + A.length) (Gs nT L A j s)
 | [],C,j,s=>rfl
 | k :: A,C,j,s=>by rw [List.cons_append,Gs,Gs,Uw A C,List.length_cons,show j + 1 + A.length=j + (A.length + 1) by omega]
theorem Ol {L':Nat->Bool}:∀ (A:List Dn) (j:Nat) (s:FS),(∀ q,q < A.length->L (j + q)=L' (j + q))->Gs nT L A j s=Gs nT L' A j s
 | [],j,s,h=>rfl
 | k :: A,j,s,h=>by
   rw [Gs,Gs]
   have h0:=h 0 (by simp)
   rw [Nat.add_zero] at h0
   rw [h0]
   exact Ol A (j + 1) _ fun q hq=>by have:=h (q + 1) (by simp; omega); rwa [show j + (q + 1)=j + 1 + q by omega] at this
theorem Mq {j:Nat} {b:B}:∀ {W:List (Nat × B)},look j W=some b->(j,b) ∈ W
 | (g,c) :: W,h=>by
   rw [look] at h
   cases hb:Nat.beq g j with
   | true =>
     rw [hb] at h
     cases h
     rw [Nat.eq_of_beq_eq_true hb]
     simp
   | false =>
     rw [hb] at h
     exact List.mem_cons_of_mem _ (Mq h)
theorem A3a {g:Nat}:∀ {un:List Dn},look g (un.flatMap fun k=>k.r.W)=none->∀ k ∈ un,look g k.r.W=none
 | [],_,k,hk=>by cases hk
 | x :: un, h, k, hk => by
   rw [List.flatMap_cons,Ud] at h
   cases hq:look g x.r.W with
   | some b=>rw [hq] at h; cases h
   | none =>
     rw [hq] at h
     rcases List.mem_cons.1 hk with rfl | hk
     ·exact hq
     ·exact A3a h k hk
structure Calm (ops:Array Oper) (d k:Dn) (m:Nat->Bool):Prop where
 ds:∀ t,k.o.dst=some t->t ∉ d.o.looksAt ops/\d.o.dst ≠ some t
 m:∀ g,m g=true->look g k.r.W=none
 k1:∀ f,k.r.kp=some f->V.lts f d.u=true/\V.lt f d.r.x=true
 k2:∀ f,d.r.kp=some f->∀ p ∈ k.r.W,p.2.lt f=true/\∀ b,k.H[p.1]?=some b->b.lt f=true
structure CalmD (ops:Array Oper) (d:Dn) (un:List Dn) (m:Nat->Bool):Prop where
 all:∀ k ∈ un,Calm ops d k m
 rd:rdO d.o.op=true->V.lts m d.u=true
 it:d.q=true ∨ (m d.n=true/\d.J.all (Aif m d.n)=true)
 W:∀ p ∈ d.r.W,m p.1=true
 yl:Aie ((d.o.looksAt ops).zip d.u) d.o=true->∀ g,m g=true
theorem Z2 {d:Dn} {un:List Dn} (h:Adz ops d un=true):CalmD ops d un fun g=>(look g (un.flatMap fun k=>k.r.W)).isNone:=by
 unfold Adz Aub at h
 simp only [bq] at h
 obtain ⟨⟨⟨⟨h1,h2⟩,h3⟩,h4⟩,h5⟩:=h
 refine ⟨fun k hk=>?_,fun hr=>?_,?_,fun p hp=>(List.all_eq_true.1 h4) p hp,fun hy g=>by rw [hy] at h5; simp at h5; subst h5; rfl⟩
 ·have:=(List.all_eq_true.1 h1) k hk
  simp only [B05,bq] at this
  obtain ⟨a1,a2,a3⟩:=this
  refine ⟨fun t ht=>?_,fun g hg=>A3a (Option.isNone_iff_eq_none.1 hg) k hk,fun f hf=>?_,fun f hf p hp=>?_⟩
  ·unfold Ajp at a1
   rw [ht] at a1
   simp only [bq,Bool.not_eq_true',List.contains_eq_mem,decide_eq_false_iff_not,beq_eq_false_iff_ne,ne_eq] at a1
   exact a1
  ·rw [hf] at a2; simpa using a2
  ·rw [hf] at a3
   have:=(List.all_eq_true.1 a3) p hp
   simp only [bq] at this
   refine ⟨this.1,fun b hb=>?_⟩
   have h5:=this.2
   rw [hb] at h5
   exact h5
 ·rw [hr] at h2; simpa using h2
 ·simp only [Bool.or_eq_true,bq] at h3; exact h3
structure Rel (us:List Nat) (m:Nat->Bool) (fo:Option (Nat->Bool)) (F G:FS):Prop where
 t:∀ t ∈ us,F.τ t=.z ∨ F.τ t=G.τ t
 l:G.H.length=F.H.length
 h:∀ g,m g=true->G.H[g]?=F.H[g]?
 k:∀ f,fo=some f->∀ (j:Nat) b,G.H[j]?=some b->F.H[j]?=some b ∨ b.lt f=true
theorem Oz (d:Dn) (s:FS) (j:Nat):(d.eff nT s).H[j]?=s.H[j]?.map fun b=>(look j d.r.W).getD b:=Eu j _ _
theorem Xx (d:Dn) (s:FS):(d.eff nT s).H.length=s.H.length:=V2 _ _
theorem Zl {kp:Option (Nat->Bool)}:O4 kp .z=.z:=by cases kp <;> simp [O4]
theorem Y1 (kp:Option (Nat->Bool)) (x:V):O4 kp x=.z ∨ O4 kp x=x:=by
 cases kp with
 | none=>exact .inr rfl
 | some k=>unfold O4; cases hb:V.lt k x <;> simp [hb]
theorem A54 {kp:Option (Nat->Bool)} {x:V} (h:∀ f,kp=some f->V.lt f x=true):O4 kp x=x:=by
 cases kp with
 | none=>rfl
 | some k=>unfold O4; simp only [h k rfl,cond_true]
theorem U6 {dst:Option Nat} {t:Nat} (h:K0 nT dst t=true):dst=some t:=by
 unfold K0 at h
 cases dst with
 | none=>cases h
 | some d=>simp only [bq] at h; rw [Nat.eq_of_beq_eq_true h.2]
variable {us:List Nat} {m:Nat->Bool} {fo:Option (Nat->Bool)} {F G:FS}
theorem Rel.both (h:Rel us m fo F G) (k:Dn):Rel us m fo (k.eff nT F) (k.eff nT G):=by
 refine ⟨fun t ht=>?_,by rw [Xx,Xx]; exact h.l,fun g hg=>by rw [Oz,Oz,h.h g hg],fun f hf j b hb=>?_⟩
 ·show (bif K0 nT k.o.dst t then k.r.x else O4 k.r.kp (F.τ t))=.z ∨ (bif K0 nT k.o.dst t then k.r.x else O4 k.r.kp (F.τ t))=(bif K0 nT k.o.dst t then k.r.x else O4 k.r.kp (G.τ t))
  cases K0 nT k.o.dst t with
  | true=>exact .inr rfl
  | false =>
    simp only [cond_false]
    rcases h.t t ht with e | e
    ·exact .inl (by rw [e,Zl])
    ·exact .inr (by rw [e])
 ·rw [Oz] at hb ⊢
  cases hG:G.H[j]? with
  | none=>rw [hG] at hb; cases hb
  | some b0 =>
    rw [hG] at hb
    simp only [Option.map_some,Option.some.injEq] at hb
    have hj:j < F.H.length:=by rw [← h.l]; exact (List.getElem?_eq_some_iff.1 hG).1
    cases hl:look j k.r.W with
    | some b' =>
      rw [hl] at hb
      refine .inl ?_
      rw [List.getElem?_eq_getElem hj]
      exact congrArg some hb
    | none =>
      rw [hl] at hb
      simp only [Option.getD_none] at hb
      subst hb
      rcases h.k f hf j b0 hG with h1 | h1
      ·exact .inl (by rw [h1]; rfl)
      ·exact .inr h1
theorem Rel.left {d k:Dn} (h:Rel (d.o.looksAt ops) m d.r.kp F G) (c:Calm ops d k m) (hk:k.H=F.H):Rel (d.o.looksAt ops) m d.r.kp (k.eff nT F) G:=by
 refine ⟨fun t ht=>?_,by rw [Xx]; exact h.l,fun g hg=>?_,fun f hf j b hb=>?_⟩
 ·show (bif K0 nT k.o.dst t then k.r.x else O4 k.r.kp (F.τ t))=.z ∨ (bif K0 nT k.o.dst t then k.r.x else O4 k.r.kp (F.τ t))=G.τ t
  cases hh:K0 nT k.o.dst t with
  | true=>exact absurd ht (c.ds t (U6 hh)).1
  | false =>
    simp only [cond_false]
    rcases Y1 k.r.kp (F.τ t) with e | e
    ·exact .inl e
    ·rw [e]; exact h.t t ht
 ·rw [Oz,c.m g hg,h.h g hg]; cases F.H[g]? <;> rfl
 ·rw [Oz]
  rcases h.k f hf j b hb with h1 | h1
  ·rw [h1]
   cases hl:look j k.r.W with
   | none=>exact .inl rfl
   | some b'=>exact .inr ((c.k2 f hf _ (Mq hl)).2 b (by rw [hk]; exact h1))
  ·exact .inr h1
structure RelS (d:Dn) (us:List Nat) (m:Nat->Bool) (fo:Option (Nat->Bool)) (G:FS):Prop where
 t:us.map G.τ=d.u
 l:G.H.length=d.H.length
 h:∀ g,m g=true->G.H[g]?=d.H[g]?
 k:∀ f,fo=some f->∀ (j:Nat) b,G.H[j]?=some b->d.H[j]?=some b ∨ b.lt f=true
theorem RelS.right {d k:Dn} (h:RelS d (d.o.looksAt ops) m d.r.kp G) (c:Calm ops d k m):RelS d (d.o.looksAt ops) m d.r.kp (k.eff nT G):=by
 refine ⟨?_,by rw [Xx]; exact h.l,fun g hg=>?_,fun f hf j b hb=>?_⟩
 ·rw [← h.t]
  refine List.map_congr_left fun t ht=>?_
  show (bif K0 nT k.o.dst t then k.r.x else O4 k.r.kp (G.τ t))=G.τ t
  cases hh:K0 nT k.o.dst t with
  | true=>exact absurd ht (c.ds t (U6 hh)).1
  | false =>
    simp only [cond_false]
    refine A54 fun f hf=>(V.lts_iff.1 (c.k1 f hf).1) _ ?_
    rw [← h.t]
    exact List.mem_map_of_mem ht
 ·rw [Oz,c.m g hg,← h.h g hg]; cases G.H[g]? <;> rfl
 ·rw [Oz] at hb
  cases hG:G.H[j]? with
  | none=>rw [hG] at hb; cases hb
  | some b0 =>
    rw [hG] at hb
    simp only [Option.map_some,Option.some.injEq] at hb
    cases hl:look j k.r.W with
    | some b' =>
      rw [hl] at hb
      cases hb
      exact .inr (c.k2 f hf _ (Mq hl)).1
    | none =>
      rw [hl] at hb
      cases hb
      exact h.k f hf j b0 hG
theorem A11 {d:Dn}:∀ (A C:List Dn) (j:Nat) (F G:FS),Chain P Y nT ops (A ++ C) F->(∀ (q:Nat) k,A[q]?=some k->L (j + q)=false->Calm ops d k m)->Rel (d.o.looksAt ops) m d.r.kp F G ->
   Rel (d.o.looksAt ops) m d.r.kp (Gs nT (fun _=>true) A j F) (Gs nT L A j G)
 | [],C,j,F,G,hc,h,hr=>hr
 | k :: A,C,j,F,G,hc,h,hr=>by
   rw [Gs,Gs]
   obtain ⟨⟨h1,h2,_⟩,hc'⟩:=hc
   refine A11 A C (j + 1) _ _ hc' (fun q k' hq hL=>h (q + 1) k' (by simpa using hq) (by rwa [show j + (q + 1)=j + 1 + q by omega])) ?_
   simp only [cond_true]
   cases hL:L j with
   | true=>exact hr.both k
   | false=>exact hr.left (h 0 k rfl hL) h2
theorem A12 {d:Dn}:∀ (C:List Dn) (j:Nat) (G:FS),(∀ (q:Nat) k,C[q]?=some k->L (j + q)=true->Calm ops d k m)->RelS d (d.o.looksAt ops) m d.r.kp G->RelS d (d.o.looksAt ops) m d.r.kp (Gs nT L C j G)
 | [],j,G,h,hr=>hr
 | k :: C,j,G,h,hr=>by
   rw [Gs]
   refine A12 C (j + 1) _ (fun q k' hq hL=>h (q + 1) k' (by simpa using hq) (by rwa [show j + (q + 1)=j + 1 + q by omega])) ?_
   cases hL:L j with
   | true=>exact hr.right (h 0 k rfl hL)
   | false=>exact hr
theorem Chain.at:∀ (A:List Dn) {C:List Dn} {d:Dn} {s:FS} (j:Nat),Chain P Y nT ops (A ++ d :: C) s->Chain P Y nT ops (d :: C) (Gs nT (fun _=>true) A j s)
 | [],C,d,s,j,h=>h
 | k :: A,C,d,s,j,h=>by rw [Gs]; exact Chain.at A (j + 1) h.2
theorem As7 {A C:List Dn} {d:Dn} {s:FS} (hc:Chain P Y nT ops (A ++ d :: C) s) (hL:L A.length=false)
   (h1:∀ (q:Nat) k,A[q]?=some k->L q=false->Calm ops d k m) (h2:∀ (q:Nat) k,C[q]?=some k->L (A.length + 1 + q)=true->Calm ops d k m) :
   RelS d (d.o.looksAt ops) m d.r.kp (Gs nT L (A ++ d :: C) 0 s):=by
 have hd:=(Chain.at A 0 hc).1
 rw [Uw,Gs,Nat.zero_add,hL]
 refine A12 C _ _ h2 ?_
 have hr:=A11 (L:=L) (m:=m) (d:=d) A (d :: C) 0 s s hc (fun q k hq hl=>h1 q k hq (by rwa [Nat.zero_add] at hl)) ⟨fun _ _=>.inr rfl,rfl,fun _ _=>rfl,fun _ _ _ _ h=>.inl h⟩
 simp only [cond_false]
 refine ⟨?_,by rw [hd.2.1]; exact hr.l,fun g hg=>by rw [hd.2.1]; exact hr.h g hg,fun f hf j b hb=>by rw [hd.2.1]; exact hr.k f hf j b hb⟩
 rw [hd.1]
 refine List.map_congr_left fun t ht=>?_
 rcases hr.t t ht with e | e
 ·have hz:=hd.2.2.2.2.1
  rw [hd.1] at hz
  have:=(List.all_eq_true.1 hz) _ (List.mem_map_of_mem ht)
  rw [e] at this; cases this
 ·exact e.symm
theorem Aj4 {H A C:List (Nat × B)} {S:List B} (h:∀ j,look j A=none ∨ look j C=none):Em (Em S A) C=Em (Em S C) A:=by
 apply List.ext_getElem?
 intro j
 rw [Eu,Eu,Eu,Eu]
 cases S[j]? with
 | none=>rfl
 | some b =>
   rcases h j with e | e <;> rw [e] <;> rfl
theorem Al8 {d k:Dn} {m':Nat->Bool} (c:Calm ops d k m) (c':Calm ops k d m') (hW:∀ p ∈ d.r.W,m p.1=true) (s:FS):k.eff nT (d.eff nT s)=d.eff nT (k.eff nT s):=by
 unfold Dn.eff
 congr 1
 ·funext t
  show (bif K0 nT k.o.dst t then k.r.x else O4 k.r.kp (bif K0 nT d.o.dst t then d.r.x else O4 d.r.kp (s.τ t)))=(bif K0 nT d.o.dst t then d.r.x else O4 d.r.kp (bif K0 nT k.o.dst t then k.r.x else O4 k.r.kp (s.τ t)))
  have hb:K0 nT k.o.dst t=true->K0 nT d.o.dst t=true->False:=fun e1 e2=>(c.ds t (U6 e1)).2 (U6 e2)
  generalize K0 nT k.o.dst t=a at *
  generalize K0 nT d.o.dst t=b at *
  cases a with
  | true =>
    cases b with
    | true=>exact (hb rfl rfl).elim
    | false =>
      simp only [cond_true,cond_false]
      exact (A54 fun f hf=>(c'.k1 f hf).2).symm
  | false =>
    cases b with
    | true =>
      simp only [cond_true,cond_false]
      exact A54 fun f hf=>(c.k1 f hf).2
    | false =>
      simp only [cond_false]
      rcases Y1 k.r.kp (s.τ t) with e1 | e1 <;> rcases Y1 d.r.kp (s.τ t) with e2 | e2
      ·rw [e1,e2,Zl,Zl]
      ·rw [e1,e2,Zl,e1]
      ·rw [e1,e2,Zl]
      ·rw [e1,e2,e1]
 ·refine Aj4 (H:=[]) fun j=>?_
  cases hl:look j d.r.W with
  | none=>exact .inl rfl
  | some b=>exact .inr (c.m j (hW _ (Mq hl)))
theorem Aa1 {d:Dn} (hW:∀ p ∈ d.r.W,m p.1=true):∀ (C:List Dn) (j:Nat) (s:FS),(∀ (q:Nat) k,C[q]?=some k->L (j + q)=true->Calm ops d k m/\∃ m',Calm ops k d m')->Gs nT L C j (d.eff nT s)=d.eff nT (Gs nT L C j s)
 | [],j,s,h=>rfl
 | k :: C, j, s, h => by
   rw [Gs,Gs]
   have ih:=fun s'=>Aa1 hW C (j + 1) s' (fun q k' hq hL=>h (q + 1) k' (by simpa using hq) (by rwa [show j + (q + 1)=j + 1 + q by omega]))
   cases hL:L j with
   | true =>
     obtain ⟨c,m',c'⟩:=h 0 k rfl hL
     simp only [cond_true]
     rw [Al8 c c' hW,ih]
   | false=>exact ih s
theorem Apm {A C:List Dn} {d:Dn} {s:FS} {L':Nat->Bool} (hW:∀ p ∈ d.r.W,m p.1=true) (hL:L A.length=false) (hL':∀ j,L' j=(L j || Nat.beq j A.length))
   (h2:∀ (q:Nat) k,C[q]?=some k->L (A.length + 1 + q)=true->Calm ops d k m/\∃ m',Calm ops k d m'):Gs nT L' (A ++ d :: C) 0 s=d.eff nT (Gs nT L (A ++ d :: C) 0 s):=by
 rw [Uw,Uw,Gs,Gs,Nat.zero_add,hL,hL',hL]
 simp only [Nat.beq_refl,Bool.or_true,Bool.false_or,cond_true,cond_false]
 rw [← Aa1 hW C _ _ h2,Ol (L:=L') (L':=L) A 0 s fun q hq=>by
  rw [hL',Nat.zero_add]
  have:Nat.beq q A.length=false:=by
   cases hb:Nat.beq q A.length with
   | false=>rfl
   | true=>have:=Nat.eq_of_beq_eq_true hb; omega
  rw [this,Bool.or_false]]
 refine Ol C _ _ fun q hq=>?_
 rw [hL']
 have:Nat.beq (A.length + 1 + q) A.length=false:=by
  cases hb:Nat.beq (A.length + 1 + q) A.length with
  | false=>rfl
  | true=>have:=Nat.eq_of_beq_eq_true hb; omega
 rw [this,Bool.or_false]
end
end Go.Proofs.YtfhiggfmkjmeiaaGreat
namespace Go.Proofs.YtfhiggfmkjmeiaaGreat
open Go Go.RowKit
section
variable {P:Program} {nT:Nat} {ops:Array Oper} {L:Nat->Bool} {X:Ctx} {T:List (Nat × V)} {H H':List B} {a:Act} {w:World} {ρl:Option Nat} {Q:Exit->Act->World->Prop} {ds:List Deferred} {Y:Option Yd}
theorem Ah6 {τ:Nat->V}:∀ (us:List Nat) (t:Nat),Ay (us.zip (us.map τ)) t=.z ∨ Ay (us.zip (us.map τ)) t=τ t
 | [],t=>.inl rfl
 | s :: us,t=>by
   rw [List.map_cons,List.zip_cons_cons,Ay]
   cases hb:Nat.beq t s with
   | true=>rw [Nat.eq_of_beq_eq_true hb]; exact .inr rfl
   | false=>exact Ah6 us t
theorem Adu {m:Nat->Bool}:∀ (us:List Nat) {u:List V},V.lts m u=true->tlt m (us.zip u)
 | [],u,h,i=>by cases u <;> simp [Ay,V.lt]
 | s :: us,[],h,i=>by simp [Ay,V.lt]
 | s :: us,x :: u,h,i=>by
   simp only [V.lts,bq] at h
   rw [List.zip_cons_cons,Ay]
   cases Nat.beq i s with
   | true=>exact h.1
   | false=>exact Adu us h.2 i
theorem Alm {o:Oper} {I I':List It} {b:Bool} {os:List Ob} {f:It->Bool} (h:Ahx ops T o I=some (b,I',os)) (hf:I.all f=true):I'.all f=true:=by
 unfold Ahx at h
 split at h
 ·cases h; exact hf
 ·split at h
  ·split at h
   ·cases h; rw [List.all_cons,bq] at hf; exact hf.2
   ·cases h; exact hf
   ·cases h
  ·cases h
theorem Aht {m:Nat->Bool} {o:Oper} {J:List It} {n:Nat} {u:List V} {r:Rs} {q:Bool} (he:evD P Y ops o J n u H=some (r,q)) (hl:H'.length=H.length) (ha:∀ g,m g=true->H'[g]?=H[g]?)
   (hm:rdO o.op=true->V.lts m u=true) (hq:q=true ∨ (m n=true/\J.all (Aif m n)=true)) (ho:∀ f,r.kp=some f->∀ (j:Nat) b,H'[j]?=some b->H[j]?=some b ∨ b.lt f=true) (hy:Aie ((o.looksAt ops).zip u) o=true->∀ g,m g=true):evD P Y ops o J n u H'=some (r,q):=by
 have hm':rdO o.op=true->tlt m ((o.looksAt ops).zip u):=fun h=>Adu _ (hm h)
 unfold evD at he ⊢
 split at he
 ·rename_i J1 os1 hg
  rw [Ai4 ha hm']
  split at he
  ·exact he
  ·split at he
   ·rename_i r' hz
    simp only [Option.some.injEq,Prod.mk.injEq] at he
    obtain ⟨h1,h2⟩:=he
    rcases hq with h3 | ⟨h3,h4⟩
    ·rw [h3] at h2; cases h2
    ·have:=Ai5 (fun hh=>List.ext_getElem? fun i=>ha i (hy hh i)) hl ha hm' h3 (Alm hg h4) (r:=r') (fun f hf=>ho f (by rw [← h1]; exact hf)) hz
     simp only [this,← h1,h2]
   ·cases he
 ·exact he
 ·cases he
theorem Alj (hY:YOk P X Y) {s:St} (hA:At X ds nT s a w) {o:Oper} {J:List It} {n:Nat} {u:List V} {r:Rs} {q:Bool} (hu:(o.looksAt ops).map (Ay s.T)=u) (he:evD P Y ops o J n u s.H=some (r,q)) (hI:r.I=[]) (hg:Good P J r.os) (hnd:N1 o=true) {K:Act->World->Prop}
   (k:∀ a' w',At X ds nT ⟨Re nT (Ki r.kp s.T) o.dst r.x,Em s.H r.W,s.n,s.I,s.L⟩ a' w'->K a' w'):opS ρl P ops o a w K:=by
 obtain ⟨ρ,hE,hac,ht⟩:=hA
 refine Ait hnd ?_
 have har:ActOk ds ρ nT ((o.looksAt ops).zip u) a:=⟨hac.sz,hac.df,fun i=>by
  rw [← hu]
  rcases Ah6 (τ:=Ay s.T) (o.looksAt ops) i with e | e
  ·exact .inl e
  ·rw [e]; exact hac.t i⟩
 have htr:tlt (liv s.H) ((o.looksAt ops).zip u):=Adu _ (by rw [← hu]; exact V.lts_iff.2 fun x hx=>by obtain ⟨t,_,rfl⟩:=List.mem_map.1 hx; exact ht t)
 unfold evD at he
 split at he
 ·rename_i J1 os1 hgd
  have fin:∀ {r':Rs},Ahz P Y ((o.looksAt ops).zip u) s.H n o J1=some r'->r.x=r'.x->r.W=r'.W->r.kp=r'.kp->r.os=os1 ++ r'.os->XL ρl P ops (Exit.then K noQ) [o] a w:=fun {r'} h1 e1 e2 e3 e4=>by
   rw [e4] at hg
   obtain ⟨g1,g2⟩:=Xz har hgd hg
   refine Ah4 g1 (Aer hY hE har htr h1 (O:=[]) (by rw [List.append_nil]; exact g2)) fun u' w' hA'=>L4 ?_
   refine k _ _ ?_
   rw [e1,e2,e3]
   exact Ajr hac ht hA'.1 o.dst _ _ _
  split at he
  ·rename_i x I' os hy
   simp only [Option.some.injEq,Prod.mk.injEq] at he
   obtain ⟨rfl,-⟩:=he
   exact fin (r':=⟨x,[],0,I',os,none⟩) (by rw [Aes,hy]) rfl rfl rfl rfl
  ·rename_i hy
   split at he
   ·rename_i r' hz
    simp only [Option.some.injEq,Prod.mk.injEq] at he
    obtain ⟨rfl,-⟩:=he
    exact fin (r':=r') (by rw [Aes,hy]; exact hz) rfl rfl rfl rfl
   ·cases he
 ·rename_i J1 os1 hgd
  simp only [Option.some.injEq,Prod.mk.injEq] at he
  obtain ⟨rfl,-⟩:=he
  obtain ⟨g1,g2⟩:=Xz (O:=[]) har hgd (by rw [List.append_nil]; exact hg)
  exact Aqi g1 (L4 (k _ _ ⟨ρ,hE,hac.put o.dst (.v undef) (.inr (by rw [V.den])),Ym ht (by simp [V.lt])⟩))
 ·cases he
theorem Good.split:∀ (os1:List Ob) {I:List It} {O:List Ob},Good P I (os1 ++ O)->Good P (I.take os1.length) os1/\Good P (I.drop os1.length) O
 | [],I,O,h=>⟨.nil,h⟩
 | b :: os1,I,O,h=>by
   rw [List.cons_append] at h
   cases h with
   | t h g=>exact ⟨.t h (Good.split os1 g).1,(Good.split os1 g).2⟩
   | e d h g=>exact ⟨.e d h (Good.split os1 g).1,(Good.split os1 g).2⟩
   | p d h g hx hz=>exact ⟨.p d h (Good.split os1 g).1 hx hz,(Good.split os1 g).2⟩
   | ix h g e=>exact ⟨.ix h (Good.split os1 g).1 e,(Good.split os1 g).2⟩
   | lt h g=>exact ⟨.lt h (Good.split os1 g).1,(Good.split os1 g).2⟩
   | el h g=>exact ⟨.el h (Good.split os1 g).1,(Good.split os1 g).2⟩
   | ld h hn ha g hx hz=>exact ⟨.ld h hn ha (Good.split os1 g).1 hx hz,(Good.split os1 g).2⟩
   | sw h g=>exact ⟨.sw h (Good.split os1 g).1,(Good.split os1 g).2⟩
   | ap hd hs h g=>exact ⟨.ap hd hs h (Good.split os1 g).1,(Good.split os1 g).2⟩
   | mk h g=>exact ⟨.mk h (Good.split os1 g).1,(Good.split os1 g).2⟩
   | sl h g h1 h2=>exact ⟨.sl h (Good.split os1 g).1 h1 h2,(Good.split os1 g).2⟩
   | cp hs h hf g hk hz hw hl=>exact ⟨.cp hs h hf (Good.split os1 g).1 hk hz hw hl,(Good.split os1 g).2⟩
   | mu h g=>exact ⟨.mu h (Good.split os1 g).1,(Good.split os1 g).2⟩
   | lu k g=>exact ⟨.lu k (Good.split os1 g).1,(Good.split os1 g).2⟩
   | fz F g=>exact ⟨.fz F (Good.split os1 g).1,(Good.split os1 g).2⟩
   | bs d l g=>exact ⟨.bs d l (Good.split os1 g).1,(Good.split os1 g).2⟩
   | c σ h g=>exact ⟨.c σ h (Good.split os1 g).1,(Good.split os1 g).2⟩
   | cw σ h fs e g=>exact ⟨.cw σ h fs e (Good.split os1 g).1,(Good.split os1 g).2⟩
   | cs k q n σ0 σ1 Tj Wj ha hb g=>exact ⟨.cs k q n σ0 σ1 Tj Wj ha hb (Good.split os1 g).1,(Good.split os1 g).2⟩
   | lp N n σ0 σ1 Tx Wx h g=>exact ⟨.lp N n σ0 σ1 Tx Wx h (Good.split os1 g).1,(Good.split os1 g).2⟩
theorem At2 {ms : List Nat} {o : Oper} {j : Nat} (h : (msk ms o).testBit j = true) : ∃ e ∈ o.after.toList, Region.binds .any e = true /\ (e.on = j ∨ (ms.getD e.on 0).testBit j = true) := by
 have key:∀ (l:List Edge) (s:Nat),(l.foldl (fun s e=>bif Region.binds .any e then s ||| (2 ^ e.on ||| ms.getD e.on 0) else s) s).testBit j=true->s.testBit j=true ∨ ∃ e ∈ l,Region.binds .any e=true/\(e.on=j ∨ (ms.getD e.on 0).testBit j=true):=by
  intro l
  induction l with
  | nil=>intro s h; exact .inl h
  | cons e l ih =>
    intro s h
    rw [List.foldl_cons] at h
    rcases ih _ h with h1 | ⟨e',h1,h2⟩
    ·cases hb:Region.binds .any e with
     | false=>rw [hb] at h1; exact .inl h1
     | true =>
       rw [hb] at h1
       simp only [cond_true,Nat.testBit_or,Bool.or_eq_true] at h1
       rcases h1 with h1 | h1 | h1
       ·exact .inl h1
       ·refine .inr ⟨e,by simp,hb,.inl ?_⟩
        rw [Nat.testBit_two_pow] at h1
        simpa using h1
       ·exact .inr ⟨e,by simp,hb,.inr h1⟩
    ·exact .inr ⟨e',List.mem_cons_of_mem _ h1,h2⟩
 rcases key _ _ h with h1 | h1
 ·simp at h1
 ·exact h1
structure Told (P:Program) (Y:Option Yd) (nT:Nat) (ops:Array Oper) (l:List Oper) (k:Nat) (ms:List Nat) (s:St) (D:List Dn) (s':St):Prop where
 o:D.map (·.o)=l
 c:Chain P Y nT ops D ⟨Ay s.T,s.H⟩
 g:∀ d ∈ D,Good P d.J d.r.os
 b:∀ (i:Nat) d,D[i]?=some d->d.bm=msk ((ms ++ D.map (·.bm)).take (k + i)) d.o
 e:∀ (i:Nat) d,D[i]?=some d->∀ e ∈ d.o.after.toList,Region.binds .any e=true->e.on < k + i
 t:∀ t,Ay s'.T t=(Gs nT (fun _=>true) D 0 ⟨Ay s.T,s.H⟩).τ t
 h:s'.H=(Gs nT (fun _=>true) D 0 ⟨Ay s.T,s.H⟩).H
theorem A9z (D:List Dn) (j j':Nat) (s:FS):Gs nT (fun _=>true) D j s=Gs nT (fun _=>true) D j' s:=by
 induction D generalizing j j' s with
 | nil=>rfl
 | cons d D ih=>rw [Gs,Gs]; exact ih _ _ _
theorem A2w : ∀ {l : List Oper} {k : Nat} {ms : List Nat} {s s' : St} {D : List Dn} {os O : List Ob}, Ahv P Y nT ops l k ms s = some (D, s', os) -> ms.length = k -> Good P s.I (os ++ O) -> Told P Y nT ops l k ms s D s' /\ Good P s'.I O
 | [],k,ms,s,s',D,os,O,h,hk,hg=>by
   cases h
   exact ⟨⟨rfl,trivial,fun d hd=>(by cases hd),fun i d hd=>(by cases hd),fun i d hd=>(by cases hd),fun t=>rfl,rfl⟩,hg⟩
 | o :: l, k, ms, s, s', D, os, O, h, hk, hg => by
   rw [Ahv] at h
   split at h
   ·rename_i r0 q0 h0
    split at h
    ·rename_i r q hr
     cases hb:(r.I.isEmpty && Nat.beq r.os.length (s.I.length - r0.I.length) && ((o.looksAt ops).map (Ay s.T)).all V.nz && N1 o && (o.after.toList.all fun e=>!Region.binds .any e || Nat.blt e.on k)) with
     | false=>rw [hb] at h; cases h
     | true =>
       rw [hb] at h
       simp only [cond_true] at h
       simp only [bq] at hb
       obtain ⟨⟨⟨⟨b1,b2⟩,b3⟩,b4⟩,b5⟩:=hb
       have b2:=Nat.eq_of_beq_eq_true b2
       split at h
       ·rename_i D' s2 os2 hD
        cases h
        rw [List.append_assoc] at hg
        obtain ⟨g1,g2⟩:=Good.split r.os hg
        rw [b2] at g1 g2
        obtain ⟨t1,t2⟩:=A2w hD (by simp [hk]) g2
        have hs0:(⟨Ay (Re nT (Ki r.kp s.T) o.dst r.x),Em s.H r.W⟩:FS)=Dn.eff nT ⟨o,s.I.take (s.I.length - r0.I.length),s.n,(o.looksAt ops).map (Ay s.T),s.H,r,q,msk ms o⟩ ⟨Ay s.T,s.H⟩:=by
         unfold Dn.eff
         congr 1
         funext t
         exact A1g t
        have tc:=t1.c
        have tt:=t1.t
        have th:=t1.h
        simp only [hs0] at tc tt th
        refine ⟨⟨by rw [List.map_cons,t1.o],⟨⟨rfl,rfl,hr,by simpa using b1,b3,b4⟩,tc⟩,fun d hd=>?_,fun i d hd=>?_,fun i d hd e he hbi=>?_,fun t=>?_,?_⟩,t2⟩
        ·rcases List.mem_cons.1 hd with rfl | hd
         ·exact g1
         ·exact t1.g d hd
        ·cases i with
         | zero =>
           cases hd
           simp only
           congr 1
           rw [Nat.add_zero,List.take_append_of_le_length (by omega),List.take_of_length_le (by omega)]
         | succ i =>
           have:=t1.b i d (by simpa using hd)
           rw [this,List.map_cons,List.append_assoc,List.singleton_append,show k + 1 + i=k + (i + 1) by omega]
        ·cases i with
         | zero =>
           cases hd
           have:=(List.all_eq_true.1 b5) e he
           rw [hbi] at this
           simp only [Bool.not_true,Bool.false_or] at this
           rw [Nat.blt_eq] at this
           exact this
         | succ i =>
           have:=t1.e i d (by simpa using hd) e he hbi
           omega
        ·rw [tt,Gs,A9z D' (0 + 1) 0]; rfl
        ·rw [th,Gs,A9z D' (0 + 1) 0]; rfl
       ·cases h
    ·cases h
   ·cases h
def DC (D:List Dn) (L:Nat->Bool):Prop:=∀ (i:Nat) d,D[i]?=some d->L i=true->∀ e ∈ d.o.after.toList,Region.binds .any e=true->L e.on=true
theorem Afy {D : List Dn} (hb : ∀ (i : Nat) d, D[i]? = some d -> d.bm = msk ((D.map (·.bm)).take i) d.o) (hc : DC D L) : ∀ (i : Nat) (d : Dn), D[i]? = some d -> (∀ e ∈ d.o.after.toList, Region.binds .any e = true -> L e.on = true) -> ∀ j, d.bm.testBit j = true -> L j = true := by
 intro i
 induction i using Nat.strongRecOn with
 | _ i ih =>
   intro d hd he j hj
   rw [hb i d hd] at hj
   obtain ⟨e,h1,h2,h3⟩:=At2 hj
   have h4:=he e h1 h2
   rcases h3 with rfl | h3
   ·exact h4
   ·rw [List.getD_eq_getElem?_getD] at h3
    cases hq:((D.map (·.bm)).take i)[e.on]? with
    | none=>rw [hq] at h3; simp at h3
    | some b =>
      rw [hq] at h3
      have hlt:e.on < i:=by
       have:=(List.getElem?_eq_some_iff.1 hq).1
       simp at this; omega
      rw [List.getElem?_take_of_lt hlt,List.getElem?_map] at hq
      cases hD:D[e.on]? with
      | none=>rw [hD] at hq; cases hq
      | some d' =>
        rw [hD] at hq
        simp only [Option.map_some,Option.some.injEq] at hq
        subst hq
        exact ih e.on hlt d' hD (hc e.on d' hD h4) j h3
theorem Pq {i mk:Nat}:∀ {D:List Dn} {j q:Nat} {k:Dn},D[q]?=some k->(if j + q < i then mk.testBit (j + q)=false else if i < j + q then k.bm.testBit i=false else False)->k ∈ Rf i mk D j
 | [],j,q,k,hk,h=>by simp at hk
 | x :: D, j, 0, k, hk, h => by
   cases hk
   rw [Nat.add_zero] at h
   rw [Rf]
   have:(bif Nat.blt j i then !mk.testBit j else bif Nat.blt i j then !x.bm.testBit i else false)=true:=by
    by_cases h1:j < i
    ·rw [if_pos h1] at h
     rw [show Nat.blt j i=true by rw [Nat.blt_eq]; exact h1]
     simp [h]
    ·rw [if_neg h1] at h
     by_cases h2:i < j
     ·rw [if_pos h2] at h
      rw [show Nat.blt j i=false by cases hb:Nat.blt j i with | false=>rfl | true=>rw [Nat.blt_eq] at hb; omega,show Nat.blt i j=true by rw [Nat.blt_eq]; exact h2]
      simp [h]
     ·rw [if_neg h2] at h; exact h.elim
   rw [this]
   simp
 | x :: D,j,q + 1,k,hk,h=>by
   have:=Pq (i:=i) (mk:=mk) (D:=D) (j:=j + 1) (q:=q) (k:=k) (by simpa using hk) (by rwa [show j + 1 + q=j + (q + 1) by omega])
   rw [Rf]
   cases (bif Nat.blt j i then !mk.testBit j else bif Nat.blt i j then !x.bm.testBit i else false) with
   | true=>exact List.mem_cons_of_mem _ this
   | false=>exact this
theorem Q0 {D:List Dn}:∀ {l:List Dn} {i q:Nat} {d:Dn},N8 ops D l i=true->l[q]?=some d->Adz ops d (Rf (i + q) d.bm D 0)=true
 | [],i,q,d,h,hd=>by simp at hd
 | x :: l,i,0,d,h,hd=>by cases hd; rw [N8,bq] at h; exact h.1
 | x :: l,i,q + 1,d,h,hd=>by
   rw [N8,bq] at h
   have:=Q0 (q:=q) h.2 (by simpa using hd)
   rwa [show i + 1 + q=i + (q + 1) by omega] at this
end
end Go.Proofs.YtfhiggfmkjmeiaaGreat
namespace Go.Proofs.YtfhiggfmkjmeiaaGreat
open Go Go.RowKit
section
variable {P:Program} {nT:Nat} {ops:Array Oper} {X:Ctx} {a:Act} {w:World} {ρl:Option Nat} {Q:Exit->Act->World->Prop} {ds:List Deferred} {Y:Option Yd}
theorem At.congr {s s':St} (h:At X ds nT s a w) (ht:∀ t,Ay s'.T t=Ay s.T t) (hh:s'.H=s.H):At X ds nT s' a w:=by
 obtain ⟨ρ,hE,ha,hl⟩:=h
 refine ⟨ρ,by rw [hh]; exact hE,⟨ha.sz,ha.df,fun i=>by rw [ht]; exact ha.t i⟩,fun i=>by rw [ht,hh]; exact hl i⟩
theorem At.drew {s:St} (h:At X ds nT s a w):At X ds nT s a w.drew:=by
 obtain ⟨ρ,hE,ha,hl⟩:=h
 exact ⟨ρ,⟨hE.hs.drew,hE.sd,hE.cl,hE.ag,hE.kl,hE.nr⟩,ha,hl⟩
theorem Ape {D:List Dn} {i:Nat} {d:Dn} (h:D[i]?=some d):D=D.take i ++ d :: D.drop (i + 1)/\(D.take i).length=i:=by
 have hlt:=(List.getElem?_eq_some_iff.1 h).1
 have he:=(List.getElem?_eq_some_iff.1 h).2
 refine ⟨?_,by simp; omega⟩
 rw [← he,List.getElem_cons_drop,List.take_append_drop]
theorem B07 {p:Nat->Bool}:∀ n:Nat,p n=false->∃ i,p i=false/\∀ j,j < i->p j=true:=by
 intro n
 induction n using Nat.strongRecOn with
 | _ n ih =>
   intro hn
   by_cases h:∃ j,j < n/\p j=false
   ·obtain ⟨j,h1,h2⟩:=h; exact ih j h1 h2
   ·refine ⟨n,hn,fun j hj=>?_⟩
    cases hq:p j with
    | true=>rfl
    | false=>exact (h ⟨j,hj,hq⟩).elim
theorem A5c {A:Array Bool} {i:Nat} (h:i < A.size):A.getD i true=A.getD i false:=by
 simp [Array.getD,h]
theorem Amb {A:Array Bool} {i j:Nat} (h:i < A.size):(A.setIfInBounds i true).getD j false=(A.getD j false || Nat.beq j i):=by
 rw [Array.getD_eq_getD_getElem?,Array.getD_eq_getD_getElem?,Array.getElem?_setIfInBounds]
 cases hb:Nat.beq j i with
 | true =>
   have e:=Nat.eq_of_beq_eq_true hb
   subst e
   simp [h]
 | false =>
   have hne:¬ i=j:=fun e=>by subst e; rw [Nat.beq_refl] at hb; cases hb
   rw [if_neg hne,Bool.or_false]
theorem Wm {L:Nat->Bool}:∀ (A:List Dn) (j:Nat) (s:FS),(∀ q,L q=false)->Gs nT L A j s=s
 | [],j,s,h=>rfl
 | k :: A,j,s,h=>by rw [Gs,h j]; exact Wm A (j + 1) s h
theorem Al2 (hY : YOk P X Y) {s s' : St} {D : List Dn} (hT : Told P Y nT ops ops.toList 0 [] s D s') (hc : N8 ops D D 0 = true) (k : ∀ a' w', At X ds nT s' a' w' -> Q .normal a' w') : ∀ (f : Nat) (listed : Array Bool) (a : Act) (w : World), listed.size = ops.size -> listed.toList.count false = f ->
   DC D (fun j=>listed.getD j false)->(∃ T H,At X ds nT ⟨T,H,s.n,[],[]⟩ a w/\(∀ t,Ay T t=(Gs nT (fun j=>listed.getD j false) D 0 ⟨Ay s.T,s.H⟩).τ t)/\H=(Gs nT (fun j=>listed.getD j false) D 0 ⟨Ay s.T,s.H⟩).H)->wpAnyIn (FW ρl) 0 P .any ops Q f listed a w:=by
 have hlen:D.length=ops.size:=by have:=congrArg List.length hT.o; simpa using this
 have hDo:∀ {i:Nat} {d:Dn},D[i]?=some d->ops[i]?=some d.o:=fun {i d} hd=>by
  have:=congrArg (fun l=>l[i]?) hT.o
  simp only [List.getElem?_map,hd,Option.map_some] at this
  rw [← Array.getElem?_toList]; exact this.symm
 have hbm:∀ (i:Nat) d,D[i]?=some d->d.bm=msk ((D.map (·.bm)).take i) d.o:=fun i d hd=>by have:=hT.b i d hd; rwa [List.nil_append,Nat.zero_add] at this
 intro f
 induction f with
 | zero =>
   intro listed a w hsz hcnt hdc ⟨T,H,hA,ht,hh⟩
   have hall:∀ j,j < listed.size->listed.getD j false=true:=fun j hj=>by
    have h0:=List.count_eq_zero.1 hcnt
    cases hq:listed.getD j false with
    | true=>rfl
    | false =>
      refine (h0 ?_).elim
      simp only [Array.getD,hj,dite_true] at hq
      rw [Array.mem_toList_iff,← hq]
      exact Array.getElem_mem hj
   refine ⟨?_,k a w (hA.congr (fun t=>?_) ?_)⟩
   ·refine List.eq_nil_iff_forall_not_mem.2 fun i hi=>?_
    obtain ⟨h1,o,ho,_⟩:=mem_ready.1 hi
    have hi':i < listed.size:=by rw [hsz]; exact (Array.getElem?_eq_some_iff.1 ho).1
    rw [A5c hi',hall i hi'] at h1; cases h1
   ·rw [hT.t,ht,Ol (L:=fun j=>listed.getD j false) (L':=fun _=>true) D 0 _ fun q hq=>hall _ (by rw [hsz,← hlen]; omega)]
   ·rw [hT.h,hh,Ol (L:=fun j=>listed.getD j false) (L':=fun _=>true) D 0 _ fun q hq=>hall _ (by rw [hsz,← hlen]; omega)]
 | succ f ih =>
   intro listed a w hsz hcnt hdc ⟨T,H,hA,ht,hh⟩
   refine ⟨fun h0=>?_,fun i hi=>?_⟩
   ·exfalso
    have hmem:false ∈ listed.toList:=List.count_pos_iff.1 (by omega)
    obtain ⟨n,hn,hq⟩:=List.getElem_of_mem hmem
    have hn':n < listed.size:=by simpa using hn
    have hnf:listed.getD n true=false:=by simp only [Array.getD,hn',dite_true]; simpa using hq
    obtain ⟨i,h1,h2⟩:=B07 (p:=fun i=>listed.getD i true) n hnf
    have hi:i < listed.size:=Nat.lt_of_not_le fun hle=>by
     have:listed.getD i true=true:=by simp only [Array.getD,show ¬ i < listed.size by omega,dite_false]
     rw [this] at h1; cases h1
    have hiD:i < D.length:=by rw [hlen,← hsz]; exact hi
    have hd:=List.getElem?_eq_getElem hiD
    have:i ∈ Region.ready .any ops listed:=mem_ready.2 ⟨h1,_,hDo hd,fun e he hb=>by
     have hlt:=hT.e i _ hd e (by simpa using he) hb
     rw [Nat.zero_add] at hlt
     rw [← A5c (by omega)]
     exact h2 _ hlt⟩
    rw [h0] at this
    cases this
   ·obtain ⟨hun,o,ho,hpre⟩:=mem_ready.1 hi
    have hisz:i < listed.size:=by rw [hsz]; exact (Array.getElem?_eq_some_iff.1 ho).1
    have hiD:i < D.length:=by rw [hlen,← hsz]; exact hisz
    have hd:=List.getElem?_eq_getElem hiD
    generalize hdd:D[i]=d at hd
    have hdo:=hDo hd
    rw [ho] at hdo
    simp only [Option.some.injEq] at hdo
    subst hdo
    have hLi:listed.getD i false=false:=by rw [← A5c hisz]; exact hun
    obtain ⟨hsp,hln⟩:=Ape hd
    have hpre':∀ e ∈ d.o.after.toList,Region.binds .any e=true->(fun j=>listed.getD j false) e.on=true:=fun e he hb=>hpre e (by simpa using he) hb
    have cal:=Z2 (Q0 (q:=i) hc hd)
    rw [Nat.zero_add] at cal
    generalize hmm:(fun g=>(look g ((Rf i d.bm D 0).flatMap fun k=>k.r.W)).isNone)=m at cal
    have h1:∀ (q:Nat) kk,(D.take i)[q]?=some kk->(fun j=>listed.getD j false) q=false->Calm ops d kk m:=fun q kk hq hl=>by
     have hqi:q < i:=by have:=(List.getElem?_eq_some_iff.1 hq).1; rw [hln] at this; exact this
     rw [List.getElem?_take_of_lt hqi] at hq
     refine cal.all kk (Pq (q:=q) hq ?_)
     rw [Nat.zero_add,if_pos hqi]
     cases hb:d.bm.testBit q with
     | false=>rfl
     | true =>
       have h3:listed.getD q false=true:=Afy hbm hdc i d hd hpre' q hb
       have h4:listed.getD q false=false:=hl
       rw [h3] at h4; cases h4
    have h2:∀ (q:Nat) kk,(D.drop (i + 1))[q]?=some kk->(fun j=>listed.getD j false) ((D.take i).length + 1 + q)=true->Calm ops d kk m/\∃ m',Calm ops kk d m':=fun q kk hq hl=>by
     rw [List.getElem?_drop] at hq
     rw [hln] at hl
     have hb:kk.bm.testBit i=false:=by
      cases hb:kk.bm.testBit i with
      | false=>rfl
      | true =>
        have h3:listed.getD i false=true:=Afy hbm hdc _ kk hq (hdc _ kk hq hl) i hb
        rw [hLi] at h3; cases h3
     refine ⟨cal.all kk (Pq (q:=i + 1 + q) hq ?_),?_⟩
     ·rw [Nat.zero_add,if_neg (by omega),if_pos (by omega)]; exact hb
     ·have cal':=Z2 (Q0 (q:=i + 1 + q) hc hq)
      exact ⟨_,cal'.all d (Pq (q:=i) hd (by rw [Nat.zero_add,Nat.zero_add,if_pos (by omega)]; exact hb))⟩
    have hch:=hT.c
    rw [hsp] at hch
    have hR:=As7 (L:=fun j=>listed.getD j false) (m:=m) hch (by rw [hln]; exact hLi) h1 (fun q kk hq hl=>(h2 q kk hq hl).1)
    rw [← hsp] at hR
    obtain ⟨c1,c2,c3,c4,c5,c6⟩:=(Chain.at _ 0 hch).1
    have hev:evD P Y ops d.o d.J d.n d.u H=some (d.r,d.q):=Aht (m:=m) c3 (by rw [hh]; exact hR.l) (fun g hg=>by rw [hh]; exact hR.h g hg) cal.rd cal.it (fun f' hf j b hb=>hR.k f' hf j b (by rw [← hh]; exact hb)) cal.yl
    have hu:(d.o.looksAt ops).map (Ay T)=d.u:=by
     rw [← hR.t]
     exact List.map_congr_left fun t _=>ht t
    refine A2j ho c6 (Alj hY hA hu hev c4 (hT.g d (List.mem_of_getElem? hd)) c6 fun a' w' hA'=>?_)
    have hLset:∀ j,(listed.setIfInBounds i true).getD j false=(listed.getD j false || Nat.beq j i):=fun j=>Amb hisz
    have hrun:=Apm (nT:=nT) (L:=fun j=>listed.getD j false) (L':=fun j=>(listed.setIfInBounds i true).getD j false) (A:=D.take i) (C:=D.drop (i + 1)) (d:=d) (s:=⟨Ay s.T,s.H⟩) cal.W (by rw [hln]; exact hLi) (fun j=>by rw [hln]; exact hLset j) h2
    rw [← hsp] at hrun
    refine ih _ a' w' (by simp [hsz]) ?_ ?_ ⟨_,_,hA',fun t=>?_,?_⟩
    ·rw [Array.toList_setIfInBounds,List.count_set (by simpa using hisz)]
     have:listed.toList[i]'(by simpa using hisz)=false:=by
      simp only [Array.getD,hisz,dite_true] at hLi
      simpa using hLi
     rw [this,hcnt]; simp
    ·intro q kk hq hl e he hb
     simp only [hLset,Bool.or_eq_true] at hl ⊢
     rcases hl with hl | hl
     ·exact .inl (hdc q kk hq hl e he hb)
     ·have:=Nat.eq_of_beq_eq_true hl
      subst this
      rw [hd] at hq; cases hq
      exact .inl (hpre' e he hb)
    ·rw [hrun]
     show Ay (Re nT (Ki d.r.kp T) d.o.dst d.r.x) t=_
     rw [A1g,ht]
     rfl
    ·rw [hrun]
     show Em H d.r.W=_
     rw [hh]
     rfl
theorem Ahu (hY:YOk P X Y) {id:Nat} {l:List Oper} {s s':St} {os O:List Ob} (he:Zc P Y nT l.toArray s=some (s',os)) (hg:Good P s.I (os ++ O)) (hA:At X ds nT s a w) (k:∀ a' w',At X ds nT s' a' w'->Good P s'.I O->Q .normal a' w') :
   XC ρl P (Code.region id l.toArray true) Q a w:=by
 unfold Zc at he
 cases hm:P.follows .mixedOrders with
 | false=>rw [hm] at he; cases he
 | true =>
   rw [hm] at he
   simp only [cond_true] at he
   split at he
   ·rename_i D s2 os2 hD
    cases hc:N8 l.toArray D D 0 with
    | false=>rw [hc] at he; cases he
    | true =>
      rw [hc] at he
      simp only [cond_true,Option.some.injEq,Prod.mk.injEq] at he
      obtain ⟨rfl,rfl⟩:=he
      obtain ⟨hT,hg'⟩:=A2w hD rfl hg
      refine ⟨wpIn_region_any hm (Al2 hY hT hc (fun a' w' h=>k a' w' h hg') _ _ _ _ (by simp) (by simp) ?_ ⟨s.T,s.H,?_,?_,?_⟩)⟩
      ·intro i d hd hl
       simp [Array.getD] at hl
      ·exact hA.drew.congr (fun _=>rfl) rfl
      ·intro t
       rw [Wm D 0 _ fun q=>by simp [Array.getD]]
      ·rw [Wm D 0 _ fun q=>by simp [Array.getD]]
   ·cases he
end
