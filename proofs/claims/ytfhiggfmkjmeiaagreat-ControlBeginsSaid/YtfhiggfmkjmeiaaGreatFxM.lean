import Derived.Test.YtfhiggfmkjmeiaaGreatFxZ
set_option linter.all false
namespace Go.Proofs.YtfhiggfmkjmeiaaGreat
open Go Go.RowKit
inductive Ex where
 | nm
 | ex (id:Nat)
 | rt
def Ex.out:Ex->Exit
 | .nm=>.normal
 | .ex id=>.exit id
 | .rt=>.ret
def Gz:Code->List Nat
 | .region _ ops _=>ops.toList.filterMap (·.dst)
 | .seq a b=>Gz a ++ Gz b
 | .cond _ a b=>Gz a ++ Gz b
 | .block _ c=>Gz c
 | .loop c=>Gz c
 | _=>[]
def lpS (m:List Nat) (s:St) (n:Nat) (Tx:Nat->List (Nat × V)) (Wx:Nat->List (Nat × B)) (i:Nat) (J:List It):St:=⟨Tx i ++ (zsT m ++ s.T),Em s.H (Wx i),n,J,[]⟩
def lpF (m:List Nat) (s:St) (σ:List (Nat × Vw)) (Tx:Nat->List (Nat × V)) (Wx:Nat->List (Nat × B)) (i:Nat) (r:Option (Ex × St × List Ob)):List Ob :=
 match r with
 | some (.nm,s1,os1)=>.pj (s1.I.isEmpty && A3i s m σ (Tx (i + 1)) (Wx (i + 1)) s1.T s1.L (Em s.H (Wx (i + 1))) && (Tx i).all (fun p=>Lm (Tx (i + 1)) p.1 || Bb m p.1) && (Wx i).all (fun p=>(look p.1 (Wx (i + 1))).isSome))
  (Aix (Tx (i + 1)) s1.T) (Ad5 σ s1.H (Wx (i + 1))) :: os1
 | _=>[]
def Ex.isNm:Ex->Bool
 | .nm=>true
 | _=>false
abbrev R:=Option (Ex × St × List Ob)
def Ae9 (fx fy : St -> R) (c : Operand) (s : St) : R := match evO s.T c, s.I with
    | .v (.bool q),.t true :: I=>match fx { s with I:=I } with | some (e,s2,o2)=>some (e,s2,.t q :: o2) | none=>none
    | .v (.bool q),.t false :: I=>match fy { s with I:=I } with | some (e,s2,o2)=>some (e,s2,.t q :: o2) | none=>none
    | _,_=>none
def Aqz (id : Nat) (f : St -> R) (s : St) : R := match f s with
    | some (.ex j,s1,o1)=>some (bif Nat.beq j id then .nm else .ex j,s1,o1)
    | r=>r
def csF (m:List Nat) (s:St) (σ:List (Nat × Vw)) (Tx:List (Nat × V)) (W:List (Nat × B)) (r:R):List Ob :=
 match r with
 | some (.nm,s1,os1)=>.pj (s1.I.isEmpty && A3i s m σ Tx W s1.T s1.L (Em s.H W)) (Aix Tx s1.T) (Ad5 σ s1.H W) :: os1
 | _=>[]
def csE (k0:Nat) (m:List Nat) (f:St->R) (s:St):R:=match s.I with
 | .cs k q n σ0 σ1 Tj Wj Ia Ib :: I'=>bif !Nat.beq k k0 then f s else bif (Tj true).all (fun p=>Bb m p.1) && (Tj false).all (fun p=>Bb m p.1) then
  some (.nm,⟨Tj q ++ (zsT m ++ s.T),Em s.H (Wj q),n,I',(Wj true).map (·.1) ++ ((Wj false).map (·.1) ++ s.L)⟩,[.cs (csF m s σ0 (Tj true) (Wj true) (f ⟨s.T,s.H,s.n,Ia,[]⟩)) (csF m s σ1 (Tj false) (Wj false) (f ⟨s.T,s.H,s.n,Ib,[]⟩))])
   else none
 | _=>f s
def csH (k0:Nat) (m:List Nat) (f:St->R):St->R:=csE k0 m (csE k0 m f)
def csI (k0:Nat) (m:List Nat) (f:St->R):St->R:=csH k0 m (csH k0 m f)
def csG (k0:Nat) (m:List Nat) (f:St->R) (s:St):R:=match s.I with
 | .cs _ _ _ _ _ _ _ _ _ :: _=>csI k0 m (csI k0 m f) s
 | _=>f s
def A9r (f:St->Option (St × List Ob)) (s:St):R:=match f s with | some (s',os)=>some (.nm,s',os) | none=>none
def Ps:List V->Nat->List (Nat × V)
 | [],_=>[]
 | x :: l,i=>(i,x) :: Ps l (i + 1)
theorem Vu:∀ (l:List V) (i j:Nat),Ay (Ps l i) j=if i<=j then (l[j - i]?).getD .z else .z
 | [],i,j=>by simp [Ps,Ay]
 | x :: l, i, j => by
   rw [Ps,Ay]
   cases hb:Nat.beq j i with
   | true =>
     have e:=Nat.eq_of_beq_eq_true hb
     subst e
     simp
   | false =>
     have hne:j ≠ i:=fun e=>by subst e; rw [Nat.beq_refl] at hb; cases hb
     rw [cond_false,Vu l (i + 1) j]
     by_cases h:i + 1<=j
     ·rw [if_pos h,if_pos (by omega),show j - i=(j - (i + 1)) + 1 by omega,List.getElem?_cons_succ]
     ·rw [if_neg h,if_neg (by omega)]
abbrev ItE:=Nat->Option Yd->Nat->Code->St->R
def Ex.cd:Ex->Option Code
 | .nm=>none
 | .ex id=>some (.exit id)
 | .rt=>some .ret
def Alr:Option Code->Option Ex
 | none=>some .nm
 | some (.exit id)=>some (.ex id)
 | some .ret=>some .rt
 | _=>none
def De (H:List B) (n i:Nat):Bool:=Nat.blt i n && Gc H i
def Km (H:List B) (n:Nat):Bool:=Nat.ble n H.length && (H.take n).all fun b=>!b.isFree
def Sj (H:List B) (n:Nat):Bool:=match H[n]? with | some .free=>true | _=>false
def A90 (H:List B) (g:Nat) (busy:Bool):Bool:=match H[g]? with | some (.lo .ready none)=>!busy | some (.lo .busy none)=>busy | _=>false
def O1 (H:List B) (q:Nat):Bool:=match H[q]? with | some .dfs=>true | _=>false
def putL (nT:Nat):List Tmp->List V->List (Nat × V)->List (Nat × V)
 | p :: ps,x :: xs,T=>putL nT ps xs (Re nT T (some p) x)
 | _,_,T=>T
def A41 (H:List B) (n:Nat):Bool:=(H.drop n).all fun b=>match b with | .free=>true | _=>false
def Tu (H2:List B) (L:List Nat):List (Nat × B):=L.filterMap fun j=>(H2[j]?).map fun b=>(j,b)
def rdE (fa fb : St -> R) (nT : Nat) (ps : List Tmp) (T0 : List (Nat × V)) (g : Nat) (xs : List V) (H0 : List B) (n : Nat) (I : List It) : Option Rs :=
 bif Nat.beq xs.length ps.length && Sj H0 n && Km (O3 H0 (Ml H0 0 n)) n && A41 H0 n && A90 H0 g false then
  match fa ⟨putL nT ps xs T0,O3 H0 (Ml H0 0 n),n,I,Ml H0 0 n⟩ with
  | some (.nm,s1,o1)=>bif A90 s1.H g false then match fb ⟨s1.T,s1.H.set g (.lo .busy none),s1.n,s1.I,g :: s1.L⟩ with
   | some (e,s2,o2)=>bif A90 s2.H g true && Nat.beq s2.H.length H0.length then
    some ⟨.v (.bool e.isNm),Tu (s2.H.set g (.lo (bif e.isNm then .ready else .done) e.cd)) (g :: s2.L),s2.n - n,s2.I,o1 ++ o2,some (De H0 n)⟩ else none
   | none=>none
    else none
  | _=>none
 else none
def A9t (g:Nat) (T0:List (Nat × V)) (s:St) (r:R):R :=
 match r with
 | some (.ex _,_,_)=>none
 | some (_,s1,os)=>bif O1 s1.H (g + 1) then match s1.H[g]? with
   | some (.lo .ready none)=>some (.nm,⟨T0,(s1.H.set (g + 1) .gone).set g .gone,s1.n,s1.I,g :: (g + 1) :: (s1.L ++ s.L)⟩,os)
   | some (.lo .done pe)=>match Alr pe with
     | some e=>some (e,⟨T0,(s1.H.set (g + 1) .gone).set g .gone,s1.n,s1.I,g :: (g + 1) :: (s1.L ++ s.L)⟩,os)
     | none=>none
   | _=>none
   else none
 | none=>none
def rgE (P:Program) (it:ItE) (q nT:Nat) (fa fb:St->R) (f:Operand) (ps:List Tmp) (s:St):R :=
 match evO s.T f with
 | .fn (.func gf) [] lb => match P.funcs[gf]? with
   | some fn=>match fn.body with
     | some c=>bif Jl P gf && O1 s.H q && Sj s.H s.n && Sj s.H (s.n + 1) && Km s.H s.n && Nat.ble (lb.length + 1) fn.ntmps && fn.results.toList.isEmpty && lb.all V.nz then
      A9t s.n (Ki (some (De s.H s.n)) s.T) s (it (s.n + 1) (some ⟨s.n,rdE fa fb nT ps (Ki (some (De s.H s.n)) s.T) s.n⟩) fn.ntmps c ⟨Ps (.yl s.n :: lb) 0,(s.H.set s.n (.lo .ready none)).set (s.n + 1) .dfs,s.n + 2,s.I,[]⟩)
       else none
     | none=>none
   | none=>none
 | _=>none
def Aaf (f:St->R):Nat->St->R
 | 0,s=>match f s with
   | some (.nm,_,_)=>none
   | r=>r
 | k + 1, s => match f s with
   | some (.nm,s1,o1)=>match Aaf f k s1 with
     | some (e,s2,o2)=>some (e,s2,o1 ++ o2)
     | none=>none
   | _=>none
def Am3 (q:Nat) (fr:Bool) (Y:Option Yd) (f:St->R) (s:St):R:=match s.I with
 | .fz F :: I=>bif fr && Y.isNone && O1 s.H q && Km s.H s.n && A13 s.n s.H 0 && F.all (fun g=>Sn s.H g && Nat.blt g s.n) then
  match f ⟨s.T,frz F s.H 0,s.n,I,[]⟩ with
  | some (e,s2,os)=>bif A3l s2.L (frz F s.H 0) s2.H 0 then some (e,⟨s2.T,thw F s.H s2.H 0,s2.n,s2.I,F ++ (s2.L ++ s.L)⟩,.fz :: os) else none
  | none=>none
   else none
 | _=>f s
def Bw (P:Program) (it:ItE) (q:Nat) (Y:Option Yd) (nT:Nat):Code->Bool->St->R
 | .skip,_,s=>some (.nm,s,[])
 | .region id ops false,_,s=>csG (id + 1000000) (ops.toList.filterMap (·.dst)) (A9r (A2x P Y nT ops ops.toList)) s
 | .region id ops true,_,s=>csG (id + 1000000) (ops.toList.filterMap (·.dst)) (A9r (Xy P Y nT ops)) s
 | .seq a b,fr,s=>match Bw P it q Y nT a fr s with
   | some (.nm,s1,o1)=>match Am3 q fr Y (Bw P it q Y nT b fr) s1 with | some (e,s2,o2)=>some (e,s2,o1 ++ o2) | none=>none
   | r=>r
 | .cond c x y,fr,s=>csG 0 (Gz x ++ Gz y) (Ae9 (Bw P it q Y nT x fr) (Bw P it q Y nT y fr) c) s
 | .block id c,fr,s=>csG (id + 1) (Gz c) (Aqz id (Bw P it q Y nT c fr)) s
 | .loop c,fr,s=>match s.I with
   | .lp N n σ0 σ1 Tx Wx Is :: I'=>match Bw P it q Y nT c fr (lpS (Gz c) s n Tx Wx N I') with
     | some (e,s',os)=>bif !e.isNm && (Tx N).all (fun p=>Bb (Gz c) p.1 || !p.2.nz) then
      some (e,⟨s'.T,s'.H,s'.n,s'.I,s'.L ++ ((Wx N).map (·.1) ++ s.L)⟩,.lp (A3i s (Gz c) σ0 (Tx 0) (Wx 0) s.T [] (Em s.H (Wx 0))) (Aix (Tx 0) s.T) (Ad5 σ0 s.H (Wx 0)) (fun i=>lpF (Gz c) s σ1 Tx Wx i (Bw P it q Y nT c fr (lpS (Gz c) s n Tx Wx i (Is i)))) :: os)
       else none
     | none=>none
   | .lu k :: I'=>match Aaf (Bw P it q Y nT c fr) k { s with I:=I' } with
     | some (e,s',os)=>some (e,s',.lu :: os)
     | none=>none
   | _=>none
 | .exit id,_,s=>some (.ex id,s,[])
 | .ret,_,s=>some (.rt,s,[])
 | .rangeFunc f ps asg bd,true,s=>rgE P it q nT (Bw P it q Y nT asg false) (Bw P it q Y nT bd false) f ps.toList s
 | _,_,_=>none
def Alf (P:Program):ItE:=fun q Y nT c s=>Bw P (fun _ _ _ _ _=>none) q Y nT c true s
def Alg (P:Program):ItE:=fun q Y nT c s=>Bw P (Alf P) q Y nT c true s
def A4y (P:Program):ItE:=fun q Y nT c s=>Bw P (Alg P) q Y nT c true s
structure Frm (m:List Nat) (s s':St):Prop where
 t:∀ t,Bb m t=false->Ay s'.T t=Ay s.T t ∨ Ay s'.T t=.z
 h:∀ g,Bb s'.L g=false->Bb s.L g=false/\s'.H[g]?=s.H[g]?
theorem Eo (A C:List Nat) (t:Nat):Bb (A ++ C) t=(Bb A t || Bb C t):=by
 induction A with
 | nil=>rfl
 | cons j A ih=>rw [List.cons_append,Bb,Bb,ih]; cases Nat.beq t j <;> rfl
theorem Frm.refl (m:List Nat) (s:St):Frm m s s:=⟨fun _ _=>.inl rfl,fun _ h=>⟨h,rfl⟩⟩
theorem Frm.trans {m m':List Nat} {s s1 s':St} (h:Frm m s s1) (h':Frm m' s1 s'):Frm (m ++ m') s s':=by
 refine ⟨fun t ht=>?_,fun g hg=>?_⟩
 ·rw [Eo,Bool.or_eq_false_iff] at ht
  rcases h'.t t ht.2 with e | e
  ·rcases h.t t ht.1 with e' | e'
   ·exact .inl (e.trans e')
   ·exact .inr (e.trans e')
  ·exact .inr e
 ·obtain ⟨h1,h2⟩:=h'.h g hg
  obtain ⟨h3,h4⟩:=h.h g h1
  exact ⟨h3,h2.trans h4⟩
theorem Frm.mono {m m':List Nat} {s s':St} (h:Frm m s s') (hm:∀ t,Bb m' t=false->Bb m t=false):Frm m' s s':=⟨fun t ht=>h.t t (hm t ht),h.h⟩
theorem Ry {W:List (Nat × B)} {g:Nat} (h:Bb (W.map (·.1)) g=false):look g W=none:=by
 induction W with
 | nil=>rfl
 | cons p W ih =>
   obtain ⟨j,b⟩:=p
   rw [List.map_cons,Bb] at h
   rw [look]
   cases hb:Nat.beq g j with
   | true=>rw [hb] at h; cases h
   | false =>
     rw [hb] at h
     have:Nat.beq j g=false:=by
      cases hq:Nat.beq j g with
      | false=>rfl
      | true=>rw [Nat.eq_of_beq_eq_true hq,Nat.beq_refl] at hb; cases hb
     rw [this]
     exact ih h
theorem A5a {nT:Nat} {s:St} {kp:Option (Nat->Bool)} {d:Option Nat} {x:V} {W:List (Nat × B)} {n:Nat} {I:List It}:Frm d.toList s ⟨Re nT (Ki kp s.T) d x,Em s.H W,n,I,W.map (·.1) ++ s.L⟩:=by
 refine ⟨fun t ht=>?_,fun g hg=>?_⟩
 ·show Ay (Re nT (Ki kp s.T) d x) t=_ ∨ Ay (Re nT (Ki kp s.T) d x) t=_
  rw [A1g]
  cases hh:K0 nT d t with
  | true =>
    have e:=U6 hh
    subst e
    simp [Bb] at ht
  | false =>
    simp only [cond_false]
    rcases Y1 kp (Ay s.T t) with e | e
    ·exact .inr e
    ·exact .inl e
 ·rw [Eo,Bool.or_eq_false_iff] at hg
  refine ⟨hg.2,?_⟩
  show (Em s.H W)[g]?=_
  rw [Eu,Ry hg.1]
  cases s.H[g]? <;> rfl
theorem Abq {P:Program} {Y:Option Yd} {nT:Nat} {ops:Array Oper} {o:Oper} {s s':St} {os:List Ob} (h:Ze P Y nT ops o s=some (s',os)):Frm o.dst.toList s s':=by
 unfold Ze at h
 split at h
 ·split at h
  ·cases h; exact A5a
  ·cases h
 ·cases h
  exact A5a (kp:=none) (W:=[])
 ·cases h
theorem Ui {o:Oper} {l:List Oper} {t:Nat} (h:Bb ((o :: l).filterMap (·.dst)) t=false):Bb (o.dst.toList ++ l.filterMap (·.dst)) t=false:=by
 cases hd:o.dst with
 | none=>rw [List.filterMap_cons_none hd] at h; exact h
 | some d=>rw [List.filterMap_cons_some hd] at h; exact h
theorem Vv {P:Program} {Y:Option Yd} {nT:Nat} {ops:Array Oper}:∀ {l:List Oper} {s s':St} {os:List Ob},A2x P Y nT ops l s=some (s',os)->Frm (l.filterMap (·.dst)) s s'
 | [],s,s',os,h=>by cases h; exact Frm.refl _ _
 | o :: l, s, s', os, h => by
   rw [A2x] at h
   split at h
   ·rename_i s1 os1 h1
    split at h
    ·rename_i s2 os2 h2
     cases h
     exact ((Abq h1).trans (Vv h2)).mono fun t ht=>Ui ht
    ·cases h
   ·cases h
theorem A7w {P : Program} {Y : Option Yd} {nT : Nat} {ops : Array Oper} : ∀ {l : List Oper} {k : Nat} {ms : List Nat} {s s' : St} {D : List Dn} {os : List Ob}, Ahv P Y nT ops l k ms s = some (D, s', os) -> Frm (l.filterMap (·.dst)) s s'
 | [],k,ms,s,s',D,os,h=>by cases h; exact Frm.refl _ _
 | o :: l, k, ms, s, s', D, os, h => by
   rw [Ahv] at h
   split at h
   ·split at h
    ·rename_i r q hr
     cases hb:(r.I.isEmpty && Nat.beq r.os.length _ && ((o.looksAt ops).map (Ay s.T)).all V.nz && N1 o && (o.after.toList.all fun e=>!Region.binds .any e || Nat.blt e.on k)) with
     | false=>rw [hb] at h; cases h
     | true =>
       rw [hb] at h
       simp only [cond_true] at h
       split at h
       ·rename_i D' s2 os2 hD
        cases h
        exact (A5a.trans (A7w hD)).mono fun t ht=>Ui ht
       ·cases h
    ·cases h
   ·cases h
theorem Abh {P:Program} {Y:Option Yd} {nT:Nat} {ops:Array Oper} {s s':St} {os:List Ob} (h1:Zc P Y nT ops s=some (s',os)):Frm (ops.toList.filterMap (·.dst)) s s':=by
 unfold Zc at h1
 cases hm:P.follows .mixedOrders with
 | false=>rw [hm] at h1; cases h1
 | true =>
   rw [hm] at h1
   simp only [cond_true] at h1
   split at h1
   ·rename_i D s2 os2 hD
    cases hc:N8 ops D D 0 with
    | false=>rw [hc] at h1; cases h1
    | true=>rw [hc] at h1; cases h1; exact A7w hD
   ·cases h1
theorem Afq {m:List Nat} {s:St} {n:Nat} {Tx:Nat->List (Nat × V)} {Wx:Nat->List (Nat × B)} {i:Nat} {J:List It} {t:Nat} (h1:Bb m t=false) (h2:Lm (Tx i) t=false):Ay (lpS m s n Tx Wx i J).T t=Ay s.T t:=by
 show Ay (Tx i ++ (zsT m ++ s.T)) t=_
 rw [Jw,Jw,Y4,h1,h2]
 rfl
theorem Afc {T:List (Nat × V)} {m:List Nat} (h:T.all (fun p=>Bb m p.1)=true) {t:Nat} (ht:Bb m t=false):Lm T t=false:=by
 cases hh:Lm T t with
 | false=>rfl
 | true=>have:=(List.all_eq_true.1 h) _ (Rc hh); simp only [ht] at this; cases this
theorem Ani {m:List Nat} {s:St} {n:Nat} {Tx:Nat->List (Nat × V)} {Wx:Nat->List (Nat × B)} {i:Nat} {J:List It} {t:Nat} (h1:Bb m t=false) (h:(Tx i).all (fun p=>Bb m p.1 || !p.2.nz)=true) :
   Ay (lpS m s n Tx Wx i J).T t=Ay s.T t ∨ Ay (lpS m s n Tx Wx i J).T t=.z:=by
 cases h2:Lm (Tx i) t with
 | false=>exact .inl (Afq h1 h2)
 | true =>
   refine .inr ?_
   have:=(List.all_eq_true.1 h) _ (Rc h2)
   simp only [h1,Bool.false_or,Bool.not_eq_true'] at this
   show Ay (Tx i ++ (zsT m ++ s.T)) t=.z
   rw [Jw,h2,cond_true]
   generalize Ay (Tx i) t=y at this ⊢
   cases y <;> first | rfl | cases this
theorem A4q {k0:Nat} {m:List Nat} {f:St->R} (hf:∀ s s' e os,f s=some (e,s',os)->Frm m s s') {s s':St} {e:Ex} {os:List Ob} (he:csE k0 m f s=some (e,s',os)):Frm m s s':=by
 unfold csE at he
 split at he
 ·rename_i kk q n σ0 σ1 Tj Wj Ia Ib I' hI
  cases hk:(!Nat.beq kk k0) with
  | true=>rw [hk] at he; exact hf _ _ _ _ he
  | false =>
  rw [hk] at he
  simp only [cond_false] at he
  cases hb:((Tj true).all (fun p=>Bb m p.1) && (Tj false).all (fun p=>Bb m p.1)) with
  | false=>rw [hb] at he; cases he
  | true =>
    rw [hb] at he
    simp only [cond_true,Option.some.injEq,Prod.mk.injEq] at he
    obtain ⟨rfl,rfl,rfl⟩:=he
    simp only [bq] at hb
    refine ⟨fun t ht=>.inl ?_,fun g hg=>?_⟩
    ·show Ay (Tj q ++ (zsT m ++ s.T)) t=_
     have:Lm (Tj q) t=false:=by cases q; exact Afc hb.2 ht; exact Afc hb.1 ht
     rw [Jw,Jw,Y4,ht,this]; rfl
    ·rw [Eo,Eo,Bool.or_eq_false_iff,Bool.or_eq_false_iff] at hg
     refine ⟨hg.2.2,?_⟩
     show (Em s.H (Wj q))[g]?=_
     have:look g (Wj q)=none:=by cases q; exact Ry hg.2.1; exact Ry hg.1
     rw [Eu,this]
     cases s.H[g]? <;> rfl
 ·exact hf _ _ _ _ he
theorem A4s {k0:Nat} {m:List Nat} {f:St->R} (hf:∀ s s' e os,f s=some (e,s',os)->Frm m s s') {s s':St} {e:Ex} {os:List Ob} (he:csH k0 m f s=some (e,s',os)):Frm m s s' :=
 A4q (fun _ _ _ _ h=>A4q hf h) he
theorem A4t {k0:Nat} {m:List Nat} {f:St->R} (hf:∀ s s' e os,f s=some (e,s',os)->Frm m s s') {s s':St} {e:Ex} {os:List Ob} (he:csI k0 m f s=some (e,s',os)):Frm m s s' :=
 A4s (fun _ _ _ _ h=>A4s hf h) he
theorem Xv {k0:Nat} {m:List Nat} {f:St->R} (hf:∀ s s' e os,f s=some (e,s',os)->Frm m s s') {s s':St} {e:Ex} {os:List Ob} (he:csG k0 m f s=some (e,s',os)):Frm m s s':=by
 unfold csG at he
 split at he
 ·exact A4t (fun _ _ _ _ h=>A4t hf h) he
 ·exact hf _ _ _ _ he
structure ItFrm (it:ItE):Prop where
 out:∀ {q:Nat} {Y:Option Yd} {nT:Nat} {c:Code} {s s':St} {e:Ex} {os:List Ob},it q Y nT c s=some (e,s',os)->Frm (Gz c) s s'
theorem Atk {P : Program} {it : ItE} (hit : ItFrm it) {q nT : Nat} {fa fb : St -> R} {f : Operand} {ps : List Tmp} {s s' : St} {e : Ex} {os : List Ob} (he : rgE P it q nT fa fb f ps s = some (e, s', os)) : Frm [] s s' := by
 unfold rgE at he
 split at he
 ·rename_i gf lb hf
  split at he
  ·rename_i fn hfn
   split at he
   ·rename_i c hc
    cases hb:(Jl P gf && O1 s.H q && Sj s.H s.n && Sj s.H (s.n + 1) && Km s.H s.n && Nat.ble (lb.length + 1) fn.ntmps && fn.results.toList.isEmpty && lb.all V.nz) with
    | false=>rw [hb] at he; cases he
    | true =>
      rw [hb] at he
      simp only [cond_true] at he
      have key:∀ {r:R},A9t s.n (Ki (some (De s.H s.n)) s.T) s r=some (e,s',os)->(∀ s1 e1 os1,r=some (e1,s1,os1)->∀ g,Bb s1.L g=false->s1.H[g]?=((s.H.set s.n (.lo .ready none)).set (s.n + 1) .dfs)[g]?)->Frm [] s s':=fun {r} hr hL=>by
       have fin:∀ {s1:St} {e1:Ex} {os1:List Ob} {n':Nat} {I':List It},r=some (e1,s1,os1)->Frm [] s ⟨Ki (some (De s.H s.n)) s.T,(s1.H.set (s.n + 1) .gone).set s.n .gone,n',I',s.n :: (s.n + 1) :: (s1.L ++ s.L)⟩:=fun {s1 e1 os1 n' I'} h1=>by
        refine ⟨fun t _=>?_,fun g hg=>?_⟩
        ·show Ay (Ki (some (De s.H s.n)) s.T) t=Ay s.T t ∨ Ay (Ki (some (De s.H s.n)) s.T) t=.z
         rw [Mx]
         cases V.lt (De s.H s.n) (Ay s.T t) with
         | true=>exact .inl rfl
         | false=>exact .inr rfl
        ·have h2:Nat.beq g s.n=false:=by
          cases hq:Nat.beq g s.n with
          | false=>rfl
          | true=>simp only [Bb,hq] at hg; cases hg
         have h3:Nat.beq g (s.n + 1)=false:=by
          cases hq:Nat.beq g (s.n + 1) with
          | false=>rfl
          | true=>simp only [Bb,hq,h2] at hg; cases hg
         simp only [Bb,h2,h3,cond_false,Eo,Bool.or_eq_false_iff] at hg
         have n2:s.n ≠ g:=fun e=>by rw [e,Nat.beq_refl] at h2; cases h2
         have n3:s.n + 1 ≠ g:=fun e=>by rw [e,Nat.beq_refl] at h3; cases h3
         refine ⟨hg.2,?_⟩
         show ((s1.H.set (s.n + 1) B.gone).set s.n B.gone)[g]?=_
         rw [List.getElem?_set_ne n2,List.getElem?_set_ne n3,hL _ _ _ h1 g hg.1,List.getElem?_set_ne n3,List.getElem?_set_ne n2]
       unfold A9t at hr
       split at hr
       ·cases hr
       ·rename_i e1 s1 os1 hne
        cases hd:O1 s1.H (s.n + 1) with
        | false=>rw [hd] at hr; cases hr
        | true =>
        rw [hd] at hr
        simp only [cond_true] at hr
        split at hr
        ·cases hr; exact fin rfl
        ·split at hr
         ·cases hr; exact fin rfl
         ·cases hr
        ·cases hr
       ·cases hr
      refine key he fun s1 e1 os1 h1 g hg=>?_
      exact ((hit.out h1).h g hg).2
   ·cases he
  ·cases he
 ·cases he
theorem Aag {m:List Nat} {f:St->R} (hf:∀ {s s' e os},f s=some (e,s',os)->Frm m s s'):∀ {k:Nat} {s s':St} {e:Ex} {os:List Ob},Aaf f k s=some (e,s',os)->Frm m s s'
 | 0,s,s',e,os,h=>by
   rw [Aaf] at h
   split at h
   ·cases h
   ·exact hf h
 | k + 1, s, s', e, os, h => by
   rw [Aaf] at h
   split at h
   ·rename_i s1 o1 h1
    split at h
    ·rename_i e2 s2 o2 h2
     cases h
     exact ((hf h1).trans (Aag hf h2)).mono fun t ht=>by rw [Eo,ht]; rfl
    ·cases h
   ·cases h
theorem Am4 {q : Nat} {fr : Bool} {Y : Option Yd} {m : List Nat} {f : St -> R} (hf : ∀ s s' e os, f s = some (e, s', os) -> Frm m s s') {s s' : St} {e : Ex} {os : List Ob} (he : Am3 q fr Y f s = some (e, s', os)) : Frm m s s' := by
 unfold Am3 at he
 split at he
 ·rename_i F I hI
  cases hc:(fr && Y.isNone && O1 s.H q && Km s.H s.n && A13 s.n s.H 0 && F.all (fun g=>Sn s.H g && Nat.blt g s.n)) with
  | false=>rw [hc] at he; cases he
  | true =>
    rw [hc] at he
    simp only [cond_true] at he
    split at he
    ·rename_i e2 s2 os2 h2
     cases hr:A3l s2.L (frz F s.H 0) s2.H 0 with
     | false=>rw [hr] at he; cases he
     | true =>
       rw [hr] at he
       cases he
       have h3:=hf _ _ _ _ h2
       have hl:=(Oi hr).1
       have hl':s.H.length=s2.H.length:=by
        rw [← hl]
        have:∀ (H:List B) i,(frz F H i).length=H.length:=fun H=>by induction H with | nil=>exact fun _=>rfl | cons b H ih=>exact fun i=>by rw [frz,List.length_cons,List.length_cons,ih]
        exact (this _ _).symm
       refine ⟨h3.t,fun g hg=>?_⟩
       have hg:Bb (F ++ (s2.L ++ s.L)) g=false:=hg
       rw [Eo,Eo,Bool.or_eq_false_iff,Bool.or_eq_false_iff] at hg
       refine ⟨hg.2.2,?_⟩
       have h4:=(h3.h g hg.2.1).2
       show (thw F s.H s2.H 0)[g]?=_
       rw [Yl F _ _ 0 g hl',Nat.zero_add,hg.1]
       show s2.H[g]?=_
       rw [h4,P5,Nat.zero_add,hg.1]
       cases s.H[g]? <;> rfl
    ·cases he
 ·exact hf _ _ _ _ he
theorem A2t {P:Program} {Y:Option Yd} {nT:Nat} {ops:Array Oper} {s s':St} {e:Ex} {os:List Ob} (he:A9r (Xy P Y nT ops) s=some (e,s',os)):Frm (ops.toList.filterMap (·.dst)) s s':=by
 unfold A9r at he
 split at he
 ·rename_i h1
  cases he
  unfold Xy at h1
  split at h1
  ·rename_i s3 os3 h3
   cases h1
   have f0:=Abh h3
   refine ⟨f0.t,fun g hg=>?_⟩
   have hg':Bb (Ml s3.H s.n (s3.n - s.n) ++ s3.L) g=false:=hg
   rw [Eo,Bool.or_eq_false_iff] at hg'
   obtain ⟨f1,f2⟩:=f0.h g hg'.2
   exact ⟨f1,(Na _ _ hg'.1).trans f2⟩
  ·cases h1
 ·cases he
theorem Cc {P : Program} {it : ItE} (hit : ItFrm it) {q : Nat} {Y : Option Yd} {nT : Nat} : ∀ (c : Code) {fr : Bool} {s s' : St} {e : Ex} {os : List Ob}, Bw P it q Y nT c fr s = some (e, s', os) -> Frm (Gz c) s s'
 | .skip,fr,s,s',e,os,he=>by cases he; exact Frm.refl _ _
 | .region id ops false,fr,s,s',e,os,he=>by
   rw [Bw] at he
   refine Xv (fun s s' e os he=>?_) he
   unfold A9r at he
   split at he
   ·rename_i h1; cases he; exact Vv h1
   ·cases he
 | .region id ops true,fr,s,s',e,os,he=>by
   rw [Bw] at he
   exact Xv (fun s s' e os he=>A2t he) he
 | .seq x y,fr,s,s',e,os,he=>by
   rw [Bw] at he
   split at he
   ·rename_i s1 o1 h1
    split at he
    ·rename_i e2 s2 o2 h2
     cases he
     exact (Cc hit x h1).trans (Am4 (fun _ _ _ _ h=>Cc hit y h) h2)
    ·cases he
   ·exact (Cc hit x he).mono fun t ht=>by
     rw [Gz,Eo,Bool.or_eq_false_iff] at ht; exact ht.1
 | .cond c x y,fr,s,s',e,os,he=>by
   rw [Bw] at he
   refine Xv (fun s s' e os h=>?_) he
   unfold Ae9 at h
   split at h
   ·split at h
    ·rename_i h2
     cases h
     have:=Cc hit x h2
     exact ⟨fun t ht=>this.t t (by rw [Gz,Eo,Bool.or_eq_false_iff] at ht; exact ht.1),this.h⟩
    ·cases h
   ·split at h
    ·rename_i h2
     cases h
     have:=Cc hit y h2
     exact ⟨fun t ht=>this.t t (by rw [Gz,Eo,Bool.or_eq_false_iff] at ht; exact ht.2),this.h⟩
    ·cases h
   ·cases h
 | .block id c,fr,s,s',e,os,he=>by
   rw [Bw] at he
   refine Xv (fun s s' e os h=>?_) he
   unfold Aqz at h
   split at h
   ·rename_i j s1 o1 h1
    cases h
    exact Cc hit c h1
   ·exact Cc hit c h
 | .loop c, fr, s, s', e, os, he => by
   rw [Bw] at he
   split at he
   ·rename_i N n σ0 σ1 Tx Wx Is I' hI
    split at he
    ·rename_i e1 s1 os1 h1
     cases hb:(!e1.isNm && (Tx N).all (fun p=>Bb (Gz c) p.1 || !p.2.nz)) with
     | false=>rw [hb] at he; cases he
     | true =>
       rw [hb] at he
       cases he
       have hf:=Cc hit c h1
       simp only [bq] at hb
       refine ⟨fun t ht=>?_,fun g hg=>?_⟩
       ·rw [Gz] at ht
        rcases Ani (s:=s) (n:=n) (Wx:=Wx) (J:=I') ht hb.2 with e | e
        ·rw [← e]; exact hf.t t ht
        ·rcases hf.t t ht with e2 | e2
         ·exact .inr (e2.trans e)
         ·exact .inr e2
       ·rw [Eo,Eo,Bool.or_eq_false_iff,Bool.or_eq_false_iff] at hg
        refine ⟨hg.2.2,?_⟩
        rw [(hf.h g hg.1).2]
        show (Em s.H (Wx N))[g]?=_
        rw [Eu,Ry hg.2.1]
        cases s.H[g]? <;> rfl
    ·cases he
   ·rename_i k I' hI
    split at he
    ·rename_i e1 s1 os1 h1
     cases he
     have:=Aag (fun h=>Cc hit c h) h1
     exact ⟨this.t,this.h⟩
    ·cases he
   ·cases he
 | .exit id,fr,s,s',e,os,he=>by cases he; exact Frm.refl _ _
 | .ret,fr,s,s',e,os,he=>by cases he; exact Frm.refl _ _
 | .rangeFunc f ps q b,true,s,s',e,os,he=>by rw [Bw] at he; exact Atk hit he
 | .rangeFunc f ps q b,false,s,s',e,os,he=>by cases he
 | .scope c,fr,s,s',e,os,he=>by cases he
 | .label l,fr,s,s',e,os,he=>by cases he
 | .goto l,fr,s,s',e,os,he=>by cases he
 | .refuse y,fr,s,s',e,os,he=>by cases he
inductive AllR (P:Program) (w:World) (tmps:Array Value):List ResultVar->List Value->Prop
 | nil:AllR P w tmps [] []
 | tmp {t:Nat} {v:Value} {rs:List ResultVar} {vs:List Value} (h:tmps.getD t undef=v) (k:AllR P w tmps rs vs):AllR P w tmps (.tmp t :: rs) (v :: vs)
 | cell {a:Nat} {t:TypeId} {ad:Addr} {v:Value} {rs:List ResultVar} {vs:List Value} (ha:tmps.getD a undef=.pointer (some ad)) (hv:(loadVar t ad).run P w=.ok v w) (k:AllR P w tmps rs vs):AllR P w tmps (.cell a t :: rs) (v :: vs)
theorem AllR.run {P:Program} {w:World} {tmps:Array Value} {rs:List ResultVar} {vs:List Value} (h:AllR P w tmps rs vs) :
   (rs.mapM (m:=Sem) fun
    | .tmp t=>pure (tmps.getD t undef)
    | .cell a t=>do loadVar t (← asAddr (tmps.getD a undef))).run P w=.ok vs w:=by
 induction h with
 | nil=>rfl
 | tmp h k ih =>
   rw [List.mapM_cons,Sem.run_bind]
   simp only [Sem.run_pure,Result.andThen_ok,Sem.run_bind,ih,h]
 | cell ha hv k ih =>
   rename_i a t ad v rs vs
   have e1:Sem.run P (do loadVar t (← asAddr (tmps.getD a undef))) w=.ok v w:=by rw [ha]; exact hv
   rw [List.mapM_cons,Sem.run_bind]
   show (Sem.run P (do loadVar t (← asAddr (tmps.getD a undef))) w).andThen _=_
   rw [e1]
   simp only [Result.andThen_ok,Sem.run_bind,ih,Sem.run_pure]
def Aoa:List Value->Value
 | [x]=>x
 | vs=>.tuple vs.toArray
theorem A40 {P:Program} {w:World} {fn:Func} {tmps:Array Value} (rs:List ResultVar) (vs:List Value) (v:Value) (hr:fn.results.toList=rs) (h:AllR P w tmps rs vs) (hv:Aoa vs=v) :
   (results fn tmps).run P w=.ok v w:=by
 unfold results
 rw [Array.mapM_eq_mapM_toList,hr]
 have q:=h.run
 have e:(List.toArray <$> (rs.mapM (m:=Sem) fun
  | .tmp t=>pure (tmps.getD t undef)
  | .cell a t=>do loadVar t (← asAddr (tmps.getD a undef)))).run P w=.ok vs.toArray w:=by
  rw [map_eq_pure_bind,Sem.run_bind,q]; rfl
 rw [Sem.run_bind]
 have e2:∀ r:Result (Array Value),r=.ok vs.toArray w->(r.andThen fun a w'=>Sem.run P (pure (if h:a.size=1 then a[0] else Value.tuple a)) w')=.ok v w:=by
  rintro _ rfl
  rw [← hv]
  match vs with
  | []=>rfl
  | [x]=>rfl
  | x :: y :: l=>rfl
 exact e2 _ e
structure Bse:Type 1 where
 M:List Nat
 w:World
 ρ:Env
 F:Nat->Bool
def Ext (B:Bse) (X:Ctx):Prop:=X.M=B.M/\X.w=B.w/\∀ i,B.F i=true->i < X.k/\X.fx i=true/\X.ρ i=B.ρ i
def YS (P:Program) (B:Bse) (Y:Option Yd):Prop:=∀ X,Ext B X->YOk P X Y
def AtD (C:List Nat->Ctx) (D:List Nat->List Deferred) (nT:Nat) (s:St) (a:Act) (w:World):Prop:=∃ l,At (C l) (D l) nT s a w
section
variable {X:Ctx} {ρ:Env} {H:List B} {w w':World} {P:Program} {T:List (Nat × V)} {nT n:Nat} {a:Act} {ops:Array Oper} {ρl:Option Nat} {Q:Exit->Act->World->Prop} {ds:List Deferred} {Y:Option Yd} {C:List Nat->Ctx} {D:List Nat->List Deferred} {q:Nat}
theorem AtD.as {s s':St} (h:AtD C D nT s a w) (hT:s'.T=s.T) (hH:s'.H=s.H):AtD C D nT s' a w:=by
 obtain ⟨l,ρ,h1,h2,h3⟩:=h
 exact ⟨l,ρ,by rw [hH]; exact h1,by rw [hT]; exact h2,by rw [hT,hH]; exact h3⟩
theorem AtD.base {s:St} (h:AtD C D nT s a w) (hC:∀ l l',(C l).k=(C l').k/\(C l).fx=(C l').fx) (l':List Nat):Base (C l') s:=by
 obtain ⟨l,h⟩:=h
 have b:=h.base
 exact ⟨b.cl,b.tl,fun i hi=>b.kl i (by rw [(hC l l').1]; exact hi),fun i c hi hf=>b.nr i c (by rw [(hC l l').1]; exact hi) (by rw [(hC l l').2]; exact hf)⟩
theorem Akl (hC : ∀ l l', (C l).k = (C l').k /\ (C l).fx = (C l').fx) {c : Code} {m : List Nat} {f : St -> R} (hfr : ∀ s s' e os, f s = some (e, s', os) -> Frm m s s')
    (hf:∀ {Q:Exit->Act->World->Prop} {s s':St} {e:Ex} {a:Act} {w:World} {os O:List Ob},f s=some (e,s',os)->Good P s.I (os ++ O)->AtD C D nT s a w->(∀ a' w',AtD C D nT s' a' w'->Good P s'.I O->Q e.out a' w')->XC ρl P c Q a w)
    {Q:Exit->Act->World->Prop} {s s':St} {e:Ex} {a:Act} {w:World} {os O:List Ob} {k0:Nat} (he:csE k0 m f s=some (e,s',os)) (hg:Good P s.I (os ++ O)) (hA:AtD C D nT s a w) (k:∀ a' w',AtD C D nT s' a' w'->Good P s'.I O->Q e.out a' w'):XC ρl P c Q a w:=by
 unfold csE at he
 split at he
 ·rename_i kk q n σ0 σ1 Tj Wj Ia Ib I' hI
  cases hk:(!Nat.beq kk k0) with
  | true=>rw [hk] at he; exact hf he hg hA k
  | false =>
  rw [hk] at he
  simp only [cond_false] at he
  cases hb:((Tj true).all (fun p=>Bb m p.1) && (Tj false).all (fun p=>Bb m p.1)) with
  | false=>rw [hb] at he; cases he
  | true =>
    rw [hb] at he
    simp only [cond_true,Option.some.injEq,Prod.mk.injEq] at he
    obtain ⟨rfl,rfl,rfl⟩:=he
    rw [hI,List.cons_append] at hg
    generalize hq1:csF m s σ0 (Tj true) (Wj true) (f ⟨s.T,s.H,s.n,Ia,[]⟩)=fa at hg
    generalize hq2:csF m s σ1 (Tj false) (Wj false) (f ⟨s.T,s.H,s.n,Ib,[]⟩)=fb at hg
    cases hg with
    | cs _ _ _ _ _ _ _ ha hb' hg =>
      rename_i Oa Oc
      cases q with
      | true =>
        unfold csF at hq1
        split at hq1
        ·rename_i s1 os1 h6
         simp only [List.cons.injEq,Ob.pj.injEq,bq] at hq1
         obtain ⟨⟨⟨b1,b2⟩,b5,b6⟩,rfl⟩:=hq1
         refine hf h6 (O:=[]) (by rw [List.append_nil]; exact ha rfl) (hA.as rfl rfl) fun a2 w2 ⟨l2,hA2⟩ _=>k a2 w2 ⟨l2,A68 (hA.base hC l2) hA2 (fun t ht _=>(hfr _ _ _ _ h6).t t ht) (fun g hg _=>((hfr _ _ _ _ h6).h g hg).2) b2 b5 b6⟩ hg
        ·cases hq1
      | false =>
        unfold csF at hq2
        split at hq2
        ·rename_i s1 os1 h6
         simp only [List.cons.injEq,Ob.pj.injEq,bq] at hq2
         obtain ⟨⟨⟨b1,b2⟩,b5,b6⟩,rfl⟩:=hq2
         refine hf h6 (O:=[]) (by rw [List.append_nil]; exact hb' rfl) (hA.as rfl rfl) fun a2 w2 ⟨l2,hA2⟩ _=>k a2 w2 ⟨l2,A68 (hA.base hC l2) hA2 (fun t ht _=>(hfr _ _ _ _ h6).t t ht) (fun g hg _=>((hfr _ _ _ _ h6).h g hg).2) b2 b5 b6⟩ hg
        ·cases hq2
 ·exact hf he hg hA k
theorem Akm (hC:∀ l l',(C l).k=(C l').k/\(C l).fx=(C l').fx) {c:Code} {m:List Nat} {f:St->R} (hfr:∀ s s' e os,f s=some (e,s',os)->Frm m s s')
    (hf:∀ {Q:Exit->Act->World->Prop} {s s':St} {e:Ex} {a:Act} {w:World} {os O:List Ob},f s=some (e,s',os)->Good P s.I (os ++ O)->AtD C D nT s a w->(∀ a' w',AtD C D nT s' a' w'->Good P s'.I O->Q e.out a' w')->XC ρl P c Q a w)
    {Q:Exit->Act->World->Prop} {s s':St} {e:Ex} {a:Act} {w:World} {os O:List Ob} {k0:Nat} (he:csH k0 m f s=some (e,s',os)) (hg:Good P s.I (os ++ O)) (hA:AtD C D nT s a w) (k:∀ a' w',AtD C D nT s' a' w'->Good P s'.I O->Q e.out a' w'):XC ρl P c Q a w:=Akl hC (fun _ _ _ _ h=>A4q hfr h) (fun he hg hA k=>Akl hC hfr hf he hg hA k) he hg hA k
theorem Akn (hC:∀ l l',(C l).k=(C l').k/\(C l).fx=(C l').fx) {c:Code} {m:List Nat} {f:St->R} (hfr:∀ s s' e os,f s=some (e,s',os)->Frm m s s')
    (hf:∀ {Q:Exit->Act->World->Prop} {s s':St} {e:Ex} {a:Act} {w:World} {os O:List Ob},f s=some (e,s',os)->Good P s.I (os ++ O)->AtD C D nT s a w->(∀ a' w',AtD C D nT s' a' w'->Good P s'.I O->Q e.out a' w')->XC ρl P c Q a w)
    {Q:Exit->Act->World->Prop} {s s':St} {e:Ex} {a:Act} {w:World} {os O:List Ob} {k0:Nat} (he:csI k0 m f s=some (e,s',os)) (hg:Good P s.I (os ++ O)) (hA:AtD C D nT s a w) (k:∀ a' w',AtD C D nT s' a' w'->Good P s'.I O->Q e.out a' w'):XC ρl P c Q a w:=Akm hC (fun _ _ _ _ h=>A4s hfr h) (fun he hg hA k=>Akm hC hfr hf he hg hA k) he hg hA k
theorem A4r (hC:∀ l l',(C l).k=(C l').k/\(C l).fx=(C l').fx) {c:Code} {m:List Nat} {f:St->R} (hfr:∀ s s' e os,f s=some (e,s',os)->Frm m s s')
    (hf:∀ {Q:Exit->Act->World->Prop} {s s':St} {e:Ex} {a:Act} {w:World} {os O:List Ob},f s=some (e,s',os)->Good P s.I (os ++ O)->AtD C D nT s a w->(∀ a' w',AtD C D nT s' a' w'->Good P s'.I O->Q e.out a' w')->XC ρl P c Q a w)
    {Q:Exit->Act->World->Prop} {s s':St} {e:Ex} {a:Act} {w:World} {os O:List Ob} {k0:Nat} (he:csG k0 m f s=some (e,s',os)) (hg:Good P s.I (os ++ O)) (hA:AtD C D nT s a w) (k:∀ a' w',AtD C D nT s' a' w'->Good P s'.I O->Q e.out a' w'):XC ρl P c Q a w:=by
 unfold csG at he
 split at he
 ·exact Akn hC (fun _ _ _ _ h=>A4t hfr h) (fun he hg hA k=>Akn hC hfr hf he hg hA k) he hg hA k
 ·exact hf he hg hA k
structure ItOk (P:Program) (it:ItE):Prop where
 out:∀ {q:Nat} {Y:Option Yd} {nT:Nat} {c:Code} {X:Ctx} {Bs:Bse} {Q:Exit->Act->World->Prop} {s s':St} {e:Ex} {a:Act} {w:World} {os O:List Ob},q < X.k->X.fx q=true->(∀ l,Ext Bs (X.wd q l))->YS P Bs Y ->
 it q Y nT c s=some (e,s',os)->Good P s.I (os ++ O)->AtD (X.wd q) Xe nT s a w->(∀ a' w',AtD (X.wd q) Xe nT s' a' w'->Good P s'.I O->Q e.out a' w')->XC none P c Q a w
structure Hyp (P:Program) (q:Nat) (Y:Option Yd) (C:List Nat->Ctx) (D:List Nat->List Deferred) (ρl:Option Nat) (fr:Bool):Prop where
 same:∀ l l',(C l).k=(C l').k/\(C l).fx=(C l').fx
 ys:∃ Bs,(∀ l,Ext Bs (C l))/\YS P Bs Y
 top:fr=true->ρl=none/\∃ X:Ctx,C=X.wd q/\D=Xe/\q < X.k/\X.fx q=true
def Aam (P:Program) (q:Nat) (Y:Option Yd) (nT:Nat) (c:Code) (fr:Bool) (f:St->R):Prop:=∀ {C:List Nat->Ctx} {D:List Nat->List Deferred} {ρl:Option Nat} {Q:Exit->Act->World->Prop} {s s':St} {e:Ex} {a:Act} {w:World} {os O:List Ob},Hyp P q Y C D ρl fr ->
 f s=some (e,s',os)->Good P s.I (os ++ O)->AtD C D nT s a w->(∀ a' w',AtD C D nT s' a' w'->Good P s'.I O->Q e.out a' w')->XC ρl P c Q a w
theorem Qa {H:List B} {q:Nat} (h:O1 H q=true):H[q]?=some .dfs:=by
 unfold O1 at h
 split at h
 ·assumption
 ·cases h
theorem Zn {H:List B} {q:Nat} (h:Sj H q=true):H[q]?=some .free:=by
 unfold Sj at h
 split at h
 ·assumption
 ·cases h
theorem A5t {H:List B} {q:Nat} {b:Bool} (h:A90 H q b=true):H[q]?=some (.lo (bif b then .busy else .ready) none):=by
 unfold A90 at h
 split at h
 ·cases b <;> first | assumption | cases h
 ·cases b <;> first | assumption | cases h
 ·cases h
theorem Pw {H:List B} {n i:Nat} (h:Km H n=true) (hi:i < n):liv H i=true:=by
 simp only [Km,bq] at h
 have hn:=Nat.le_of_ble_eq_true h.1
 have hb:=List.all_eq_true.1 h.2 _ (List.getElem_mem (l:=H.take n) (show i < (H.take n).length by rw [List.length_take]; omega))
 rw [List.getElem_take] at hb
 unfold liv
 rw [List.getElem?_eq_getElem (by omega)]
 generalize H[i]'(by omega)=b at hb
 cases b <;> first | rfl | cases hb
theorem Sv {H:List B} {n i:Nat} (h:A41 H n=true) (hi:liv H i=true):i < n:=by
 rcases Nat.lt_or_ge i n with h1 | h1
 ·exact h1
 ·obtain ⟨b,hb,hf⟩:=Bq.1 hi
  have:(H.drop n)[i - n]?=some b:=by rw [List.getElem?_drop,show n + (i - n)=i by omega]; exact hb
  have:=List.all_eq_true.1 h _ (List.mem_of_getElem? this)
  split at this
  ·exact absurd rfl hf
  ·cases this
theorem A39 {H2 : List B} {j : Nat} (hj : j < H2.length) : ∀ L : List Nat, look j (Tu H2 L) = bif Bb L j then H2[j]? else none
 | []=>rfl
 | i :: L => by
   unfold Tu
   rw [Bb]
   cases hb:Nat.beq j i with
   | true =>
     have e:=Nat.eq_of_beq_eq_true hb
     subst e
     rw [List.getElem?_eq_getElem hj]
     simp only [List.filterMap_cons,List.getElem?_eq_getElem hj,Option.map_some,look,Nat.beq_refl,cond_true]
   | false =>
     simp only [cond_false]
     have ih:=A39 hj L
     unfold Tu at ih
     cases hi:H2[i]? with
     | none=>rw [List.filterMap_cons_none (by rw [hi]; rfl)]; exact ih
     | some b =>
       rw [List.filterMap_cons_some (by rw [hi]; rfl),look]
       have:Nat.beq i j=false:=by
        cases hq:Nat.beq i j with
        | false=>rfl
        | true=>rw [Nat.eq_of_beq_eq_true hq,Nat.beq_refl] at hb; cases hb
       rw [this]; exact ih
theorem Aj5 {H H2:List B} {L:List Nat} (hl:H2.length=H.length) (h:∀ j,Bb L j=false->H2[j]?=H[j]?):Em H (Tu H2 L)=H2:=by
 refine List.ext_getElem? fun j=>?_
 rw [Eu]
 rcases Nat.lt_or_ge j H.length with h1 | h1
 ·rw [A39 (by omega) L]
  cases hm:Bb L j with
  | true=>rw [List.getElem?_eq_getElem h1,List.getElem?_eq_getElem (by omega)]; rfl
  | false=>rw [h j hm,List.getElem?_eq_getElem h1]; rfl
 ·rw [List.getElem?_eq_none h1,List.getElem?_eq_none (by omega)]; rfl
theorem putL_ok {ρ:Env} {nT:Nat}:∀ (ps:List Tmp) (xs:List V) {T:List (Nat × V)} {a:Act},ActOk [] ρ nT T a->ActOk [] ρ nT (putL nT ps xs T) { tmps:=(ps.zip (V.dens ρ xs)).foldl (fun t (p:Tmp × Value)=>t.setIfInBounds p.1 p.2) a.tmps,defers:=[] }
 | [],xs,T,a,h=>by rw [putL]; exact ⟨h.sz,rfl,h.t⟩; intro _ _ _ _ e; cases e
 | p :: ps,[],T,a,h=>by rw [putL]; rw [V.dens]; exact ⟨h.sz,rfl,h.t⟩; intro _ _ _ _ _ e; cases e
 | p :: ps,x :: xs,T,a,h=>by
   rw [putL,V.dens,List.zip_cons_cons,List.foldl_cons]
   have:=putL_ok ps xs (h.put (some p) x (.inr rfl))
   exact this
theorem putL_lt {m:Nat->Bool} {nT:Nat}:∀ (ps:List Tmp) (xs:List V) {T:List (Nat × V)},tlt m T->V.lts m xs=true->tlt m (putL nT ps xs T)
 | [],xs,T,h,_=>by rw [putL]; exact h; intro _ _ _ _ e; cases e
 | p :: ps,[],T,h,_=>by rw [putL]; exact h; intro _ _ _ _ _ e; cases e
 | p :: ps,x :: xs,T,h,hx=>by
   simp only [V.lts,bq] at hx
   rw [putL]
   exact putL_lt ps xs (Ym h hx.1) hx.2
theorem Aql (ps:Array Tmp) (vs:List Value) (t:Array Value):(ps.zip vs.toArray).foldl (fun tmps (t,a)=>tmps.setIfInBounds t a) t=(ps.toList.zip vs).foldl (fun t (p:Tmp × Value)=>t.setIfInBounds p.1 p.2) t:=by
 rw [← Array.foldl_toList,Array.toList_zip]
theorem Vy {H:List B} {j:Nat}:∀ {k:Nat},Bb (Ml H 0 k) j=true->H[j]?=some .free/\j < k
 | 0,h=>by cases h
 | k + 1,h=>by
   unfold Ml at h
   rw [Nat.zero_add] at h
   split at h
   ·rename_i hq
    simp only [cond_true,Bb] at h
    cases hb:Nat.beq j k with
    | true=>rw [Nat.eq_of_beq_eq_true hb]; exact ⟨hq,by omega⟩
    | false =>
      rw [hb] at h
      obtain ⟨h1,h2⟩:=Vy h
      exact ⟨h1,by omega⟩
   ·obtain ⟨h1,h2⟩:=Vy h
    exact ⟨h1,by omega⟩
theorem Zg {j:Nat} {b:B}:∀ (l:List Nat) (H:List B),Bb l j=true->(O3 H l)[j]?=some b->b=.gone
 | [],H,h,_=>by cases h
 | i :: l, H, h, hb => by
   rw [O3] at hb
   cases hm:Bb l j with
   | true=>exact Zg l _ hm hb
   | false =>
     rw [Na _ _ hm] at hb
     have e:j=i:=by
      simp only [Bb,hm] at h
      cases hq:Nat.beq j i with
      | true=>exact Nat.eq_of_beq_eq_true hq
      | false=>rw [hq] at h; cases h
     subst e
     rw [List.getElem?_set_self (by
      have:=(List.getElem?_eq_some_iff.1 hb).1
      rwa [List.length_set] at this)] at hb
     exact (Option.some.inj hb).symm
theorem A4e {a b:Nat} (h:a < b):Nat.blt a b=true:=Nat.ble_eq.mpr h
theorem Ayf {a b:Nat} (h:Nat.blt a b=true):a < b:=Nat.le_of_ble_eq_true h
theorem J3 {H:List B} {n i:Nat} (h:De H n i=true):i < n/\Gc H i=true:=by
 simp only [De,bq] at h
 exact ⟨Ayf h.1,h.2⟩
theorem B0s {q n nn D : Nat} {Y : Option Yd} {nT : Nat} {asg bd : Code} {fa fb : St -> R} (hfa : Aam P q Y nT asg false fa) (hfb : Aam P q Y nT bd false fb) (fra : ∀ s s' e os, fa s = some (e, s', os) -> ∀ g, Bb s'.L g = false -> Bb s.L g = false /\ s'.H[g]? = s.H[g]?)
   (frb:∀ s s' e os,fb s=some (e,s',os)->∀ g,Bb s'.L g=false->Bb s.L g=false/\s'.H[g]?=s.H[g]?)
   {X':Ctx} {ρ:Env} {H0:List B} {w:World} {ps:Array Tmp} {T0:List (Nat × V)} {a0:Act} {xs:List V} {I:List It} {r:Rs} {O:List Ob} {fnF:FuncId} {df:Nat}
   (hys:∀ {H:List B} {nn:Nat},Emb X' ρ H w->H[nn]?=some .free->∃ Bs,Ext Bs (X'.rb ρ H nn)/\YS P Bs Y)
   (hρn:ρ n=Xk D fun st pe=>.loop { state:=st,pending:=pe,fn:=fnF,tmps:=a0.tmps,params:=ps,assign:=asg,body:=bd,defers:=df })
   (ha:ActOk [] ρ nT T0 { tmps:=a0.tmps,defers:=[] }) (ht0:tlt (liv H0) T0) (hE0:Emb X' ρ H0 w) (hx0:V.lts (liv H0) xs=true) (he:rdE fa fb nT ps.toList T0 n xs H0 nn I=some r) (hg:Good P I (r.os ++ O)) :
   YieldAt (FW none) 0 P (ρ n).g (V.dens ρ xs).toArray w fun e w'=>∃ u,e=.returned u/\Aft X' ρ H0 r u w'/\Good P r.I O:=by
 unfold rdE at he
 cases hb:(Nat.beq xs.length ps.toList.length && Sj H0 nn && Km (O3 H0 (Ml H0 0 nn)) nn && A41 H0 nn && A90 H0 n false) with
 | false=>rw [hb] at he; cases he
 | true =>
 rw [hb] at he
 simp only [bq,cond_true] at hb he
 obtain ⟨⟨⟨⟨c1,c2⟩,c3⟩,c4⟩,c5⟩:=hb
 have c1:=Nat.eq_of_beq_eq_true c1
 have c20:=Zn c2
 have c50:=A5t c5
 have hnlt:n < nn:=Sv c4 (Bq.2 ⟨_,c50,fun e=>by cases e⟩)
 obtain ⟨L0',hL0⟩:∃ l,l=Ml H0 0 nn:=⟨_,rfl⟩
 obtain ⟨H,hH⟩:∃ H,H=O3 H0 L0':=⟨_,rfl⟩
 rw [← hL0,← hH] at c3 he
 have hoth:∀ j,Bb L0' j=false->H[j]?=H0[j]?:=fun j hj=>by rw [hH]; exact Na _ _ hj
 have hfree:∀ j,Bb L0' j=true->H0[j]?=some .free/\j < nn:=fun j hj=>by rw [hL0] at hj; exact Vy hj
 have hno:∀ {j:Nat} {b:B},H0[j]?=some b->b ≠ .free->Bb L0' j=false:=fun {j b} hb hf=>by
   cases hq:Bb L0' j with
   | false=>rfl
   | true=>have:=(hfree j hq).1; rw [hb] at this; cases this; exact absurd rfl hf
 have c2:H[nn]?=some .free:=by
   rw [hoth nn (by
    cases hq:Bb L0' nn with
    | false=>rfl
    | true=>have:=(hfree nn hq).2; omega)]; exact c20
 have c5:H[n]?=some (.lo .ready none):=by rw [hoth n (hno c50 fun e=>by cases e)]; exact c50
 have hlv:∀ i,liv H0 i=true->liv H i=true:=fun i hi=>by
   obtain ⟨b,hb,hf⟩:=Bq.1 hi
   exact Bq.2 ⟨b,by rw [hoth i (hno hb hf)]; exact hb,hf⟩
 obtain ⟨hE,ht⟩:Emb X' ρ H w/\tlt (liv H) T0:=by rw [hH,hL0]; exact Zh _ hE0 ht0 U3
 have hx:=V.lts_mono hlv _ hx0
 have hnr:Gc H n=true:=by unfold Gc; rw [c5]; rfl
 have hfx0:∀ i,De H0 nn i=true->Gc H i=true:=fun i hi=>by
   obtain ⟨h1,h2⟩:=J3 hi
   unfold Gc at h2 ⊢
   cases hq:Bb L0' i with
   | false=>rw [hoth i hq]; exact h2
   | true =>
     cases hb:H[i]? with
     | none=>rfl
     | some b =>
       have:b=.gone:=by
        rw [hH] at hb
        exact Zg _ _ hq hb
       subst this; rfl
 split at he
 ·rename_i s1 o1 h1
  cases hb1:A90 s1.H n false with
  | false=>rw [hb1] at he; cases he
  | true =>
  rw [hb1] at he
  have hb1:=A5t hb1
  simp only [cond_true] at he
  split at he
  ·rename_i e s2 o2 h2
   cases hb2:(A90 s2.H n true && Nat.beq s2.H.length H0.length) with
   | false=>rw [hb2] at he; cases he
   | true =>
   rw [hb2] at he
   simp only [bq] at hb2
   have hb3:=A5t hb2.1
   have hb4:=Nat.eq_of_beq_eq_true hb2.2
   simp only [cond_true,Option.some.injEq] at he
   subst he
   simp only [List.append_assoc] at hg
   obtain ⟨Bs,hBs,hYS⟩:=hys hE c2
   have hk:X'.k<=nn:=hE.below c2
   have hEr:Emb (X'.rb ρ H nn) ρ H w:=hE.rb fun i hi=>Pw c3 hi
   have hyp:∀ ρl,Hyp P q Y (fun _=>X'.rb ρ H nn) (fun _=>[]) ρl false:=fun ρl=>⟨fun _ _=>⟨rfl,rfl⟩,⟨Bs,fun _=>hBs,hYS⟩,fun h=>by cases h⟩
   have O6:∀ {ρ':Env} {H':List B} {w':World},Emb (X'.rb ρ H nn) ρ' H' w'->∀ i,i < nn->Gc H i=true->ρ' i=ρ i:=fun h i hi hf=>h.ag i hi hf
   have hl:=hE.loAt c5
   rw [hρn] at hl
   have hgD:(ρ n).g=D:=by rw [hρn]; rfl
   have hsz:(V.dens ρ xs).toArray.size=ps.size:=by rw [V.dens_map]; simpa using c1
   have hy:=run_yield (P:=P) (args:=(V.dens ρ xs).toArray) hl hsz
   rw [hgD]
   rw [show (Xk D _).g=D from rfl] at hl hy
   -- the state at the round's beginning
   have hA0:AtD (fun _=>X'.rb ρ H nn) (fun _=>[]) nT ⟨putL nT ps.toList xs T0,H,nn,I,L0'⟩ { tmps:=(ps.zip (V.dens ρ xs).toArray).foldl (fun tmps (t,a)=>tmps.setIfInBounds t a) a0.tmps,defers:=[] } w:=by
     refine ⟨[],ρ,hEr,?_,putL_lt _ _ ht hx⟩
     rw [Aql]
     have:=putL_ok ps.toList xs ha
     exact this
   refine ⟨_,_,_,_,hy,roundIn_of_wpIn trivial ?_⟩
   refine (hfa (hyp (some D)) h1 hg hA0 fun a1 w1 hA1 hg1=>?_).out
   obtain ⟨_,ρ2,hE2,ha2,ht2⟩:=hA1
   have e2:ρ2 n=ρ n:=O6 hE2 n hnlt hnr
   have hl2:=hE2.loAt hb1
   rw [e2,hρn] at hl2
   refine ⟨_,run_beginRound hl2 rfl,?_⟩
   have hE3:=hE2.loU hb1 .busy none
   rw [e2,hρn] at hE3
   refine (hfb (hyp (some D)) h2 hg1 ⟨[],ρ2,hE3,ha2,A1h (Do fun e=>by cases e) ht2⟩ fun a3 w3 hA3 hg3=>?_).out
   obtain ⟨_,ρ3,hE4,ha4,ht4⟩:=hA3
   have e3:ρ3 n=ρ n:=O6 hE4 n hnlt hnr
   have hl3:=hE4.loAt hb3
   rw [e3,hρn] at hl3
   have fin:∃ v w',(Instr.endRound D e.cd).run P w3=.ok v w'/\∃ u,Ending.returned v=.returned u/\Aft X' ρ H0 ⟨.v (.bool e.isNm),Tu (s2.H.set n (.lo (bif e.isNm then .ready else .done) e.cd)) (n :: s2.L),s2.n - nn,s2.I,o1 ++ o2,some (De H0 nn)⟩ u w'/\Good P s2.I O:=by
     have hE5:=hE4.loU hb3 (bif e.isNm then .ready else .done) e.cd
     rw [e3,hρn] at hE5
     refine ⟨_,_,run_endRound e.cd hl3,_,rfl,?_,hg3⟩
     have hset:Em H0 (Tu (s2.H.set n (.lo (bif e.isNm then .ready else .done) e.cd)) (n :: s2.L))=s2.H.set n (.lo (bif e.isNm then .ready else .done) e.cd):=by
      refine Aj5 (by rw [List.length_set]; exact hb4) fun j hj=>?_
      have hjn:Nat.beq j n=false:=by
       cases hq:Nat.beq j n with
       | false=>rfl
       | true=>simp only [Bb,hq] at hj; cases hj
      simp only [Bb,hjn,cond_false] at hj
      have hne:n ≠ j:=fun e=>by rw [e,Nat.beq_refl] at hjn; cases hjn
      obtain ⟨f1,f2⟩:=frb _ _ _ _ h2 j hj
      simp only [Bb,hjn,cond_false] at f1
      rw [List.getElem?_set_ne hne,f2]
      show (s1.H.set n _)[j]?=_
      rw [List.getElem?_set_ne hne]
      obtain ⟨f3,f4⟩:=fra _ _ _ _ h1 j f1
      rw [f4]
      exact hoth j f3
     have hbool:e.cd.isNone=e.isNm:=by cases e <;> rfl
     have hst:(if e.cd.isNone then LoopState.ready else LoopState.done)=bif e.isNm then .ready else .done:=by rw [hbool]; cases e.isNm <;> rfl
     refine ⟨ρ3,fun i hi hkp=>?_,by rw [V.den,hbool],?_,by simp [V.lt],fun i hi=>?_,rfl⟩
     ·simp only [Rs.keep] at hkp
      exact O6 hE4 i (Sv c4 hi) (hfx0 i hkp)
     ·show Emb X' ρ3 (Em H0 (Tu _ (n :: s2.L))) _
      rw [hset]
      have hE6:Emb (X'.rb ρ H nn) ρ3 (s2.H.set n (.lo (bif e.isNm then .ready else .done) e.cd)) (w3.putObj D (.loop { state:=if e.cd.isNone then LoopState.ready else LoopState.done,pending:=e.cd,fn:=fnF,tmps:=a0.tmps,params:=ps,assign:=asg,body:=bd,defers:=df })):=by rw [hst]; exact hE5
      refine hE6.bk rfl rfl (fun i hi hf=>?_) (fun i hi=>hE6.kl i (Nat.lt_of_lt_of_le hi hk))
      obtain ⟨f1,f2⟩:=hE.fixd c2 hi hf
      exact ⟨f1,f2,hE.ag i hi hf⟩
     ·show liv (Em H0 (Tu _ (n :: s2.L))) i=true
      rw [hset]
      exact hE5.kl i (Sv c4 hi)
   cases e with
   | nm=>exact fin
   | ex id=>exact fin
   | rt=>exact fin
  ·cases he
 ·cases he
theorem Aem {ρ:Env} {args:List V} {nT:Nat} (h:args.length<=nT):ActOk [] ρ nT (Ps args 0) { tmps:=(V.dens ρ args).toArray ++ Array.replicate (nT - (V.dens ρ args).toArray.size) undef,defers:=[] }:=by
 have hsz:(V.dens ρ args).length=args.length:=by rw [V.dens_map,List.length_map]
 refine ⟨by simp [hsz]; omega,rfl,fun i=>?_⟩
 rw [Vu,if_pos (Nat.zero_le _),Nat.sub_zero]
 cases hi:args[i]? with
 | none=>exact .inl rfl
 | some x =>
   refine .inr ?_
   have hil:=(List.getElem?_eq_some_iff.1 hi).1
   rw [Array.getElem?_append_left (by simp [hsz]; exact hil)]
   simp [V.dens_map,hi]
theorem Aen {m:Nat->Bool} {args:List V} (h:V.lts m args=true):tlt m (Ps args 0):=fun i=>by
 rw [Vu,if_pos (Nat.zero_le _),Nat.sub_zero]
 cases hi:args[i]? with
 | none=>simp [V.lt]
 | some x=>exact (V.lts_iff.1 h) x (List.mem_of_getElem? hi)
theorem Abv {f:Nat->Bool} {T:List (Nat × V)} (i:Nat):V.lt f (Ay (Ki (some f) T) i)=true:=by
 rw [Mx]
 cases hh:V.lt f (Ay T i) with
 | true=>exact hh
 | false=>simp [V.lt]
theorem B0u {it:ItE} (hit:ItOk P it) {asg bd:Code} {fa fb:St->R} (hfa:Aam P q Y nT asg false fa) (hfb:Aam P q Y nT bd false fb) (fra:∀ s s' e os,fa s=some (e,s',os)->∀ g,Bb s'.L g=false->Bb s.L g=false/\s'.H[g]?=s.H[g]?)
   (frb:∀ s s' e os,fb s=some (e,s',os)->∀ g,Bb s'.L g=false->Bb s.L g=false/\s'.H[g]?=s.H[g]?) {f:Operand} {ps:Array Tmp} {C:List Nat->Ctx} {D:List Nat->List Deferred} {ρl:Option Nat} {Q:Exit->Act->World->Prop} {s s':St} {e:Ex} {a:Act} {w:World} {os O:List Ob}
   (hh:Hyp P q Y C D ρl true) (he:rgE P it q nT fa fb f ps.toList s=some (e,s',os)) (hg:Good P s.I (os ++ O)) (hA:AtD C D nT s a w) (k:∀ a' w',AtD C D nT s' a' w'->Good P s'.I O->Q e.out a' w'):XC ρl P (.rangeFunc f ps asg bd) Q a w:=by
 obtain ⟨rfl,X,rfl,rfl,hqk,hqf⟩:=hh.top rfl
 obtain ⟨Bs,hBs,hYS⟩:=hh.ys
 obtain ⟨l,ρ,hE,ha,ht⟩:=hA
 unfold rgE at he
 split at he
 case h_2=>cases he
 rename_i gf lb hf
 split at he
 case h_2=>cases he
 rename_i fn hfn
 split at he
 case h_2=>cases he
 rename_i c hc
 cases hb:(Jl P gf && O1 s.H q && Sj s.H s.n && Sj s.H (s.n + 1) && Km s.H s.n && Nat.ble (lb.length + 1) fn.ntmps && fn.results.toList.isEmpty && lb.all V.nz) with
 | false=>rw [hb] at he; cases he
 | true =>
 rw [hb] at he
 simp only [bq,cond_true] at hb he
 obtain ⟨⟨⟨⟨⟨⟨⟨c1,c2⟩,c3⟩,c4⟩,c5⟩,c6⟩,c7⟩,c8⟩:=hb
 have c2:=Qa c2
 have c3:=Zn c3
 have c4:=Zn c4
 have c6:=Nat.le_of_ble_eq_true c6
 have c7:fn.results.toList=[]:=List.isEmpty_iff.1 c7
 generalize hn:s.n=n at *
 have hqn:q < n:=Nat.lt_of_lt_of_le hqk (hE.below c3)
 have heval:a.eval f=.func (.func gf) #[] (V.dens ρ lb).toArray:=by rw [ha.eval (by rw [hf]; rfl),hf,V.den,V.dens]
 have hlb:V.lts (liv s.H) lb=true:=by
   have:=Gv ht f
   rw [hf] at this
   simp only [V.lt,bq] at this
   exact this.2
 refine ⟨Vg (n:=1) (wpIn_rangeFunc fun fnF hfnF=>?_)⟩
 obtain ⟨r,hr⟩:∃ r:LoopState->Option Code->Obj,r=fun st pe=>.loop { state:=st,pending:=pe,fn:=fnF,tmps:=a.tmps,params:=ps,assign:=asg,body:=bd,defers:=w.heap.size }:=⟨_,rfl⟩
 have E1:=hE.begin c2 hqk hqf c3 c4 r
 generalize hH1:(s.H.set n (.lo .ready none)).set (n + 1) .dfs=H1 at E1 he
 generalize hw1:(w.alloc (.deferred (some []))).alloc (r .ready none)=w1 at E1
 generalize hρ1:((ρ.wl q (w.heap.size :: l)).set n (Xk (w.heap.size + 1) r)).set (n + 1) Loc.nil=ρ1 at E1
 have hent:(Instr.enterLoop fnF a.tmps ps asg bd none).run P w=.ok (w.heap.size + 1,[mark w.heap.size]) w1:=by
   rw [← hw1,hr]; exact run_enterLoop_outer _ _ _ _ _
 -- what is at which number
 have H1n:H1[n]?=some (.lo .ready none):=by
   rw [← hH1,List.getElem?_set_ne (by omega),List.getElem?_set_self (List.getElem?_eq_some_iff.1 c3).1]
 have H1d:H1[n + 1]?=some .dfs:=by
   rw [← hH1,List.getElem?_set_self (by rw [List.length_set]; exact (List.getElem?_eq_some_iff.1 c4).1)]
 have H1o:∀ i,i < n->H1[i]?=s.H[i]?:=fun i hi=>by
   rw [← hH1,List.getElem?_set_ne (by omega),List.getElem?_set_ne (by omega)]
 have fxo:∀ i,i < n->Gc H1 i=Gc s.H i:=fun i hi=>by unfold Gc; rw [H1o i hi]
 have fxn:Gc H1 n=true:=by unfold Gc; rw [H1n]; rfl
 have fxd:Gc H1 (n + 1)=true:=by unfold Gc; rw [H1d]; rfl
 have ρn:ρ1 n=Xk (w.heap.size + 1) r:=by
   rw [← hρ1]; unfold Env.set; rw [if_neg (by omega),if_pos rfl]
 have ρd:ρ1 (n + 1)=Loc.nil:=by rw [← hρ1]; unfold Env.set; rw [if_pos rfl]
 have ρo:∀ i,i < n->ρ1 i=(ρ.wl q (w.heap.size :: l)) i:=fun i hi=>by
   rw [← hρ1]; unfold Env.set; rw [if_neg (by omega),if_neg (by omega)]
 have liv1:∀ i,i < n + 2->liv H1 i=true:=fun i hi=>by
   rcases Nat.lt_or_ge i n with h1 | h1
   ·have:=Pw c5 h1
    unfold liv at this ⊢
    rw [H1o i h1]; exact this
   ·rcases Nat.lt_or_ge n i with h2 | h2
    ·have:i=n + 1:=by omega
     subst this; exact Bq.2 ⟨_,H1d,fun e=>by cases e⟩
    ·have:i=n:=by omega
     subst this; exact Bq.2 ⟨_,H1n,fun e=>by cases e⟩
 obtain ⟨XX,hXX⟩:∃ XX,XX=(X.wd q (w.heap.size :: l)).rb ρ1 H1 (n + 2):=⟨_,rfl⟩
 have E2:Emb (XX.wd (n + 1) []) ρ1 H1 w1:=by
   have h1:=E1.rb (k:=n + 2) liv1
   rw [← hXX] at h1
   have h2:XX.wd (n + 1) []=XX:=by
    have:XX.ρ.wl (n + 1) []=XX.ρ:=by
     funext i
     by_cases e:i=n + 1
     ·subst e; rw [Env.wl_at]; rw [hXX]; show (ρ1 (n + 1)).wl []=ρ1 (n + 1); rw [ρd]; rfl
     ·exact Env.wl_ne _ _ e
    unfold Ctx.wd; rw [this]
   rw [h2]; exact h1
 have Bs1:∀ l1,Ext ⟨X.M,X.w,ρ1,De H1 (n + 1)⟩ (XX.wd (n + 1) l1):=fun l1=>by
   refine ⟨by rw [hXX]; rfl,by rw [hXX]; rfl,fun i hi=>?_⟩
   obtain ⟨h1,h2⟩:=J3 hi
   refine ⟨by rw [hXX]; show i < n + 2; omega,by rw [hXX]; exact h2,?_⟩
   show (XX.ρ.wl (n + 1) l1) i=ρ1 i
   rw [Env.wl_ne _ _ (by omega),hXX]; rfl
 -- values that stand
 have hden:∀ {ρ':Env},(∀ i,De H1 (n + 1) i=true->ρ' i=ρ1 i)->∀ x,V.lt (De s.H n) x=true->V.den ρ' x=V.den ρ x:=fun {ρ'} h x hx=>by
   have h1:V.den ρ' x=V.den (ρ.wl q (w.heap.size :: l)) x:=V.den_ext (n:=De s.H n) (fun i hi=>by
    obtain ⟨h2,h3⟩:=J3 hi
    rw [h i (by simp only [De,bq]; exact ⟨A4e (by omega),by rw [fxo i h2]; exact h3⟩),ρo i h2]) _ hx
   rw [h1]
   exact V.den_pl (Env.wl_pl _ _ _) x
 have hT0:∀ {ρ':Env},(∀ i,De H1 (n + 1) i=true->ρ' i=ρ1 i)->∀ i,Ay (Ki (some (De s.H n)) s.T) i=.z ∨ a.tmps[i]?=some (V.den ρ' (Ay (Ki (some (De s.H n)) s.T) i)):=fun {ρ'} h i=>by
   rw [hden h _ (Abv i),Mx]
   cases hx:V.lt (De s.H n) (Ay s.T i) with
   | true=>exact ha.t i
   | false=>exact .inl rfl
 have E1b:∀ i,i < X.k->X.fx i=true->i < n/\Gc H1 i=true/\ρ1 i=(X.wd q (w.heap.size :: l)).ρ i:=fun i hi hfi=>by
   obtain ⟨h1,h2⟩:=hE.fixd c3 hi hfi
   exact ⟨h1,by rw [fxo i h1]; exact h2,E1.ag i hi hfi⟩
 -- the rounds
 have hYS1:YS P ⟨X.M,X.w,ρ1,De H1 (n + 1)⟩ (some ⟨n,rdE fa fb nT ps.toList (Ki (some (De s.H n)) s.T) n⟩):=by
   intro X' hX' y hy ρ' H' w' nn xs I rr O' hE' hx _ her hgr
   cases hy
   obtain ⟨x1,x2,x3⟩:=hX'
   have agr:∀ i,De H1 (n + 1) i=true->i < X'.k/\X'.fx i=true/\ρ' i=ρ1 i:=fun i hi=>by
    obtain ⟨h1,h2,h3⟩:=x3 i hi
    exact ⟨h1,h2,(hE'.ag i h1 h2).trans h3⟩
   have hnn:De H1 (n + 1) n=true:=by simp only [De,bq]; exact ⟨A4e (by omega),fxn⟩
   refine B0s (n:=n) (D:=w.heap.size + 1) (a0:=a) (fnF:=fnF) (df:=w.heap.size) hfa hfb fra frb (fun {H2 nn'} hE2 hfr=>⟨Bs,?_,hYS⟩) ?_ ⟨ha.sz,rfl,hT0 fun i hi=>(agr i hi).2.2⟩ (fun i=>V.lt_mono (fun j hj=>?_) _ (Abv i)) hE' hx her hgr
   ·obtain ⟨b1,b2,b3⟩:=hBs (w.heap.size :: l)
    refine ⟨x1.trans b1,x2.trans b2,fun i hi=>?_⟩
    obtain ⟨b4,b5,b6⟩:=b3 i hi
    obtain ⟨h1,h2,h3⟩:=E1b i b4 b5
    obtain ⟨h4,h5,h6⟩:=agr i (by simp only [De,bq]; exact ⟨A4e (by omega),h2⟩)
    obtain ⟨h7,h8⟩:=hE2.fixd hfr h4 h5
    exact ⟨h7,h8,by show ρ' i=Bs.ρ i; rw [h6,h3]; exact b6⟩
   ·rw [(agr n hnn).2.2,ρn,hr]
   ·obtain ⟨h2,h3⟩:=J3 hj
    exact hE'.kl j (agr j (by simp only [De,bq]; exact ⟨A4e (by omega),by rw [fxo j h2]; exact h3⟩)).1
 -- what A9t says
 have key : ∃ e1 s1, it (n + 1) (some ⟨n, rdE fa fb nT ps.toList (Ki (some (De s.H n)) s.T) n⟩) fn.ntmps c ⟨Ps (.yl n :: lb) 0, H1, n + 2, s.I, []⟩ = some (e1, s1, os) /\ (e1 = .nm ∨ e1 = .rt) /\ s1.H[n + 1]? = some .dfs /\ (∃ st pe, s1.H[n]? = some (.lo st pe) /\ st ≠ .busy /\ Alr pe = some e) /\ s'.T = Ki (some (De s.H n)) s.T /\ s'.H = (s1.H.set (n + 1) .gone).set n .gone /\ s'.I = s1.I := by
   unfold A9t at he
   split at he
   ·cases he
   ·rename_i e1 s1 os1 hne K0
    cases hd:O1 s1.H (n + 1) with
    | false=>rw [hd] at he; cases he
    | true =>
    rw [hd] at he
    simp only [cond_true] at he
    have he1:e1=.nm ∨ e1=.rt:=by
      cases e1 with
      | nm=>exact .inl rfl
      | rt=>exact .inr rfl
      | ex id=>exact absurd rfl (hne id)
    split at he
    ·rename_i hlo
     cases he
     exact ⟨e1,s1,K0,he1,Qa hd,⟨_,_,hlo,(fun e=>by cases e),rfl⟩,rfl,rfl,rfl⟩
    ·rename_i pe hlo
     split at he
     ·rename_i e2 hex
      cases he
      exact ⟨e1,s1,K0,he1,Qa hd,⟨_,_,hlo,(fun e=>by cases e),hex⟩,rfl,rfl,rfl⟩
     ·cases he
    ·cases he
   ·cases he
 obtain ⟨e1,s1,K0,he1,hd1,⟨st,pe,hlo,hnb,hex⟩,t1,t2,t3⟩:=key
 refine ⟨w.heap.size + 1,[mark w.heap.size],w1,{ target:=.fn (.func gf) (V.dens ρ lb).toArray,args:=#[.func (.yield (w.heap.size + 1)) #[] #[]] },w1,gf,#[.func (.yield (w.heap.size + 1)) #[] #[]] ++ (V.dens ρ lb).toArray,w1,hent,?_,?_,?_,fun h=>(by cases h),?_⟩
 ·simp only [resolve,heval]
  simp [go_sem]
 ·intro f' hf'; trivial
 ·simp [invoke,go_sem,A3p c1]
 have hargs : #[Value.func (.yield (w.heap.size + 1)) #[] #[]] ++ (V.dens ρ lb).toArray = (V.dens ρ1 (.yl n :: lb)).toArray := by
   have h1:V.dens ρ1 lb=V.dens ρ lb:=by
    have h2:V.dens ρ1 lb=V.dens (ρ.wl q (w.heap.size :: l)) lb:=V.dens_ext (n:=liv s.H) (fun i hi=>by
     have:i ≠ n/\i ≠ n + 1:=by
      constructor
      ·intro e; subst e; obtain ⟨b,hb,hbf⟩:=Bq.1 hi; rw [c3] at hb; cases hb; exact hbf rfl
      ·intro e; subst e; obtain ⟨b,hb,hbf⟩:=Bq.1 hi; rw [c4] at hb; cases hb; exact hbf rfl
     rw [← hρ1]; unfold Env.set; rw [if_neg this.2,if_neg this.1]) _ hlb
    rw [h2]
    exact V.dens_pl (Env.wl_pl _ _ _) lb
   rw [V.dens,V.den,h1,ρn]
   simp [Xk,Loc.g]
 rw [hargs]
 refine callsIn_of_wp_marks hfn hc trivial ?_ rfl
 have hA2:AtD (XX.wd (n + 1)) Xe fn.ntmps ⟨Ps (.yl n :: lb) 0,H1,n + 2,s.I,[]⟩ { tmps:=(V.dens ρ1 (.yl n :: lb)).toArray ++ Array.replicate (fn.ntmps - (V.dens ρ1 (.yl n :: lb)).toArray.size) undef,defers:=[] } w1:=by
   refine ⟨[],ρ1,E2,Aem (by simpa using c6),Aen ?_⟩
   simp only [V.lts,V.lt,bq]
   refine ⟨liv1 n (by omega),V.lts_mono (fun i hi=>?_) _ hlb⟩
   rw [← hH1]
   exact Do (fun e=>by cases e) i (Do (fun e=>by cases e) i hi)
 refine Vg (hit.out (by rw [hXX]; show n + 1 < n + 2; omega) (by rw [hXX]; exact fxd) Bs1 hYS1 K0 hg hA2 fun a' w' hA' hg'=>?_).out
 obtain ⟨l1,ρ2,E3,ha2,ht2⟩:=hA'
 have fin:LeavesInM (FW none) 0 P fn a'.tmps (rangePost (FW none) 1 P (w.heap.size + 1) Q { a with defers:=[mark w.heap.size] ++ a.defers }) a'.defers .returning w':=by
   rw [ha2.df]
   refine A03 (q:=n + 1) hd1 (by rw [hXX]; show n + 1 < n + 2; omega) (by rw [hXX]; exact fxd) l1 E3 fun ρ' w2 hpl hne E4=>?_
   refine ⟨Aoa [],A40 [] [] _ c7 .nil rfl,?_⟩
   have agn:∀ i,i < n + 1->Gc H1 i=true->ρ' i=ρ1 i:=fun i hi hfi=>by
    rw [E4.ag i (by rw [hXX]; show i < n + 2; omega) (by rw [hXX]; exact hfi)]
    show (XX.ρ.wl (n + 1) []) i=_
    rw [Env.wl_ne _ _ (by omega),hXX]; rfl
   have en:ρ' n=Xk (w.heap.size + 1) r:=by rw [agn n (by omega) fxn,ρn]
   have hl:=E4.loAt hlo
   rw [en] at hl
   have hl':w2.heap[w.heap.size + 1]?=some (.loop { state:=st,pending:=pe,fn:=fnF,tmps:=a.tmps,params:=ps,assign:=asg,body:=bd,defers:=w.heap.size }):=by rw [hr] at hl; exact hl
   refine ⟨pe,_,run_endLoop hl' hnb,?_⟩
   have E5:=(E4.goneU hd1).loU (g:=n) (st:=st) (pe:=pe) (by rw [List.getElem?_set_ne (by omega)]; exact hlo) .exhausted pe
   rw [en] at E5
   have E6:=E5.goneU (g:=n) (b:=.lo .exhausted pe) (List.getElem?_set_self (by
    have:=(List.getElem?_eq_some_iff.1 hlo).1
    rw [List.length_set]; exact this))
   rw [List.set_set,← t2] at E6
   have E7:Emb (X.wd q (w.heap.size :: l)) ρ' s'.H (w2.putObj (w.heap.size + 1) (.loop { state:=.exhausted,pending:=pe,fn:=fnF,tmps:=a.tmps,params:=ps,assign:=asg,body:=bd,defers:=w.heap.size })):=by
    have h0:=E6.bk (X:=X.wd q (w.heap.size :: l)) (by rw [hXX]; rfl) (by rw [hXX]; rfl) (fun i hi hfi=>?_) (fun i hi=>E6.kl i ?_)
    ·rw [hr] at h0; exact h0
    ·obtain ⟨h1,h2,h3⟩:=E1b i hi hfi
     refine ⟨by rw [hXX]; show i < n + 2; omega,by rw [hXX]; exact h2,?_⟩
     show (XX.ρ.wl (n + 1) []) i=_
     rw [Env.wl_ne _ _ (by omega),hXX]
     exact h3
    ·have:i < n:=Nat.lt_of_lt_of_le hi (hE.below c3)
     rw [hXX]; show i < n + 2; omega
   have hAf:AtD (X.wd q) Xe nT s' { a with defers:=[mark w.heap.size] ++ a.defers } (w2.putObj (w.heap.size + 1) (.loop { state:=.exhausted,pending:=pe,fn:=fnF,tmps:=a.tmps,params:=ps,assign:=asg,body:=bd,defers:=w.heap.size })):=by
    have hT1:∀ i,Ay s'.T i=.z ∨ a.tmps[i]?=some (V.den ρ' (Ay s'.T i)):=by
     rw [t1]
     exact hT0 fun i hi=>agn i (J3 hi).1 (J3 hi).2
    refine ⟨w.heap.size :: l,ρ',E7,⟨ha.sz,(by show [mark w.heap.size] ++ a.defers=_; rw [ha.df]; rfl),hT1⟩,?_⟩
    rw [t1]
    refine fun i=>V.lt_mono (fun j hj=>?_) _ (Abv i)
    obtain ⟨h2,h3⟩:=J3 hj
    exact E6.kl j (by rw [hXX]; show j < n + 2; omega)
   have hk:=k _ _ hAf (by rw [t3]; exact hg')
   cases pe with
   | none=>simp only [Alr,Option.some.injEq] at hex; subst hex; exact hk
   | some cd =>
     cases cd with
     | ret=>simp only [Alr,Option.some.injEq] at hex; subst hex; exact Vg (A74 hk).out
     | exit id=>simp only [Alr,Option.some.injEq] at hex; subst hex; exact Vg (Aqg hk).out
     | _=>cases hex
 rcases he1 with rfl | rfl
 ·exact fin
 ·exact fin
theorem Asc {c : Code} {fr : Bool} {m : List Nat} {f : St -> R} (hfr : ∀ s s' e os, f s = some (e, s', os) -> Frm m s s') (hf : Aam P q Y nT c fr f) : Aam P q Y nT c fr (Am3 q fr Y f) := by
 intro C D ρl Q s s' e a w os O hh he hg hA k
 unfold Am3 at he
 split at he
 ·rename_i F I hI
  cases hc:(fr && Y.isNone && O1 s.H q && Km s.H s.n && A13 s.n s.H 0 && F.all (fun g=>Sn s.H g && Nat.blt g s.n)) with
  | false=>rw [hc] at he; cases he
  | true =>
    rw [hc] at he
    simp only [bq] at hc
    obtain ⟨⟨⟨⟨⟨c1,c2⟩,c3⟩,c4⟩,c5⟩,c6⟩:=hc
    simp only [cond_true] at he
    split at he
    ·rename_i e2 s2 os2 h2
     cases hr:A3l s2.L (frz F s.H 0) s2.H 0 with
     | false=>rw [hr] at he; cases he
     | true =>
       rw [hr] at he
       cases he
       obtain ⟨hρ,X,rfl,rfl,hq,hfq⟩:=hh.top c1
       obtain ⟨l1,⟨ρ1,hE,ha,ht⟩⟩:=hA
       have hF:∀ g,Bb F g=true->Sn s.H g=true:=fun g hg=>by
        have:=A0e c6 hg
        simp only [bq] at this; exact this.1
       have hFn:∀ g,Bb F g=true->g < s.n:=fun g hg=>by
        have:=A0e c6 hg
        simp only [bq,Nat.blt_eq] at this; exact this.2
       have hdq:s.H[q]?=some .dfs:=Qa c3
       have E1:=hE.freeze hF (k:=max X.k s.n) (fun i hi=>by
        rcases Nat.lt_or_ge i s.n with h3 | h3
        ·exact Pw c4 h3
        ·exact hE.kl i (by show i < X.k; omega)) fun i hi=>by have:i < X.k:=hi; omega
       have hρq:=hE.dfsL hq hfq
       obtain ⟨X',hX'⟩:∃ X':Ctx,X'=⟨max X.k s.n,fun i=>(Nat.blt i X.k && X.fx i) || Aiy (frz F s.H 0) i,ρ1,fps (rsF ρ1 (frz F s.H 0) 0),w⟩:=⟨_,rfl⟩
       have hwd:X'.wd q l1=X':=by
        have:ρ1.wl q l1=ρ1:=funext fun i=>by
         unfold Env.wl
         split
         ·rename_i h; subst h; rw [hρq]; rfl
         ·rfl
        subst hX'
        unfold Ctx.wd
        simp only [this]
       have hk':X'.k=max X.k s.n:=by rw [hX']
       have hfx':∀ i,X'.fx i=((Nat.blt i X.k && X.fx i) || Aiy (frz F s.H 0) i):=fun i=>by rw [hX']
       have hfxX:∀ i,i < X.k->X.fx i=true->X'.fx i=true:=fun i h3 h4=>by
        rw [hfx',h4,show Nat.blt i X.k=true by rw [Nat.blt_eq]; exact h3]; rfl
       rw [hI] at hg
       have hg':Good P I (os2 ++ O):=by cases hg; assumption
       have hl':s.H.length=s2.H.length:=by
        rw [← (Oi hr).1]
        have:∀ (H:List B) i,(frz F H i).length=H.length:=fun H=>by induction H with | nil=>exact fun _=>rfl | cons b H ih=>exact fun i=>by rw [frz,List.length_cons,List.length_cons,ih]
        exact (this _ _).symm
       have hyp:Hyp P q Y (X'.wd q) Xe ρl fr:=by
        refine ⟨fun _ _=>⟨rfl,rfl⟩,⟨⟨X'.M,X'.w,X'.ρ,fun _=>false⟩,fun l=>⟨rfl,rfl,fun i hi=>by cases hi⟩,fun Z _ y hy=>?_⟩,fun _=>⟨hρ,X',rfl,rfl,by rw [hk']; omega,hfxX q hq hfq⟩⟩
        rw [hy] at c2; cases c2
       refine hf hyp h2 hg' ⟨l1,⟨ρ1,by rw [hwd,hX']; exact E1,ha,fun i=>V.lt_mono (fun j hj=>Axf hF j hj) _ (ht i)⟩⟩ fun a' w' hA' hg2=>?_
       obtain ⟨l2,⟨ρ2,hE2,ha2,ht2⟩⟩:=hA'
       have hfrm:=hfr _ _ _ _ h2
       have hst:∀ (i:Nat) (b:B),(frz F s.H 0)[i]?=some b->b.isRo=true->ρ2 i=ρ1 i/\s2.H[i]?=some b:=fun i b hb hro=>by
        have h3:=((Oi hr).2 i).1 b hb hro
        rw [Nat.zero_add] at h3
        have h4:=(hfrm.h i h3).2
        have hin:i < s.n:=by
         rcases Qh hb with ⟨h5,_⟩ | ⟨_,h5⟩
         ·exact hFn i h5
         ·have:=A3k c5 h5 hro; omega
        have hiq:i ≠ q:=fun e=>by
         subst e
         rcases Qh hb with ⟨h5,_⟩ | ⟨_,h5⟩
         ·obtain ⟨α,e,l,h6⟩:=Kh (hF i h5)
          rw [hdq] at h6; cases h6
         ·rw [hdq] at h5; cases h5; cases hro
        refine ⟨?_,h4.trans hb⟩
        have h5:=hE2.ag i (by show i < X'.k; rw [hk']; omega) (by
         show X'.fx i=true
         rw [hfx']
         have:Aiy (frz F s.H 0) i=true:=by unfold Aiy; rw [hb]; exact hro
         rw [this,Bool.or_true])
        rw [h5]
        show (X'.ρ.wl q l2) i=_
        rw [Env.wl_ne _ _ hiq,hX']
       have T:=hE.thaw (X2:=X'.wd q l2) (X3:=X.wd q l2) hF hE2 (by rw [hX']; rfl) (by rw [hX']; rfl) (fun i hi=>by show i < X'.k; rw [hk']; have:i < X.k:=hi; omega) (fun i hi h3=>hfxX i hi h3) rfl rfl rfl rfl
        (fun i hi hfi=>by
         rw [hE2.ag i (by show i < X'.k; rw [hk']; have:i < X.k:=hi; omega) (hfxX i hi hfi)]
         show (X'.ρ.wl q l2) i=(X.ρ.wl q l2) i
         by_cases e:i=q
         ·subst e
          rw [Env.wl_at,Env.wl_at,hX']
          show (ρ1 i).wl l2=_
          rw [hρq]; rfl
         ·rw [Env.wl_ne _ _ e,Env.wl_ne _ _ e,hX']
          show ρ1 i=X.ρ i
          rw [hE.ag i hi hfi]
          exact Env.wl_ne _ _ e) hst (fun i b hb hro=>by
         obtain ⟨a2,h3,h4⟩:=((Oi hr).2 i).2 b hb hro
         have:=(hst i a2 h3 h4).2
         rw [hb] at this; cases this; exact h3) hl'
       exact k a' w' ⟨l2,⟨ρ2,T,ha2,fun i=>V.lt_mono (fun j hj=>Ays hF hl' j hj) _ (ht2 i)⟩⟩ hg2
    ·cases he
 ·exact hf hh he hg hA k
theorem Dh {it : ItE} (hit : ItOk P it) (hfi : ItFrm it) : ∀ (c : Code) (fr : Bool), Aam P q Y nT c fr (Bw P it q Y nT c fr)
 | .skip,fr,C,D,ρl,Q,s,s',e,a,w,os,O,hh,he,hg,hA,k=>by cases he; exact A75 (k a w hA hg)
 | .region id ops false,fr,C,D,ρl,Q,s,s',e,a,w,os,O,hh,he,hg,hA,k=>by
   rw [Bw] at he
   refine A4r hh.same (c:=.region id ops false) (fun s s' e os he=>?_) (fun {Q s s' e a w os O} he hg hA k=>?_) he hg hA k
   ·unfold A9r at he
    split at he
    ·rename_i h1; cases he; exact Vv h1
    ·cases he
   unfold A9r at he
   split at he
   ·rename_i s1 os1 h1
    cases he
    have:=Gq (ρ:=ρl) (P:=P) (Q:=Q) (id:=id) (l:=ops.toList) (by
     obtain ⟨l,hA⟩:=hA
     obtain ⟨Bs,hBs,hYS⟩:=hh.ys
     exact A7y (hYS _ (hBs l)) h1 hg hA fun a' w' hA' hg'=>k a' w' ⟨l,hA'⟩ hg')
    simpa using this
   ·cases he
 | .region id ops true,fr,C,D,ρl,Q,s,s',e,a,w,os,O,hh,he,hg,hA,k=>by
   rw [Bw] at he
   refine A4r hh.same (c:=.region id ops true) (fun s s' e os he=>A2t he) (fun {Q s s' e a w os O} he hg hA k=>?_) he hg hA k
   unfold A9r at he
   split at he
   ·rename_i s1 os1 h1
    unfold Xy at h1
    split at h1
    case h_2=>cases h1
    rename_i s3 os3 h3
    cases h1
    cases he
    obtain ⟨l,hA⟩:=hA
    obtain ⟨Bs,hBs,hYS⟩:=hh.ys
    have:=Ahu (hYS _ (hBs l)) (ρl:=ρl) (P:=P) (Q:=Q) (id:=id) (l:=ops.toList) (by simpa using h3) hg hA fun a' w' hA' hg'=>k a' w' ⟨l,hA'.fill s.n⟩ hg'
    simpa using this
   ·cases he
 | .seq x y,fr,C,D,ρl,Q,s,s',e,a,w,os,O,hh,he,hg,hA,k=>by
   rw [Bw] at he
   refine L5 ?_
   split at he
   ·rename_i s1 o1 h1
    split at he
    ·rename_i e2 s2 o2 h2
     cases he
     rw [List.append_assoc] at hg
     exact Dh hit hfi x fr hh h1 hg hA fun a' w' hA' hg'=>I4 (Asc (fun _ _ _ _ h=>Cc hfi y h) (Dh hit hfi y fr) hh h2 hg' hA' k)
    ·cases he
   ·rename_i h1
    refine Dh hit hfi x fr hh he hg hA fun a' w' hA' hg'=>?_
    have hk:=k a' w' hA' hg'
    cases e with
    | nm=>exact absurd he (by intro h; exact h1 _ _ h)
    | ex id=>exact hk
    | rt=>exact hk
 | .cond c x y,fr,C,D,ρl,Q,s,s',e,a,w,os,O,hh,he,hg,hA,k=>by
   rw [Bw] at he
   refine A4r hh.same (c:=.cond c x y) (fun s s' e os h=>?_) (fun {Q s s' e a w os O} he hg hA k=>?_) he hg hA k
   ·unfold Ae9 at h
    split at h
    ·split at h
     ·rename_i h2
      cases h
      have:=Cc hfi x h2
      exact ⟨fun t ht=>this.t t (by rw [Eo,Bool.or_eq_false_iff] at ht; exact ht.1),this.h⟩
     ·cases h
    ·split at h
     ·rename_i h2
      cases h
      have:=Cc hfi y h2
      exact ⟨fun t ht=>this.t t (by rw [Eo,Bool.or_eq_false_iff] at ht; exact ht.2),this.h⟩
     ·cases h
    ·cases h
   obtain ⟨lD,ρ,hE,ha,ht⟩:=hA
   have ev:∀ {q:Bool},evO s.T c=.v (.bool q)->a.eval c=.bool q:=fun h=>by rw [ha.eval (by rw [h]; rfl),h,V.den]
   unfold Ae9 at he
   split at he
   ·rename_i q I hq hI
    split at he
    ·rename_i e2 s2 o2 h2
     cases he
     rw [hI] at hg
     cases hg with
     | t hb hg =>
       subst hb
       exact x_t (ev hq) (Dh hit hfi x fr hh h2 hg ⟨lD,ρ,hE,ha,ht⟩ k)
    ·cases he
   ·rename_i q I hq hI
    split at he
    ·rename_i e2 s2 o2 h2
     cases he
     rw [hI] at hg
     cases hg with
     | t hb hg =>
       subst hb
       exact x_f (ev hq) (Dh hit hfi y fr hh h2 hg ⟨lD,ρ,hE,ha,ht⟩ k)
    ·cases he
   ·cases he
 | .block id c,fr,C,D,ρl,Q,s,s',e,a,w,os,O,hh,he,hg,hA,k=>by
   rw [Bw] at he
   refine A4r hh.same (c:=.block id c) (fun s s' e os h=>?_) (fun {Q s s' e a w os O} he hg hA k=>?_) he hg hA k
   ·unfold Aqz at h
    split at h
    ·rename_i j s1 o1 h1
     cases h
     exact Cc hfi c h1
    ·exact Cc hfi c h
   refine Au3 ?_
   unfold Aqz at he
   split at he
   ·rename_i j s1 o1 h1
    cases he
    refine Dh hit hfi c fr hh h1 hg hA fun a' w' hA' hg'=>?_
    have hk:=k a' w' hA' hg'
    cases hb:Nat.beq j id with
    | true =>
      rw [hb] at hk
      rw [Nat.eq_of_beq_eq_true hb]
      exact Adt hk
    | false =>
      rw [hb] at hk
      exact Ajm (fun e=>by subst e; rw [Nat.beq_refl] at hb; cases hb) hk
   ·rename_i h1
    refine Dh hit hfi c fr hh he hg hA fun a' w' hA' hg'=>?_
    have hk:=k a' w' hA' hg'
    cases e with
    | nm=>exact hk
    | ex j=>exact absurd he (by intro h; exact h1 _ _ _ h)
    | rt=>exact hk
 | .exit id,fr,C,D,ρl,Q,s,s',e,a,w,os,O,hh,he,hg,hA,k=>by cases he; exact Aqg (k a w hA hg)
 | .ret,fr,C,D,ρl,Q,s,s',e,a,w,os,O,hh,he,hg,hA,k=>by cases he; exact A74 (k a w hA hg)
 | .loop c, fr, C, D, ρl, Q, s, s', e, a, w, os, O, hh, he, hg, hA, k => by
   rw [Bw] at he
   split at he
   ·rename_i N n σ0 σ1 Tx Wx Is I' hI
    split at he
    ·rename_i e1 s1 os1 h1
     cases hb:(!e1.isNm && (Tx N).all (fun p=>Bb (Gz c) p.1 || !p.2.nz)) with
     | false=>rw [hb] at he; cases he
     | true =>
       rw [hb] at he
       simp only [cond_true,Option.some.injEq,Prod.mk.injEq] at he
       obtain ⟨rfl,rfl,rfl⟩:=he
       simp only [bq,Bool.not_eq_true'] at hb
       rw [hI,List.cons_append] at hg
       generalize hq1:A3i s (Gz c) σ0 (Tx 0) (Wx 0) s.T [] (Em s.H (Wx 0))=ok0 at hg
       generalize hq2:Aix (Tx 0) s.T=T0 at hg
       generalize hq3:Ad5 σ0 s.H (Wx 0)=H0 at hg
       generalize hq4:(fun i=>lpF (Gz c) s σ1 Tx Wx i (Bw P it q Y nT c fr (lpS (Gz c) s n Tx Wx i (Is i))))=f0 at hg
       cases hg with
       | lp _ _ _ _ _ _ hr hg =>
         rename_i Os
         have hB:=fun l'=>hA.base hh.same l'
         refine Aqh (fun i a w=>i<=N/\AtD C D nT (lpS (Gz c) s n Tx Wx i []) a w) (fun i=>N - i) 0 ⟨Nat.zero_le _,(by obtain ⟨l0,hA0⟩:=hA; exact ⟨l0,A68 (hB l0) hA0 (fun t _ _=>.inl rfl) (fun g _ _=>rfl) hq1 hq2 hq3⟩)⟩ ?_
         intro i a1 w1 ⟨hi,hAi⟩
         by_cases hlt:i < N
         ·have h5 := congrFun hq4 i
          simp only [lpF] at h5
          split at h5
          ·rename_i s2 os2 h6
           simp only [List.cons.injEq,Ob.pj.injEq,bq] at h5
           obtain ⟨⟨⟨⟨⟨b1,b2⟩,b3⟩,b4⟩,b5,b6⟩,rfl⟩:=h5
           have hf:=Cc hfi c h6
           refine Dh hit hfi c fr hh h6 (O:=[]) (by rw [List.append_nil]; exact hr i hlt) (hAi.as rfl rfl) fun a2 w2 ⟨l2,hA2⟩ _=>?_
           refine ⟨i + 1,by show N - (i + 1) < N - i; omega,hlt,l2,A68 (hB l2) hA2 (fun t ht1 ht2=>?_) (fun g hg1 hg2=>?_) b2 b5 b6⟩
           ·have hti:Lm (Tx i) t=false:=by
             cases hh:Lm (Tx i) t with
             | false=>rfl
             | true =>
               have:=(List.all_eq_true.1 b3) _ (Rc hh)
               simp only [ht1,ht2] at this
               cases this
            rw [← Afq (m:=Gz c) (s:=s) (n:=n) (Tx:=Tx) (Wx:=Wx) (i:=i) (J:=Is i) ht1 hti]
            exact hf.t t ht1
           ·rw [(hf.h g hg1).2]
            show (Em s.H (Wx i))[g]?=_
            have:look g (Wx i)=none:=by
             cases hl:look g (Wx i) with
             | none=>rfl
             | some b =>
               have:=(List.all_eq_true.1 b4) _ (Mq hl)
               simp only [hg2] at this
               cases this
            rw [Eu,this]
            cases s.H[g]? <;> rfl
          ·cases h5
         ·have hiN:i=N:=by omega
          subst hiN
          refine Dh hit hfi c fr hh h1 hg (hAi.as rfl rfl) fun a2 w2 hA2 hg2=>?_
          have hk:=k a2 w2 (hA2.as rfl rfl) hg2
          cases e1 with
          | nm=>cases hb.1
          | ex id=>exact hk
          | rt=>exact hk
    ·cases he
   ·rename_i kk I' hI
    split at he
    ·rename_i e1 s1 os1 h1
     cases he
     rw [hI,List.cons_append] at hg
     cases hg with
     | lu _ hg =>
     refine Aqh (fun i a w=>∃ s os,Aaf (Bw P it q Y nT c fr) i s=some (e,s',os)/\Good P s.I (os ++ O)/\AtD C D nT s a w) (fun i=>i) kk ⟨_,_,h1,hg,hA.as rfl rfl⟩ ?_
     rintro i a w ⟨s2,os2,h2,hg2,hA2⟩
     cases i with
     | zero =>
       rw [Aaf] at h2
       split at h2
       ·cases h2
       ·rename_i hne
        refine Dh hit hfi c fr hh h2 hg2 hA2 fun a' w' hA' hg'=>?_
        have hk:=k a' w' hA' hg'
        cases e with
        | nm=>exact (hne _ _ h2).elim
        | ex id=>exact hk
        | rt=>exact hk
     | succ i =>
       rw [Aaf] at h2
       split at h2
       ·rename_i s3 o3 h3
        split at h2
        ·rename_i e4 s4 o4 h4
         cases h2
         rw [List.append_assoc] at hg2
         exact Dh hit hfi c fr hh h3 hg2 hA2 fun a' w' hA' hg'=>⟨i,Nat.lt_succ_self i,s3,o4,h4,hg',hA'⟩
        ·cases h2
       ·cases h2
    ·cases he
   ·cases he
 | .rangeFunc f ps asg bd,true,C,D,ρl,Q,s,s',e,a,w,os,O,hh,he,hg,hA,k=>by
   rw [Bw] at he
   exact B0u hit (Dh hit hfi asg false) (Dh hit hfi bd false) (fun s s' e os h g hg=>(Cc hfi asg h).h g hg) (fun s s' e os h g hg=>(Cc hfi bd h).h g hg) hh he hg hA k
 | .rangeFunc f ps asg bd,false,C,D,ρl,Q,s,s',e,a,w,os,O,hh,he,hg,hA,k=>by cases he
 | .scope c,fr,C,D,ρl,Q,s,s',e,a,w,os,O,hh,he,hg,hA,k=>by cases he
 | .label l,fr,C,D,ρl,Q,s,s',e,a,w,os,O,hh,he,hg,hA,k=>by cases he
 | .goto l,fr,C,D,ρl,Q,s,s',e,a,w,os,O,hh,he,hg,hA,k=>by cases he
 | .refuse y,fr,C,D,ρl,Q,s,s',e,a,w,os,O,hh,he,hg,hA,k=>by cases he
theorem A5i {it:ItE} (hit:ItOk P it) (hfi:ItFrm it):ItOk P (fun q Y nT c s=>Bw P it q Y nT c true s):=⟨fun {q Y nT c X Bs Q s s' e a w os O} h1 h2 h3 h4 he hg hA k =>
 Dh hit hfi c true ⟨fun _ _=>⟨rfl,rfl⟩,⟨Bs,h3,h4⟩,fun _=>⟨rfl,X,rfl,rfl,h1,h2⟩⟩ he hg hA k⟩
theorem Zu {it:ItE} (hfi:ItFrm it):ItFrm (fun q Y nT c s=>Bw P it q Y nT c true s):=⟨fun he=>Cc hfi _ he⟩
theorem A7v:ItOk P (A4y P)/\ItFrm (A4y P):=by
 have h0:ItOk P (fun _ _ _ _ _=>none)/\ItFrm (fun _ _ _ _ _=>none):=⟨⟨fun _ _ _ _ he=>(by cases he)⟩,⟨fun he=>(by cases he)⟩⟩
 have h1:ItOk P (Alf P)/\ItFrm (Alf P):=⟨A5i (it:=fun _ _ _ _ _=>none) h0.1 h0.2,Zu (it:=fun _ _ _ _ _=>none) h0.2⟩
 have h2:ItOk P (Alg P)/\ItFrm (Alg P):=⟨A5i (it:=Alf P) h1.1 h1.2,Zu (it:=Alf P) h1.2⟩
 exact ⟨A5i (it:=Alg P) h2.1 h2.2,Zu (it:=Alg P) h2.2⟩
end
section
variable {X:Ctx} {ρ:Env} {H:List B} {w w':World} {P:Program} {T:List (Nat × V)} {nT n:Nat} {a:Act} {ops:Array Oper} {ρl:Option Nat} {Q:Exit->Act->World->Prop} {ds:List Deferred} {Y:Option Yd}
def Abo (P:Program) (s:St):ResultVar->Option V
 | .tmp t=>bif (Ay s.T t).nz then some (Ay s.T t) else none
 | .cell p t=>match Abk P s.H t (Ay s.T p) [] with | some (x,_,[])=>some x | _=>none
def Vx (P:Program) (s:St):List ResultVar->Option (List V)
 | []=>some []
 | r :: l=>match Abo P s r,Vx P s l with | some x,some xs=>some (x :: xs) | _,_=>none
def A2f:List V->V
 | [x]=>x
 | l=>.tu l
theorem A7z {s : St} (hE : Emb X ρ s.H w) (ha : ActOk ds ρ nT s.T a) (ht : tlt (liv s.H) s.T) : ∀ {l : List ResultVar} {xs : List V}, Vx P s l = some xs ->
   AllR P w a.tmps l (V.dens ρ xs)/\V.lts (liv s.H) xs=true/\∀ x ∈ xs,x.nz=true
 | [],xs,h=>by cases h; exact ⟨.nil,rfl,fun x hx=>by cases hx⟩
 | r :: l, xs, h => by
   rw [Vx] at h
   split at h
   ·rename_i x xs' h1 h2
    cases h
    obtain ⟨i1,i2,i3⟩:=A7z hE ha ht h2
    have fin:V.lt (liv s.H) x=true->x.nz=true->V.lts (liv s.H) (x :: xs')=true/\∀ y ∈ x :: xs',y.nz=true:=fun k2 k3=>⟨by simp [V.lts,k2,i2],fun y hy=>by
     rcases List.mem_cons.1 hy with rfl | hy
     ·exact k3
     ·exact i3 y hy⟩
    rw [V.dens]
    cases r with
    | tmp t =>
      simp only [Abo] at h1
      cases hz:(Ay s.T t).nz with
      | false=>rw [hz] at h1; cases h1
      | true =>
        rw [hz] at h1; cases h1
        exact ⟨.tmp (ha.eval (x:=.tmp t) hz) i1,fin (ht t) hz⟩
    | cell p t =>
      simp only [Abo] at h1
      split at h1
      ·rename_i x' I' hl
       cases h1
       obtain ⟨l1,l2,l3,l4⟩:=Aeq hE hl (O:=[]) .nil
       have hz:(Ay s.T p).nz=true:=by
        cases hq:Ay s.T p <;> first | rfl | (rw [hq] at hl; cases hl)
       have he:a.tmps.getD p undef=V.den ρ (Ay s.T p):=ha.eval (x:=.tmp p) hz
       have hptr:∃ ad,V.den ρ (Ay s.T p)=.pointer (some ad):=by
        cases hq:Ay s.T p <;> rw [hq] at hl <;> first | exact ⟨_,by rw [V.den]⟩ | cases hl
       obtain ⟨ad,had⟩:=hptr
       refine ⟨.cell (he.trans had) ?_ i1,fin l3 l4⟩
       rw [had] at l1
       simp only [Instr.loadAt,Instr.sureAddr,Sem.run_bind,Sem.run_pure,Result.andThen_ok] at l1
       cases hr:(loadVar t ad).run P w with
       | ok v w'=>rw [hr] at l1; simp only [Result.andThen_ok,Sem.run_pure,Result.ok.injEq,Next.value.injEq] at l1; rw [l1.1,l1.2]
       | halt q w'=>rw [hr] at l1; cases l1
      ·cases h1
   ·cases h
theorem Ad9 {s:St} (hE:Emb X ρ s.H w) (ha:ActOk ds ρ nT s.T a) (ht:tlt (liv s.H) s.T) {fn:Func} {xs:List V} (h:Vx P s fn.results.toList=some xs) :
   (results fn a.tmps).run P w=.ok (V.den ρ (A2f xs)) w/\V.lt (liv s.H) (A2f xs)=true/\(A2f xs).nz=true:=by
 obtain ⟨h1,h2,h3⟩:=A7z hE ha ht h
 have h4:Aoa (V.dens ρ xs)=V.den ρ (A2f xs):=by
  match xs with
  | []=>rw [V.dens]; simp only [A2f,V.den,V.dens]; rfl
  | [x]=>rw [V.dens,V.dens]; rfl
  | x :: y :: l=>rw [V.dens,V.dens]; simp only [A2f,V.den,V.dens]; rfl
 refine ⟨A40 _ _ _ rfl h1 h4,?_,?_⟩
 ·match xs,h2 with
  | [],_=>rfl
  | [x],h2=>simpa [A2f,V.lts] using h2
  | x :: y :: l,h2=>simpa [A2f,V.lt] using h2
 ·match xs,h3 with
  | [],_=>rfl
  | [x],h3=>exact h3 x (by simp)
  | x :: y :: l,_=>rfl
end
