import Derived.Test.YtfhiggfmkjmeiaaGreatFxV
set_option linter.all false
namespace Go.Proofs.YtfhiggfmkjmeiaaGreat
open Go Go.RowKit
structure Loc where
 a:Option Nat
 o:Nat
 n:Nat
 cap:Nat
 r:LoopState->Option Code->Obj
 l:List Nat
 ea:Option Addr
 ec:Nat
abbrev Loc.of (a:Option Nat) (o n cap:Nat):Loc:=⟨a,o,n,cap,fun _ _=>.deferred none,[],none,0⟩
abbrev Env:=Nat->Loc
def Loc.g (c:Loc):Nat:=c.a.getD 0
def Loc.adr (c:Loc) (o:Nat):Addr:=⟨c.g,c.o + o,none⟩
def Loc.emp (c:Loc):Value:=match c.ea with | some A=>.slice (some A) 0 c.ec | none=>.slice none 0 0
def Loc.slv (c:Loc):Value:=match c.a with | some a=>.slice (some ⟨a,c.o,none⟩) c.n c.cap | none=>c.emp
def Loc.slw (c:Loc):Value:=match c.a with | some a=>.slice (some ⟨a,c.o,none⟩) c.n c.cap | none=>.slice none 0 0
theorem Loc.slv_w {c:Loc} (h:c.a=none->c.ea=none):c.slv=c.slw:=by
 unfold Loc.slv Loc.slw Loc.emp
 cases ha:c.a with
 | none=>rw [h ha]
 | some a=>rfl
theorem Loc.slv_none {c:Loc} (h:c.a=none):c.slv=c.emp:=by unfold Loc.slv; rw [h]
theorem Loc.emp_one (c:Loc):c.emp.oneCell'=true:=by unfold Loc.emp; cases c.ea <;> rfl
def Loc.vw (c:Loc) (i s n:Nat):Loc:=⟨c.a,if c.cap=i then c.o else c.o + i * s,n,c.cap - i,fun _ _=>.deferred none,[],c.ea,c.ec⟩
def Loc.sub (c:Loc) (i s n:Nat):Value:=(c.vw i s n).slv
theorem Loc.sub_some {c:Loc} {a i s n:Nat} (h:c.a=some a):c.sub i s n=sliced (some ⟨a,c.o,none⟩) i (i + n) c.cap s:=by
 unfold Loc.sub Loc.slv Loc.vw sliced
 simp only [h,Nat.add_sub_cancel_left]
 split
 ·rfl
 ·simp [Addr.add]
theorem Loc.sub_none {c:Loc} {i s n:Nat} (h:c.a=none):c.sub i s n=c.emp:=by
 unfold Loc.sub Loc.slv Loc.vw
 simp only [h]
 rfl
inductive V where
 | z
 | v (x:Value)
 | pt (g o:Nat)
 | pe (g i s o:Nat)
 | ps (g o i:Nat)
 | sl (g:Nat)
 | ss (g i s n:Nat)
 | sg (g o s n:Nat)
 | sk (g o s n c:Nat)
 | mp (g:Nat)
 | yl (g:Nat)
 | ag (l:List V)
 | tu (l:List V)
 | fn (f:Fn) (b c:List V)
 | ar (k:IntKind) (n:Nat) (f:Nat->Int)
def arV (k:IntKind) (f:Nat->Int):Nat->Nat->List Value
 | 0,_=>[]
 | n + 1,i=>.int k (f i) :: arV k f n (i + 1)
mutual
def V.den (ρ:Env):V->Value
 | .z=>undef
 | .v x=>x
 | .pt g o=>.pointer (some ((ρ g).adr o))
 | .pe g i s o=>.pointer (some ((ρ g).adr (i * s + o)))
 | .ps g o i=>.pointer (some ((ρ g).adr (o + i)))
 | .sl g=>(ρ g).slv
 | .ss g i s n=>(ρ g).sub i s n
 | .sg g o s n=>.slice (some ((ρ g).adr o)) n n
 | .sk g o s n c=>.slice (some ((ρ g).adr o)) n c
 | .mp g=>.map (some (ρ g).g)
 | .yl g=>.func (.yield (ρ g).g) #[] #[]
 | .ag l=>.agg (V.flat ρ l).toArray
 | .tu l=>.tuple (V.dens ρ l).toArray
 | .fn f b c=>.func f (V.dens ρ b).toArray (V.dens ρ c).toArray
 | .ar k n f=>.agg (arV k f n 0).toArray
def V.flat (ρ:Env):List V->List Value
 | []=>[]
 | x :: l=>(V.den ρ x).cells.toList ++ V.flat ρ l
def V.dens (ρ:Env):List V->List Value
 | []=>[]
 | x :: l=>V.den ρ x :: V.dens ρ l
end
theorem V.dens_map (ρ:Env):∀ l:List V,V.dens ρ l=l.map (V.den ρ)
 | []=>by rw [V.dens]; rfl
 | x :: l=>by rw [V.dens,V.dens_map ρ l]; rfl
theorem V.flat_nil (ρ:Env):V.flat ρ []=[]:=by rw [V.flat]
theorem V.flat_cons (ρ:Env) (x:V) (l:List V):V.flat ρ (x :: l)=(V.den ρ x).cells.toList ++ V.flat ρ l:=by rw [V.flat]
theorem V.flat_append (ρ:Env):∀ a b:List V,V.flat ρ (a ++ b)=V.flat ρ a ++ V.flat ρ b
 | [],b=>by rw [V.flat_nil]; rfl
 | x :: a,b=>by rw [List.cons_append,V.flat_cons,V.flat_cons,V.flat_append ρ a b,List.append_assoc]
def V.cell:V->Bool
 | .z | .ag _ | .tu _=>false
 | .v x=>x.oneCell'
 | _=>true
def V.w:V->Nat
 | .ar _ n _=>n
 | _=>1
def V.wf (l:List V):Bool:=l.all V.cell
theorem B3 (k:IntKind) (f:Nat->Int):∀ n i,(arV k f n i).length=n
 | 0,_=>rfl
 | n + 1,i=>by rw [arV,List.length_cons,B3 k f n (i + 1)]
theorem Tg (k:IntKind) (f:Nat->Int):∀ (n i j:Nat),j < n->(arV k f n i)[j]?=some (.int k (f (i + j)))
 | n + 1,i,0,_=>by rw [arV]; rfl
 | n + 1,i,j + 1,h=>by rw [arV,List.getElem?_cons_succ,Tg k f n (i + 1) j (by omega)]; congr 2; congr 1; omega
theorem Jj {k:IntKind} {f h:Nat->Int}:∀ (n i:Nat),(∀ j,i<=j->j < i + n->f j=h j)->arV k f n i=arV k h n i
 | 0,_,_=>rfl
 | n + 1,i,e=>by rw [arV,arV,e i (Nat.le_refl _) (by omega),Jj n (i + 1) (fun j h1 h2=>e j (by omega) (by omega))]
theorem J6 (k:IntKind) (f:Nat->Int):∀ (m n i:Nat),arV k f (m + n) i=arV k f m i ++ arV k f n (i + m)
 | 0,n,i=>by rw [Nat.zero_add]; rfl
 | m + 1,n,i=>by rw [Nat.succ_add,arV,arV,J6 k f m n (i + 1),List.cons_append,show i + 1 + m=i + (m + 1) by omega]
theorem Vi (k:IntKind) (f:Nat->Int) (d:Nat):∀ (n i:Nat),arV k (fun j=>f (d + j)) n i=arV k f n (d + i)
 | 0,_=>rfl
 | n + 1,i=>by rw [arV,arV,Vi k f d n (i + 1)]; rfl
theorem Yk (c:Loc):c.slv.oneCell'=true:=by
 unfold Loc.slv; cases c.a
 ·exact c.emp_one
 ·rfl
theorem V.den_one {ρ:Env} {x:V} (h:x.cell=true):(∃ k n f,x=.ar k n f) ∨ ((V.den ρ x).oneCell'=true/\(V.den ρ x).cells=#[V.den ρ x]/\x.w=1):=by
 have key:∀ u:Value,u.oneCell'=true->u.cells=#[u]:=fun u hu=>by cases u <;> first | rfl | cases hu
 cases x with
 | z=>cases h
 | ag l=>cases h
 | tu l=>cases h
 | ar k n f=>exact .inl ⟨k,n,f,rfl⟩
 | v x=>refine .inr ⟨by rw [V.den]; exact h,?_,rfl⟩; rw [V.den]; exact key x h
 | sl g=>refine .inr ⟨by rw [V.den]; exact Yk _,?_,rfl⟩; rw [V.den]; exact key _ (Yk _)
 | ss g i s n=>refine .inr ⟨by rw [V.den]; exact Yk _,?_,rfl⟩; rw [V.den]; exact key _ (Yk _)
 | _=>refine .inr ⟨by rw [V.den]; rfl,by rw [V.den]; rfl,rfl⟩
theorem V.cells_ar (ρ:Env) (k:IntKind) (n:Nat) (f:Nat->Int):(V.den ρ (.ar k n f)).cells.toList=arV k f n 0:=by rw [V.den]; rfl
theorem V.cells_len {ρ:Env} {x:V} (h:x.cell=true):(V.den ρ x).cells.toList.length=x.w:=by
 rcases V.den_one (ρ:=ρ) h with ⟨k,n,f,rfl⟩ | ⟨_,h2,h3⟩
 ·rw [V.cells_ar,B3]; rfl
 ·rw [h2,h3]; rfl
theorem Adv (k:IntKind) (f:Nat->Int):∀ n i,∀ u ∈ arV k f n i,u.oneCell'=true
 | 0,_,u,h=>by cases h
 | n + 1,i,u,h=>by
   rw [arV] at h
   rcases List.mem_cons.1 h with rfl | h
   ·rfl
   ·exact Adv k f n (i + 1) u h
theorem V.cells_one {ρ:Env} {x:V} (h:x.cell=true):∀ u ∈ (V.den ρ x).cells.toList,u.oneCell'=true:=by
 rcases V.den_one (ρ:=ρ) h with ⟨k,n,f,rfl⟩ | ⟨h1,h2,h3⟩
 ·rw [V.cells_ar]; exact Adv k f n 0
 ·rw [h2]; intro u hu; simp at hu; subst hu; exact h1
theorem V.flat_one {ρ:Env}:∀ {l:List V},V.wf l=true->∀ u ∈ V.flat ρ l,u.oneCell'=true
 | [],_,u,hu=>by rw [V.flat_nil] at hu; cases hu
 | x :: l,h,u,hu=>by
   simp only [V.wf,List.all_cons,bq] at h
   rw [V.flat_cons,List.mem_append] at hu
   rcases hu with hu | hu
   ·exact V.cells_one h.1 u hu
   ·exact V.flat_one (l:=l) h.2 u hu
def V.look:List V->Nat->Option V
 | [],_=>none
 | .ar k n f :: l,o=>if o < n then some (.v (.int k (f o))) else V.look l (o - n)
 | x :: l,o=>if o=0 then some x else V.look l (o - 1)
theorem V.look_ok {ρ:Env}:∀ {l:List V} {o:Nat} {x:V},V.wf l=true->V.look l o=some x->(V.flat ρ l)[o]?=some (V.den ρ x)
 | [],o,x,_,h=>by cases h
 | y :: l, o, x, hw, h => by
   simp only [V.wf,List.all_cons,bq] at hw
   rw [V.flat_cons]
   rcases V.den_one (ρ:=ρ) hw.1 with ⟨k,n,f,rfl⟩ | ⟨h1,h2,h3⟩
   ·rw [V.look] at h
    rw [V.cells_ar]
    by_cases ho:o < n
    ·rw [if_pos ho] at h; cases h
     rw [List.getElem?_append_left (by rw [B3]; exact ho),Tg _ _ _ _ _ ho,V.den,Nat.zero_add]
    ·rw [if_neg ho] at h
     rw [List.getElem?_append_right (by rw [B3]; omega),B3]
     exact V.look_ok hw.2 h
   ·have e:V.look (y :: l) o=if o=0 then some y else V.look l (o - 1):=by
     cases y <;> first | rfl | (simp [V.cell] at hw; done) | skip
     rename_i k n f
     simp only [V.w] at h3
     subst h3
     rw [V.den,arV,arV] at h1
     cases h1
    rw [e] at h
    rw [h2]
    by_cases ho:o=0
    ·rw [if_pos ho] at h; cases h; subst ho; rfl
    ·rw [if_neg ho] at h
     obtain ⟨m,rfl⟩:∃ m,o=m + 1:=⟨o - 1,by omega⟩
     show (V.flat ρ l)[m]?=_
     exact V.look_ok hw.2 h
def V.part:List V->Nat->Nat->Option (List V)
 | [],_,n=>if n=0 then some [] else none
 | .ar k m f :: l,o,n =>
   if n=0 then some []
   else if m<=o then V.part l (o - m) n
   else if o=0 then (if m<=n then (V.part l 0 (n - m)).map (V.ar k m f :: ·) else some [.ar k n f])
   else if o + n<=m then some [.ar k n fun i=>f (o + i)] else none
 | x :: l,o,n=>if n=0 then some [] else if o=0 then (V.part l 0 (n - 1)).map (x :: ·) else V.part l (o - 1) n
theorem V.not_ar {ρ:Env} {y:V} (h:(V.den ρ y).oneCell'=true):∀ k n f,y ≠ .ar k n f:=fun k n f e=>by
 subst e; rw [V.den] at h; cases h
theorem V.part_one {ρ:Env} {y:V} (h:(V.den ρ y).oneCell'=true) (l:List V) (o n:Nat) :
   V.part (y :: l) o n=if n=0 then some [] else if o=0 then (V.part l 0 (n - 1)).map (y :: ·) else V.part l (o - 1) n:=by
 have:=V.not_ar h
 cases y <;> first | rfl | exact absurd rfl (this _ _ _)
theorem V.part_ok {ρ : Env} : ∀ {l : List V} {o n : Nat} {r : List V}, V.wf l = true -> V.part l o n = some r -> V.wf r = true /\ V.flat ρ r = ((V.flat ρ l).drop o).take n /\ (V.flat ρ r).length = n
 | [],o,n,r,_,h=>by
   rw [V.part] at h
   by_cases hn:n=0
   ·rw [if_pos hn] at h; cases h; subst hn; simp [V.flat_nil,V.wf]
   ·rw [if_neg hn] at h; cases h
 | y :: l, o, n, r, hw, h => by
   simp only [V.wf,List.all_cons,bq] at hw
   by_cases hn:n=0
   ·subst hn
    have:r=[]:=by
     cases y <;> simp [V.part] at h <;> first | exact h.symm | exact h
    subst this; simp [V.flat_nil,V.wf]
   rw [V.flat_cons]
   rcases V.den_one (ρ:=ρ) hw.1 with ⟨k,m,f,rfl⟩ | ⟨h1,h2,h3⟩
   ·rw [V.part, if_neg hn] at h
    rw [V.cells_ar]
    by_cases ho:m<=o
    ·rw [if_pos ho] at h
     obtain ⟨i1,i2,i3⟩:=V.part_ok (ρ:=ρ) hw.2 h
     refine ⟨i1,?_,i3⟩
     rw [i2,List.drop_append,B3,List.drop_of_length_le (show (arV k f m 0).length<=o by rw [B3]; exact ho),List.nil_append]
    ·rw [if_neg ho] at h
     by_cases h0:o=0
     ·subst h0
      rw [if_pos rfl] at h
      by_cases hmn:m<=n
      ·rw [if_pos hmn] at h
       cases hr:V.part l 0 (n - m) with
       | none=>rw [hr] at h; cases h
       | some r' =>
         rw [hr] at h; cases h
         obtain ⟨i1,i2,i3⟩:=V.part_ok (ρ:=ρ) hw.2 hr
         refine ⟨by simpa [V.wf,V.cell] using i1,?_,?_⟩
         ·rw [V.flat_cons,V.cells_ar,i2,List.drop_zero,List.drop_zero,List.take_append,B3,List.take_of_length_le (show (arV k f m 0).length<=n by rw [B3]; exact hmn)]
         ·rw [V.flat_cons,V.cells_ar,List.length_append,B3,i3]; omega
      ·rw [if_neg hmn] at h; cases h
       refine ⟨rfl,?_,?_⟩
       ·rw [V.flat_cons,V.cells_ar,V.flat_nil,List.append_nil,List.drop_zero,List.take_append,B3,show n - m=0 by omega,List.take_zero,List.append_nil,show m=n + (m - n) by omega,J6,List.take_append,B3,Nat.sub_self,List.take_zero,List.append_nil,List.take_of_length_le (by rw [B3]; exact Nat.le_refl _)]
       ·rw [V.flat_cons,V.cells_ar,V.flat_nil,List.append_nil,B3]
     ·rw [if_neg h0] at h
      by_cases hon:o + n<=m
      ·rw [if_pos hon] at h; cases h
       have e:arV k f m 0=arV k f o 0 ++ (arV k f n o ++ arV k f (m - o - n) (o + n)):=by
        rw [← J6 k f n (m - o - n) o,show n + (m - o - n)=m - o by omega]
        have:=J6 k f o (m - o) 0
        rwa [show o + (m - o)=m by omega,Nat.zero_add] at this
       refine ⟨rfl,?_,?_⟩
       ·rw [V.flat_cons,V.cells_ar,V.flat_nil,List.append_nil,Vi,Nat.add_zero,e,List.append_assoc,List.drop_append,B3,Nat.sub_self,List.drop_of_length_le (by rw [B3]; exact Nat.le_refl _),List.nil_append,List.drop_zero,List.append_assoc,List.take_append,B3,Nat.sub_self,List.take_zero,List.append_nil,List.take_of_length_le (by rw [B3]; exact Nat.le_refl _)]
       ·rw [V.flat_cons,V.cells_ar,V.flat_nil,List.append_nil,B3]
      ·rw [if_neg hon] at h; cases h
   ·rw [V.part_one h1, if_neg hn] at h
    rw [h2]
    by_cases ho:o=0
    ·subst ho
     rw [if_pos rfl] at h
     cases hr:V.part l 0 (n - 1) with
     | none=>rw [hr] at h; cases h
     | some r' =>
       rw [hr] at h; cases h
       obtain ⟨i1,i2,i3⟩:=V.part_ok (ρ:=ρ) hw.2 hr
       obtain ⟨m,rfl⟩:∃ m,n=m + 1:=⟨n - 1,by omega⟩
       refine ⟨by simpa [V.wf] using ⟨hw.1,by simpa [V.wf] using i1⟩,?_,?_⟩
       ·rw [V.flat_cons,h2,i2]; rfl
       ·rw [V.flat_cons,h2,List.length_append,i3]; show 1 + _=_; omega
    ·rw [if_neg ho] at h
     obtain ⟨i1,i2,i3⟩:=V.part_ok (ρ:=ρ) hw.2 h
     obtain ⟨m,rfl⟩:∃ m,o=m + 1:=⟨o - 1,by omega⟩
     exact ⟨i1,i2,i3⟩
def upI (f:Nat->Int) (k:Nat) (v:Int):Nat->Int:=fun i=>if i=k then v else f i
def upR (f:Nat->Int) (o n:Nat) (g:Nat->Int):Nat->Int:=fun i=>if o<=i/\i < o + n then g (i - o) else f i
def V.putA (k:IntKind) (m:Nat) (f:Nat->Int) (l:List V) (o:Nat):V->Option (List V)
 | .v (.int k' x)=>if k=k' then some (.ar k m (upI f o x) :: l) else none
 | .ar k' n g=>if k=k' then (if o=0/\n=m then some (.ar k n g :: l) else if o + n<=m then some (.ar k m (upR f o n g) :: l) else none) else none
 | _=>none
def V.putB (l:List V):V->Option (List V)
 | .ar _ _ _=>none
 | u=>some (u :: l)
def V.put1:List V->Nat->V->Option (List V)
 | [],_,_=>none
 | .ar k m f :: l,o,u=>if m<=o then (V.put1 l (o - m) u).map (V.ar k m f :: ·) else V.putA k m f l o u
 | x :: l,o,u=>if o=0 then V.putB l u else (V.put1 l (o - 1) u).map (x :: ·)
def V.putL:List V->Nat->List V->Option (List V)
 | l,_,[]=>some l
 | l,o,u :: us=>match V.put1 l o u with | some l'=>V.putL l' (o + u.w) us | none=>none
theorem V.put1_one {ρ:Env} {y:V} (h:(V.den ρ y).oneCell'=true) (l:List V) (o:Nat) (v:V) :
   V.put1 (y :: l) o v=if o=0 then V.putB l v else (V.put1 l (o - 1) v).map (y :: ·):=by
 have:=V.not_ar h
 cases y <;> first | rfl | exact absurd rfl (this _ _ _)
theorem Adw (k:IntKind) (f:Nat->Int) (x:Int) {m o:Nat} (h:o < m):arV k (upI f o x) m 0=(arV k f m 0).take o ++ [.int k x] ++ (arV k f m 0).drop (o + 1):=by
 have e:∀ h:Nat->Int,arV k h m 0=arV k h o 0 ++ (arV k h 1 o ++ arV k h (m - o - 1) (o + 1)):=fun h=>by
  rw [← J6 k h 1 (m - o - 1) o,show 1 + (m - o - 1)=m - o by omega]
  have:=J6 k h o (m - o) 0
  rwa [show o + (m - o)=m by omega,Nat.zero_add] at this
 rw [e f,e (upI f o x)]
 have e1:arV k (upI f o x) o 0=arV k f o 0:=Jj o 0 fun j _ h2=>by unfold upI; rw [if_neg (by omega)]
 have e2:arV k (upI f o x) (m - o - 1) (o + 1)=arV k f (m - o - 1) (o + 1):=Jj _ _ fun j h1 _=>by unfold upI; rw [if_neg (by omega)]
 have e3:arV k (upI f o x) 1 o=[.int k x]:=by simp [arV,upI]
 have e4:arV k f 1 o=[.int k (f o)]:=rfl
 rw [e1,e2,e3,e4,List.take_append,B3,Nat.sub_self,List.take_zero,List.append_nil,List.take_of_length_le (by rw [B3]; exact Nat.le_refl _),List.drop_append,B3,List.drop_of_length_le (by rw [B3]; omega),List.nil_append,show o + 1 - o=1 by omega]
 simp
theorem A42 (k:IntKind) (f g:Nat->Int) {m o n:Nat} (h:o + n<=m):arV k (upR f o n g) m 0=(arV k f m 0).take o ++ arV k g n 0 ++ (arV k f m 0).drop (o + n):=by
 have e:∀ h:Nat->Int,arV k h m 0=arV k h o 0 ++ (arV k h n o ++ arV k h (m - o - n) (o + n)):=fun h=>by
  rw [← J6 k h n (m - o - n) o,show n + (m - o - n)=m - o by omega]
  have:=J6 k h o (m - o) 0
  rwa [show o + (m - o)=m by omega,Nat.zero_add] at this
 rw [e f,e (upR f o n g)]
 have e1:arV k (upR f o n g) o 0=arV k f o 0:=Jj o 0 fun j _ h2=>by unfold upR; rw [if_neg (by omega)]
 have e2:arV k (upR f o n g) (m - o - n) (o + n)=arV k f (m - o - n) (o + n):=Jj _ _ fun j h1 _=>by unfold upR; rw [if_neg (by omega)]
 have e3:arV k (upR f o n g) n o=arV k g n 0:=by
  have:=Vi k (upR f o n g) o n 0
  rw [Nat.add_zero] at this
  rw [← this]
  exact Jj n 0 fun j _ h2=>by unfold upR; rw [if_pos (by omega),show o + j - o=j by omega]
 rw [e1,e2,e3,List.take_append,B3,Nat.sub_self,List.take_zero,List.append_nil,List.take_of_length_le (by rw [B3]; exact Nat.le_refl _),List.drop_append,B3,List.drop_of_length_le (by rw [B3]; omega),List.nil_append,show o + n - o=n by omega,List.drop_append,B3,Nat.sub_self,List.drop_zero,List.drop_of_length_le (by rw [B3]; exact Nat.le_refl _),List.nil_append,List.append_assoc]
theorem V.put1_ok {ρ : Env} {v : V} (hv : v.cell = true) : ∀ {l : List V} {o : Nat} {r : List V}, V.wf l = true -> V.put1 l o v = some r ->
   V.wf r=true/\V.flat ρ r=(V.flat ρ l).take o ++ (V.den ρ v).cells.toList ++ (V.flat ρ l).drop (o + v.w)/\o + v.w<=(V.flat ρ l).length
 | [],o,r,_,h=>by cases h
 | y :: l, o, r, hw, h => by
   simp only [V.wf,List.all_cons,bq] at hw
   rw [V.flat_cons]
   rcases V.den_one (ρ:=ρ) hw.1 with ⟨k,m,f,rfl⟩ | ⟨h1,h2,h3⟩
   ·rw [V.put1] at h
    rw [V.cells_ar]
    by_cases ho:m<=o
    ·rw [if_pos ho] at h
     cases hr:V.put1 l (o - m) v with
     | none=>rw [hr] at h; cases h
     | some r' =>
       rw [hr] at h; cases h
       obtain ⟨i1,i2,i3⟩:=V.put1_ok (ρ:=ρ) hv hw.2 hr
       refine ⟨by simpa [V.wf,V.cell] using i1,?_,by rw [List.length_append,B3]; omega⟩
       rw [V.flat_cons,V.cells_ar,i2,List.take_append,B3,List.take_of_length_le (show (arV k f m 0).length<=o by rw [B3]; exact ho),List.drop_append,B3,List.drop_of_length_le (show (arV k f m 0).length<=o + v.w by rw [B3]; omega),List.nil_append,show o + v.w - m=o - m + v.w by omega]
       simp only [List.append_assoc]
    ·rw [if_neg ho] at h
     unfold V.putA at h
     split at h
     ·rename_i k' x
      split at h
      ·rename_i e; subst e; cases h
       refine ⟨by simpa [V.wf,V.cell] using hw.2,?_,by rw [List.length_append,B3]; show o + 1<=_; omega⟩
       rw [V.flat_cons,V.cells_ar,Adw k f x (by omega),List.take_append,B3,show o - m=0 by omega,List.take_zero,List.append_nil,List.drop_append,B3,show o + V.w (.v (.int k x)) - m=0 by show o + 1 - m=0; omega,List.drop_zero]
       rw [V.den]
       show _=_ ++ [_] ++ (List.drop (o + 1) _ ++ _)
       simp only [List.append_assoc]
      ·cases h
     ·rename_i k' n g
      split at h
      ·rename_i e; subst e
       split at h
       ·rename_i e; obtain ⟨rfl,rfl⟩:=e; cases h
        refine ⟨by simpa [V.wf,V.cell] using hw.2,?_,by rw [List.length_append,B3]; show 0 + n<=_; omega⟩
        rw [V.flat_cons,V.cells_ar,List.take_zero,List.nil_append,show (0 + V.w (.ar k n g))=n by show 0 + n=n; omega,List.drop_append,B3,Nat.sub_self,List.drop_zero,List.drop_of_length_le (by rw [B3]; exact Nat.le_refl _),List.nil_append]
       ·split at h
        ·rename_i hon; cases h
         refine ⟨by simpa [V.wf,V.cell] using hw.2,?_,by rw [List.length_append,B3]; show o + n<=_; omega⟩
         rw [V.flat_cons,V.cells_ar,V.cells_ar,A42 k f g hon,List.take_append,B3,show o - m=0 by omega,List.take_zero,List.append_nil,List.drop_append,B3,show o + V.w (.ar k n g) - m=0 by show o + n - m=0; omega,List.drop_zero]
         show _=_ ++ _ ++ (List.drop (o + n) _ ++ _)
         simp only [List.append_assoc]
        ·cases h
      ·cases h
     ·cases h
   ·rw [V.put1_one h1] at h
    rw [h2]
    by_cases ho:o=0
    ·subst ho
     rw [if_pos rfl] at h
     rcases V.den_one (ρ:=ρ) hv with ⟨k,n,f,rfl⟩ | ⟨g1,g2,g3⟩
     ·cases h
     ·have hr:r=v :: l:=by
       have:=V.not_ar g1
       cases v <;> first | exact (Option.some.inj h).symm | exact absurd rfl (this _ _ _)
      subst hr
      refine ⟨by simpa [V.wf] using ⟨hv,by simpa [V.wf] using hw.2⟩,?_,by rw [g3]; simp⟩
      rw [V.flat_cons,g2,g3]; rfl
    ·rw [if_neg ho] at h
     obtain ⟨m,rfl⟩:∃ m,o=m + 1:=⟨o - 1,by omega⟩
     cases hr:V.put1 l (m + 1 - 1) v with
     | none=>rw [hr] at h; cases h
     | some r' =>
       rw [hr] at h; cases h
       obtain ⟨i1,i2,i3⟩:=V.put1_ok (ρ:=ρ) hv hw.2 hr
       refine ⟨by simpa [V.wf] using ⟨hw.1,by simpa [V.wf] using i1⟩,?_,?_⟩
       ·rw [V.flat_cons,h2,i2,show m + 1 + v.w=(m + v.w) + 1 by omega]; rfl
       ·rw [List.length_append]; show m + 1 + v.w<=1 + _; simp only [Nat.add_sub_cancel] at i3; omega
theorem V.putL_ok {ρ:Env}:∀ {vs l:List V} {o:Nat} {r:List V},V.wf vs=true->V.wf l=true->V.putL l o vs=some r ->
   V.wf r=true/\V.flat ρ r=(V.flat ρ l).take o ++ V.flat ρ vs ++ (V.flat ρ l).drop (o + (V.flat ρ vs).length)/\o + (V.flat ρ vs).length<=max o (V.flat ρ l).length
 | [],l,o,r,_,hl,h=>by cases h; refine ⟨hl,?_,?_⟩ <;> simp [V.flat_nil]; omega
 | u :: vs, l, o, r, hv, hl, h => by
   simp only [V.wf,List.all_cons,bq] at hv
   rw [V.putL] at h
   cases hr:V.put1 l o u with
   | none=>rw [hr] at h; cases h
   | some l' =>
     rw [hr] at h
     obtain ⟨i1,i2,i3⟩:=V.put1_ok (ρ:=ρ) hv.1 hl hr
     obtain ⟨j1,j2,j3⟩:=V.putL_ok (ρ:=ρ) hv.2 i1 h
     have hc:=V.cells_len (ρ:=ρ) hv.1
     have hlen:(V.flat ρ l').length=(V.flat ρ l).length:=by
      rw [i2]; simp only [List.length_append,List.length_take,List.length_drop,hc]; omega
     refine ⟨j1,?_,?_⟩
     ·rw [j2,i2,V.flat_cons]
      generalize V.flat ρ l=L at *
      generalize V.flat ρ vs=W at *
      generalize (V.den ρ u).cells.toList=C at *
      have h1:(List.take o L ++ C ++ List.drop (o + u.w) L).take (o + u.w)=List.take o L ++ C:=by
       rw [List.take_append_of_le_length (by simp [hc]; omega),List.take_of_length_le (by simp [hc]; omega)]
      have h2:(List.take o L ++ C ++ List.drop (o + u.w) L).drop (o + u.w + W.length)=L.drop (o + (C ++ W).length):=by
       rw [List.drop_append,List.drop_of_length_le (by simp [hc]; omega),List.nil_append,List.drop_drop]
       congr 1
       simp only [List.length_append,List.length_take,hc]; omega
      rw [h1,h2]
      simp only [List.append_assoc]
     ·rw [V.flat_cons,List.length_append,hc]
      rw [hlen] at j3
      omega
end Go.Proofs.YtfhiggfmkjmeiaaGreat
namespace Go.Proofs.YtfhiggfmkjmeiaaGreat
open Go Go.RowKit
mutual
def V.lt (n:Nat->Bool):V->Bool
 | .z | .v _ | .ar _ _ _=>true
 | .pt g _ | .pe g _ _ _ | .ps g _ _ | .sl g | .ss g _ _ _ | .sg g _ _ _ | .mp g | .yl g | .sk g _ _ _ _=>n g
 | .ag l | .tu l=>V.lts n l
 | .fn _ b c=>V.lts n b && V.lts n c
def V.lts (n:Nat->Bool):List V->Bool
 | []=>true
 | x :: l=>V.lt n x && V.lts n l
end
theorem V.lts_iff {n:Nat->Bool}:∀ {l:List V},V.lts n l=true ↔ ∀ x ∈ l,V.lt n x=true
 | []=>by simp [V.lts]
 | x :: l=>by rw [V.lts,bq,V.lts_iff (l:=l)]; simp
mutual
theorem V.lt_mono {n m:Nat->Bool} (h:∀ i,n i=true->m i=true):∀ x:V,V.lt n x=true->V.lt m x=true
 | .z,hx | .v _,hx | .ar _ _ _,hx=>by simp [V.lt]
 | .pt g _,hx | .pe g _ _ _,hx | .ps g _ _,hx | .sl g,hx | .ss g _ _ _,hx | .sg g _ _ _,hx | .mp g,hx | .yl g,hx | .sk g _ _ _ _,hx=>by
   simp only [V.lt] at hx ⊢; exact h _ hx
 | .ag l,hx | .tu l,hx=>by simp only [V.lt] at hx ⊢; exact V.lts_mono h l hx
 | .fn _ b c,hx=>by simp only [V.lt,bq] at hx ⊢; exact ⟨V.lts_mono h b hx.1,V.lts_mono h c hx.2⟩
theorem V.lts_mono {n m:Nat->Bool} (h:∀ i,n i=true->m i=true):∀ l:List V,V.lts n l=true->V.lts m l=true
 | [],_=>by simp [V.lts]
 | x :: l,hx=>by simp only [V.lts,bq] at hx ⊢; exact ⟨V.lt_mono h x hx.1,V.lts_mono h l hx.2⟩
end
mutual
theorem V.den_ext {n:Nat->Bool} {ρ ρ':Env} (h:∀ i,n i=true->ρ' i=ρ i):∀ x:V,V.lt n x=true->V.den ρ' x=V.den ρ x
 | .z,hx | .v _,hx | .ar _ _ _,hx=>by rw [V.den,V.den]
 | .pt g _,hx | .pe g _ _ _,hx | .ps g _ _,hx | .sl g,hx | .ss g _ _ _,hx | .sg g _ _ _,hx | .mp g,hx | .yl g,hx | .sk g _ _ _ _,hx=>by
   simp only [V.lt] at hx; rw [V.den,V.den,h g hx]
 | .ag l,hx=>by simp only [V.lt] at hx; rw [V.den,V.den,V.flat_ext h l hx]
 | .tu l,hx=>by simp only [V.lt] at hx; rw [V.den,V.den,V.dens_ext h l hx]
 | .fn _ b c,hx=>by simp only [V.lt,bq] at hx; rw [V.den,V.den,V.dens_ext h b hx.1,V.dens_ext h c hx.2]
theorem V.flat_ext {n:Nat->Bool} {ρ ρ':Env} (h:∀ i,n i=true->ρ' i=ρ i):∀ l:List V,V.lts n l=true->V.flat ρ' l=V.flat ρ l
 | [],_=>by rw [V.flat,V.flat]
 | x :: l,hx=>by simp only [V.lts,bq] at hx; rw [V.flat,V.flat,V.den_ext h x hx.1,V.flat_ext h l hx.2]
theorem V.dens_ext {n:Nat->Bool} {ρ ρ':Env} (h:∀ i,n i=true->ρ' i=ρ i):∀ l:List V,V.lts n l=true->V.dens ρ' l=V.dens ρ l
 | [],_=>by rw [V.dens,V.dens]
 | x :: l,hx=>by simp only [V.lts,bq] at hx; rw [V.dens,V.dens,V.den_ext h x hx.1,V.dens_ext h l hx.2]
end
def Loc.nil:Loc:=.of none 0 0 0
inductive Vw where
 | nil
 | id (j:Nat)
 | sg (g o s n:Nat)
 | ss (g i s n:Nat)
instance (n:Nat):OfNat Vw n:=⟨match n with | 0=>.nil | j + 1=>.id j⟩
def Vw.isId:Vw->Bool
 | .id _=>true
 | _=>false
theorem Vw.of_isId {x:Vw} (h:x.isId=true):∃ j,x=.id j:=by cases x <;> first | exact ⟨_,rfl⟩ | cases h
mutual
def V.rn (σ:Nat->Vw):V->V
 | .z=>.z
 | .v x=>.v x
 | .ar k n f=>.ar k n f
 | .pt g o=>match σ g with | .id i=>.pt i o | _=>.z
 | .pe g i s o=>match σ g with | .id j=>.pe j i s o | _=>.z
 | .ps g o i=>match σ g with | .id j=>.ps j o i | _=>.z
 | .sl g=>match σ g with | .id j=>.sl j | .nil=>.v (.slice none 0 0) | .sg g o s n=>.sg g o s n | .ss g i s n=>.ss g i s n
 | .ss g i s n=>match σ g with | .id j=>.ss j i s n | _=>.z
 | .sg g o s n=>match σ g with | .id j=>.sg j o s n | _=>.z
 | .mp g=>match σ g with | .id j=>.mp j | _=>.z
 | .yl g=>match σ g with | .id j=>.yl j | _=>.z
 | .sk g o s n c=>match σ g with | .id j=>.sk j o s n c | _=>.z
 | .ag l=>.ag (V.rns σ l)
 | .tu l=>.tu (V.rns σ l)
 | .fn f b c=>.fn f (V.rns σ b) (V.rns σ c)
def V.rns (σ:Nat->Vw):List V->List V
 | []=>[]
 | x :: l=>V.rn σ x :: V.rns σ l
end
def Env.via (ρ:Env) (σ:Nat->Vw):Env:=fun i=>match σ i with | .id j=>ρ j | .nil=>Loc.nil | .sg g o s n=>Loc.of (some (ρ g).g) ((ρ g).o + o) n n | .ss g i s n=>(ρ g).vw i s n
mutual
def V.alive (σ:Nat->Vw):V->Bool
 | .z | .v _ | .ar _ _ _ | .sl _=>true
 | .pt g _ | .pe g _ _ _ | .ps g _ _ | .ss g _ _ _ | .sg g _ _ _ | .mp g | .yl g | .sk g _ _ _ _=>(σ g).isId
 | .ag l | .tu l=>V.alives σ l
 | .fn _ b c=>V.alives σ b && V.alives σ c
def V.alives (σ:Nat->Vw):List V->Bool
 | []=>true
 | x :: l=>V.alive σ x && V.alives σ l
end
mutual
theorem V.den_rn {ρ:Env} {σ:Nat->Vw}:∀ x:V,V.alive σ x=true->V.den ρ (V.rn σ x)=V.den (ρ.via σ) x
 | .z,h | .v _,h | .ar _ _ _,h=>by rw [V.rn,V.den,V.den]
 | .pt g _,h | .pe g _ _ _,h | .ps g _ _,h | .ss g _ _ _,h | .sg g _ _ _,h | .mp g,h | .yl g,h | .sk g _ _ _ _,h=>by
   simp only [V.alive] at h
   obtain ⟨j,hj⟩:=Vw.of_isId h
   rw [V.rn,hj]
   simp only [V.den,Env.via,hj]
 | .sl g,h=>by
   cases hj:σ g with
   | nil=>rw [V.rn,hj]; simp only [V.den,Env.via,hj]; rfl
   | id j=>rw [V.rn,hj]; simp only [V.den,Env.via,hj]
   | sg g o s n=>rw [V.rn,hj]; simp only [V.den,Env.via,hj]; rfl
   | ss g i s n=>rw [V.rn,hj]; simp only [V.den,Env.via,hj]; rfl
 | .ag l,h=>by simp only [V.alive] at h; rw [V.rn,V.den,V.den,V.flat_rn l h]
 | .tu l,h=>by simp only [V.alive] at h; rw [V.rn,V.den,V.den,V.dens_rn l h]
 | .fn _ b c,h=>by simp only [V.alive,bq] at h; rw [V.rn,V.den,V.den,V.dens_rn b h.1,V.dens_rn c h.2]
theorem V.flat_rn {ρ:Env} {σ:Nat->Vw}:∀ l:List V,V.alives σ l=true->V.flat ρ (V.rns σ l)=V.flat (ρ.via σ) l
 | [],_=>by rw [V.rns,V.flat,V.flat]
 | x :: l,h=>by simp only [V.alives,bq] at h; rw [V.rns,V.flat,V.flat,V.den_rn x h.1,V.flat_rn l h.2]
theorem V.dens_rn {ρ:Env} {σ:Nat->Vw}:∀ l:List V,V.alives σ l=true->V.dens ρ (V.rns σ l)=V.dens (ρ.via σ) l
 | [],_=>by rw [V.rns,V.dens,V.dens]
 | x :: l,h=>by simp only [V.alives,bq] at h; rw [V.rns,V.dens,V.dens,V.den_rn x h.1,V.dens_rn l h.2]
end
def ρN:Env:=fun _=>Loc.nil
def L0:Nat->Bool:=fun _=>false
theorem Sh {n:Nat->Bool}:∀ i,L0 i=true->n i=true:=fun i h=>by cases h
structure Enc (α:Type) where
 s:α->List V
 ty:TypeId
 sz:Nat
 ok:∀ a,V.wf (s a)=true/\(V.flat ρN (s a)).length=sz/\V.lts L0 (s a)=true
def Enc.c {α:Type} (e:Enc α) (a:α):List Value:=V.flat ρN (e.s a)
def Enc.cs {α:Type} (e:Enc α) (l:List α):List Value:=l.flatMap e.c
section
variable {α:Type} (e:Enc α)
theorem Enc.flat (ρ:Env) (a:α):V.flat ρ (e.s a)=e.c a:=V.flat_ext (n:=L0) (fun i hi=>by cases hi) _ (e.ok a).2.2
theorem Enc.wf (a:α):V.wf (e.s a)=true:=(e.ok a).1
theorem Enc.len (a:α):(e.c a).length=e.sz:=(e.ok a).2.1
theorem Enc.one (a:α):∀ u ∈ e.c a,u.oneCell'=true:=V.flat_one (e.wf a)
theorem Enc.csLen (l:List α):(e.cs l).length=l.length * e.sz:=Af3 e.len l
theorem Enc.csOne (l:List α):∀ u ∈ e.cs l,u.oneCell'=true:=fun u hu=>by
 obtain ⟨a,_,h⟩:=List.mem_flatMap.1 hu; exact e.one a u h
theorem Af2 {β:Type} {f:β->List Value} {sz:Nat} (hf:∀ x,(f x).length=sz):∀ (l:List β) {k:Nat} {a:β},l[k]?=some a->∀ (j:Nat) v,(f a)[j]?=some v->(l.flatMap f)[k * sz + j]?=some v
 | [],k,_,hk,_,_,_=>by simp at hk
 | x :: l,0,a,hk,j,v,h=>by
   simp at hk; subst hk
   have hj:j < (f x).length:=(List.getElem?_eq_some_iff.1 h).1
   rw [List.flatMap_cons,Nat.zero_mul,Nat.zero_add,List.getElem?_append_left hj]; exact h
 | x :: l,k + 1,a,hk,j,v,h=>by
   rw [List.flatMap_cons,List.getElem?_append_right (by rw [hf]; have:(k + 1) * sz=k * sz + sz:=Nat.succ_mul k sz; omega),hf,show (k + 1) * sz + j - sz=k * sz + j by have:(k + 1) * sz=k * sz + sz:=Nat.succ_mul k sz; omega]
   exact Af2 hf l (by simpa using hk) j v h
theorem Enc.at {l:List α} {k:Nat} {a:α} (hk:l[k]?=some a) (j:Nat) {v:Value} (h:(e.c a)[j]?=some v):(e.cs l)[k * e.sz + j]?=some v:=Af2 e.len l hk j v h
end
inductive B:Type 1 where
 | free
 | gone
 | blk (l:List V) (ty:TypeId)
 | row {α:Type} (e:Enc α) (l:List α)
 | mp (y:V) (F:Int->V)
 | lo (st:LoopState) (pe:Option Code)
 | dfs
 | ro (b:B)
def B.lt (n:Nat->Bool):B->Bool
 | .blk l _=>V.lts n l
 | .ro b=>b.lt n
 | _=>true
def B.rn (σ:Nat->Vw):B->B
 | .blk l ty=>.blk (V.rns σ l) ty
 | .ro b=>.ro (b.rn σ)
 | b=>b
def B.alive (σ:Nat->Vw):B->Bool
 | .blk l _=>V.alives σ l
 | .ro b=>b.alive σ
 | _=>true
def Sf:Res:=.row (.slice none 0 0) 0 0 0 []
def B.res (ρ:Env) (c:Loc):B->Res
 | .blk l ty=>.blk c.g (V.flat ρ l).toArray ty
 | .row e l=>.row c.slw e.ty e.sz l.length (e.cs l)
 | .mp y F=>.mp c.g (V.den ρN y) fun k=>V.den ρN (F k)
 | .lo st pe=>.obj c.g (c.r st pe)
 | .dfs=>.objs c.l (.deferred (some []))
 | .gone | .free=>Sf
 | .ro _=>Sf
def B.roOk (w0:World) (M:List Nat) (ρ:Env) (c:Loc):B->Prop
 | .blk l ty=>c.o=0/\V.wf l=true/\c.g ∉ M/\w0.heap[c.g]?=some (.cells (V.flat ρ l).toArray ty (0,0))
 | .row e l=>c.n=l.length/\c.n<=c.cap/\(c.a=none->l=[]/\c.cap=0)/\(∀ a,c.a=some a->a ∉ M/\a < w0.heap.size)/\∀ (j:Nat) v,(e.cs l)[j]?=some v->w0.cell? ⟨c.g,c.o + j,none⟩=some v
 | .mp y F=>c.g ∉ M/\∃ es cl,w0.heap[c.g]?=some (.map es cl)/\MapFn (V.den ρN y) es fun k=>V.den ρN (F k)
 | .lo _ _=>c.g ∉ M/\c.g < w0.heap.size
 | .dfs=>∀ x ∈ c.l,x ∉ M/\x < w0.heap.size
 | .gone | .free=>True
 | .ro _=>False
def B.side (w0:World) (M:List Nat) (ρ:Env) (c:Loc):B->Prop
 | .blk l ty=>c.o=0/\V.wf l=true
 | .row e l=>c.o=0/\c.n=l.length/\(c.a=none->c.cap=0/\c.ea=none)
 | .mp _ _ | .lo _ _ | .dfs=>True
 | .gone | .free=>True
 | .ro b=>b.roOk w0 M ρ c
def rsF (ρ:Env):List B->Nat->List Res
 | [],_=>[]
 | b :: H,i=>b.res ρ (ρ i) :: rsF ρ H (i + 1)
theorem A6l (ρ:Env):∀ (H:List B) (i:Nat),(rsF ρ H i).length=H.length
 | [],_=>rfl
 | b :: H,i=>by rw [rsF,List.length_cons,List.length_cons,A6l ρ H (i + 1)]
theorem Ng (ρ:Env):∀ (H:List B) (i j:Nat),(rsF ρ H i)[j]?=H[j]?.map fun b=>b.res ρ (ρ (i + j))
 | [],_,_=>rfl
 | b :: H,i,0=>rfl
 | b :: H,i,j + 1=>by rw [rsF,List.getElem?_cons_succ,Ng ρ H (i + 1) j,List.getElem?_cons_succ,show i + 1 + j=i + (j + 1) by omega]
theorem Bd {ρ:Env} {H:List B} {j:Nat} {b:B} (h:H[j]?=some b):(rsF ρ H 0)[j]?=some (b.res ρ (ρ j)):=by rw [Ng,h,Nat.zero_add]; rfl
theorem H4 {ρ:Env} {H:List B} {j:Nat} {r:Res} (h:(rsF ρ H 0)[j]?=some r):∃ b,H[j]?=some b/\r=b.res ρ (ρ j):=by
 rw [Ng,Nat.zero_add] at h
 cases hb:H[j]? with
 | none=>rw [hb] at h; cases h
 | some b=>rw [hb] at h; exact ⟨b,rfl,(Option.some.inj h).symm⟩
theorem B.res_ext {n:Nat->Bool} {ρ ρ':Env} (h:∀ i,n i=true->ρ' i=ρ i) {c:Loc} {b:B} (hb:b.lt n=true):b.res ρ' c=b.res ρ c:=by
 cases b with
 | blk l ty=>simp only [B.res,V.flat_ext h l hb]
 | _=>rfl
theorem B.side_ext {n:Nat->Bool} {ρ ρ':Env} (h:∀ i,n i=true->ρ' i=ρ i) {c:Loc} {w0:World} {M:List Nat} {b:B} (hb:b.lt n=true):b.side w0 M ρ' c ↔ b.side w0 M ρ c:=by
 cases b with
 | ro b =>
   cases b with
   | blk l ty=>simp only [B.side,B.roOk]; rw [V.flat_ext h l hb]
   | _=>exact Iff.rfl
 | _=>exact Iff.rfl
theorem B.lt_mono {n m:Nat->Bool} (h:∀ i,n i=true->m i=true):∀ {b:B},b.lt n=true->b.lt m=true
 | .blk l _,hb=>V.lts_mono h l hb
 | .ro b,hb=>B.lt_mono (b:=b) h hb
 | .gone,_ | .free,_ | .row _ _,_ | .mp _ _,_ | .lo _ _,_ | .dfs,_=>rfl
def liv (H:List B):Nat->Bool:=fun g=>match H[g]? with | none | some .free=>false | _=>true
def B.isRow:B->Bool
 | .row _ _=>true
 | _=>false
def Gc (pre:List B) (i:Nat):Bool:=match pre[i]? with | some b=>!b.isRow | none=>true
structure Ctx where
 k:Nat
 fx:Nat->Bool
 ρ:Env
 M:List Nat
 w:World
structure Emb (X:Ctx) (ρ:Env) (H:List B) (w:World):Prop where
 hs:Hs X.M X.w w (rsF ρ H 0)
 sd:∀ (i:Nat) b,H[i]?=some b->b.side X.w X.M ρ (ρ i)
 cl:∀ (i:Nat) b,H[i]?=some b->b.lt (liv H)=true
 ag:∀ i,i < X.k->X.fx i=true->ρ i=X.ρ i
 kl:∀ i,i < X.k->liv H i=true
 nr:∀ (i:Nat) b,i < X.k->X.fx i=true->H[i]?=some b->b.isRow=false
end Go.Proofs.YtfhiggfmkjmeiaaGreat
namespace Go.Proofs.YtfhiggfmkjmeiaaGreat
open Go Go.RowKit
def Py:B->Option (List V)
 | .blk l _=>some l
 | .ro (.blk l _)=>some l
 | _=>none
def B.bare:B->B
 | .ro b=>b
 | b=>b
section
variable {X:Ctx} {ρ:Env} {H:List B} {w:World} {P:Program}
theorem W5 (h:Emb X ρ H w) {g:Nat} (hm:g ∉ X.M) (hl:g < X.w.heap.size):w.heap[g]?=X.w.heap[g]?:=h.hs.fr.block g hl hm
theorem Emb.blk (h:Emb X ρ H w) {g:Nat} {b:B} {l:List V} (hg:H[g]?=some b) (hb:Py b=some l) :
   (ρ g).o=0/\V.wf l=true/\∃ ty,w.heap[(ρ g).g]?=some (.cells (V.flat ρ l).toArray ty (0,0)):=by
 have hs:=h.sd g b hg
 cases b with
 | blk l' ty=>cases hb; exact ⟨hs.1,hs.2,ty,h.hs.ok g _ (Bd hg)⟩
 | ro b =>
   cases b with
   | blk l' ty =>
     cases hb
     obtain ⟨h1,h2,h3,h4⟩:=hs
     exact ⟨h1,h2,ty,(W5 h h3 (Gx h4)).trans h4⟩
   | _=>cases hb
 | _=>cases hb
theorem Emb.row (h:Emb X ρ H w) {g:Nat} {b:B} {α:Type} {e:Enc α} {l:List α} (hg:H[g]?=some b) (hb:b.bare=.row e l) :
   (ρ g).n=l.length/\(ρ g).n<=(ρ g).cap/\((ρ g).a=none->l=[])/\∀ (j:Nat) v,(e.cs l)[j]?=some v->w.cell? ⟨(ρ g).g,(ρ g).o + j,none⟩=some v:=by
 have hs:=h.sd g b hg
 cases b with
 | row e' l' =>
   cases hb
   have ho:=h.hs.ok g _ (Bd hg)
   simp only [B.res,Res.ok] at ho
   obtain ⟨h1,h2,_⟩:=hs
   cases ha:(ρ g).a with
   | none =>
     have hn:l=[]:=by
      rcases ho.2 with ⟨_,h3⟩ | ⟨g',cap,cur,hv,_⟩
      ·exact List.length_eq_zero_iff.1 h3
      ·unfold Loc.slw at hv; rw [ha] at hv; cases hv
     subst hn
     refine ⟨h2,by rw [h2]; exact Nat.zero_le _,fun _=>rfl,fun j v hj=>by cases hj⟩
   | some a =>
     have hv:(ρ g).slw=.slice (some ⟨a,0,none⟩) (ρ g).n (ρ g).cap:=by unfold Loc.slw; rw [ha,h1]
     have hc:=ho
     rw [hv] at hc
     refine ⟨h2,?_,fun x=>(by cases x),fun j v hj=>?_⟩
     ·rcases hc.2 with ⟨h3,_⟩ | ⟨g',cap,cur,hv',_,_,hle,_⟩
      ·cases h3
      ·simp only [Value.slice.injEq] at hv'; rw [h2,hv'.2.2]; exact hle
     ·have:=World.ownsRow.cells hc (g:=a) rfl j v hj
      rw [show (ρ g).g=a by unfold Loc.g; rw [ha]; rfl,h1,Nat.zero_add]
      rwa [show ((⟨a,0,none⟩:Addr).add j)=⟨a,j,none⟩ by unfold Addr.add; split <;> simp_all] at this
 | ro b =>
   cases b with
   | row e' l' =>
     cases hb
     obtain ⟨h1,h2,h3,h4,h5⟩:=hs
     refine ⟨h1,h2,fun x=>(h3 x).1,fun j v hj=>?_⟩
     have h6:=h5 j v hj
     cases ha:(ρ g).a with
     | none=>rw [(h3 ha).1] at hj; cases hj
     | some a =>
       have hg':(ρ g).g=a:=by unfold Loc.g; rw [ha]; rfl
       obtain ⟨h7,h8⟩:=h4 a ha
       rw [hg'] at h6 ⊢
       unfold World.cell? at h6 ⊢
       rw [show (⟨a,(ρ g).o + j,none⟩:Addr).block=a from rfl] at h6 ⊢
       rw [W5 h h7 h8]
       exact h6
   | _=>cases hb
 | _=>cases hb
theorem Emb.map (h:Emb X ρ H w) {g:Nat} {b:B} {y:V} {F:Int->V} (hg:H[g]?=some b) (hb:b.bare=.mp y F) :
   ∃ es cl,w.heap[(ρ g).g]?=some (.map es cl)/\MapFn (V.den ρN y) es fun k=>V.den ρN (F k):=by
 have hs:=h.sd g b hg
 cases b with
 | mp z' F'=>cases hb; exact h.hs.ok g _ (Bd hg)
 | ro b =>
   cases b with
   | mp z' F' =>
     cases hb
     obtain ⟨h1,es,cl,h2,h3⟩:=hs
     exact ⟨es,cl,(W5 h h1 (Gx h2)).trans h2,h3⟩
   | _=>cases hb
 | _=>cases hb
end
def Ay:List (Nat × V)->Nat->V
 | [],_=>.z
 | (j,x) :: T,i=>bif Nat.beq i j then x else Ay T i
structure ActOk (ds:List Deferred) (ρ:Env) (n:Nat) (T:List (Nat × V)) (a:Act):Prop where
 sz:a.tmps.size=n
 df:a.defers=ds
 t:∀ i,Ay T i=.z ∨ a.tmps[i]?=some (V.den ρ (Ay T i))
def evO (T:List (Nat × V)):Operand->V
 | .tmp t=>Ay T t
 | .const x=>.v x
 | .func f=>.fn (.func f) [] []
 | .global _=>.z
def V.nz:V->Bool
 | .z=>false
 | _=>true
section
variable {ρ ρ':Env} {n:Nat} {T:List (Nat × V)} {a:Act} {ds:List Deferred}
theorem ActOk.eval (h:ActOk ds ρ n T a) {x:Operand} (hx:(evO T x).nz=true):a.eval x=V.den ρ (evO T x):=by
 cases x with
 | tmp t =>
   rcases h.t t with h1 | h1
   ·rw [show evO T (.tmp t)=Ay T t from rfl,h1] at hx; cases hx
   ·show a.tmps.getD t undef=V.den ρ (Ay T t)
    rw [Array.getD_eq_getD_getElem?,h1]; rfl
 | const v=>show v=V.den ρ (.v v); rw [V.den]
 | func f=>show _=V.den ρ (.fn (.func f) [] []); rw [V.den,V.dens]; rfl
 | global g=>cases hx
def Re (n:Nat) (T:List (Nat × V)) (d:Option Nat) (x:V):List (Nat × V) :=
 match d with
 | some d=>bif Nat.blt d n then (d,x) :: T else T
 | none=>T
theorem ActOk.put (h:ActOk ds ρ n T a) (d:Option Nat) (x:V) {u:Value} (hu:x=.z ∨ u=V.den ρ x):ActOk ds ρ n (Re n T d x) (a.put d u):=by
 cases d with
 | none=>exact h
 | some d =>
   refine ⟨by simp [Act.put,h.sz],h.df,fun i=>?_⟩
   unfold Re
   cases hd:Nat.blt d n with
   | false =>
     have hd':¬ d < n:=fun hlt=>by rw [← Nat.blt_eq,hd] at hlt; cases hlt
     simp only [hd,cond_false]
     refine (h.t i).imp id fun h1=>?_
     have hi:=(Array.getElem?_eq_some_iff.1 h1).1
     rw [h.sz] at hi
     simp only [Act.put]
     rw [Array.getElem?_setIfInBounds_ne (by omega)]; exact h1
   | true =>
     have hd':d < n:=by rw [Nat.blt_eq] at hd; exact hd
     simp only [hd,cond_true]
     rw [Ay]
     cases hb:Nat.beq i d with
     | true =>
       have e:=Nat.eq_of_beq_eq_true hb
       subst e
       rw [show (bif true then x else Ay T i)=x from rfl]
       refine hu.imp id fun e=>?_
       simp only [Act.put]
       rw [Array.getElem?_setIfInBounds_self_of_lt (by rw [h.sz]; exact hd'),e]
     | false =>
       rw [show (bif false then x else Ay T i)=Ay T i from rfl]
       refine (h.t i).imp id fun h1=>?_
       have hne:¬ i=d:=fun e=>by subst e; rw [Nat.beq_refl] at hb; cases hb
       simp only [Act.put]
       rw [Array.getElem?_setIfInBounds_ne (Ne.symm hne)]; exact h1
def tlt (n:Nat->Bool) (T:List (Nat × V)):Prop:=∀ i,V.lt n (Ay T i)=true
theorem Ym {m:Nat->Bool} {k:Nat} {x:V} {d:Option Nat} (h:tlt m T) (hx:V.lt m x=true):tlt m (Re k T d x):=fun i=>by
 unfold Re
 cases d with
 | none=>exact h i
 | some d =>
   cases hd:Nat.blt d k with
   | false=>simp only [hd,cond_false]; exact h i
   | true =>
     simp only [hd,cond_true]
     show V.lt m (Ay ((d,x) :: T) i)=true
     rw [Ay]
     cases Nat.beq i d with
     | true=>exact hx
     | false=>exact h i
theorem A1h {m k:Nat->Bool} (hk:∀ i,m i=true->k i=true) (h:tlt m T):tlt k T:=fun i=>V.lt_mono hk _ (h i)
theorem Gv {m:Nat->Bool} (h:tlt m T) (x:Operand):V.lt m (evO T x)=true:=by
 cases x with
 | tmp t=>exact h t
 | const v=>simp [evO,V.lt]
 | func f=>simp [evO,V.lt,V.lts]
 | global g=>simp [evO,V.lt]
end
def A2e:List V->V
 | [.ar k n f]=>.ar k n f
 | l=>.ag l
theorem Uj (ρ:Env) (l:List V):V.den ρ (A2e l)=.agg (V.flat ρ l).toArray:=by
 unfold A2e
 split
 ·rw [V.den,V.flat_cons,V.cells_ar,V.flat_nil,List.append_nil]
 ·rw [V.den]
def V.seg:List V->Nat->Option (IntKind × Nat × (Nat->Int))
 | [],_=>none
 | .ar k n f :: l,o=>if o=0 then some (k,n,f) else if n<=o then V.seg l (o - n) else none
 | x :: l,o=>if o=0 then none else V.seg l (o - 1)
theorem V.seg_one {ρ:Env} {y:V} (h:(V.den ρ y).oneCell'=true) (l:List V) (o:Nat):V.seg (y :: l) o=if o=0 then none else V.seg l (o - 1):=by
 have:=V.not_ar h
 cases y <;> first | rfl | exact absurd rfl (this _ _ _)
theorem V.seg_ok {ρ:Env}:∀ {l:List V} {o:Nat} {k:IntKind} {n:Nat} {f:Nat->Int},V.wf l=true->V.seg l o=some (k,n,f)->∀ i,i < n->(V.flat ρ l)[o + i]?=some (.int k (f i))
 | [],o,k,n,f,_,h=>by cases h
 | y :: l, o, k, n, f, hw, h => by
   simp only [V.wf,List.all_cons,bq] at hw
   intro i hi
   rw [V.flat_cons]
   rcases V.den_one (ρ:=ρ) hw.1 with ⟨k',m,f',rfl⟩ | ⟨h1,h2,h3⟩
   ·rw [V.seg] at h
    rw [V.cells_ar]
    by_cases h0:o=0
    ·rw [if_pos h0] at h; cases h; subst h0
     rw [List.getElem?_append_left (by rw [B3]; omega),Tg _ _ _ _ _ (by omega),Nat.zero_add,Nat.zero_add]
    ·rw [if_neg h0] at h
     by_cases hm:m<=o
     ·rw [if_pos hm] at h
      rw [List.getElem?_append_right (by rw [B3]; omega),B3,show o + i - m=o - m + i by omega]
      exact V.seg_ok hw.2 h i hi
     ·rw [if_neg hm] at h; cases h
   ·rw [V.seg_one h1] at h
    by_cases h0:o=0
    ·rw [if_pos h0] at h; cases h
    ·rw [if_neg h0] at h
     rw [h2]
     obtain ⟨m,rfl⟩:∃ m,o=m + 1:=⟨o - 1,by omega⟩
     rw [show m + 1 + i=(m + i) + 1 by omega]
     show (V.flat ρ l)[m + i]?=_
     exact V.seg_ok hw.2 h i hi
def Ms (P:Program) (t:TypeId):Bool :=
 match P.underlying t with
 | some (.struct _) | some (.array _ _) | none=>false
 | some _=>true
theorem Aa2 {P:Program} {t:TypeId} (h:Ms P t=true) (ad:Addr) (w:World):(loadVar t ad).run P w=(Go.load ad).run P w:=by
 unfold Ms at h
 cases hu:P.underlying t with
 | none=>rw [hu] at h; cases h
 | some d =>
   rw [hu] at h
   have hr:=run_underlying hu w
   cases d <;> (simp only at h) <;> first | (cases h; done) | simp only [loadVar,isAgg,Sem.run_bind,hr,Result.andThen_ok,Sem.run_pure,Bool.false_eq_true,if_false]
theorem R7 {P:Program} {w:World} {t:TypeId} {g o:Nat} {v:Value} (h:Ms P t=true) (hc:w.cell? ⟨g,o,none⟩=some v) :
   ((Instr.loadAt t (.pointer (some ⟨g,o,none⟩))) >>= fun v=>pure (Next.value v)).run P w=.ok (.value v) w:=by
 have:(Go.load ⟨g,o,none⟩).run P w=.ok v w:=by unfold Go.load; simp only [Sem.run,hc]
 simp only [Instr.loadAt,Instr.sureAddr,Sem.run_bind,Sem.run_pure,Result.andThen_ok,Aa2 h,this]
theorem R8 {P:Program} {w:World} {t:TypeId} {g o n:Nat} {vs:List Value} (h:Kl P t=some n) (hn:vs.length=n) (hc:∀ (j:Nat) v,vs[j]?=some v->w.cell? ⟨g,o + j,none⟩=some v) :
   ((Instr.loadAt t (.pointer (some ⟨g,o,none⟩))) >>= fun v=>pure (Next.value v)).run P w=.ok (.value (.agg vs.toArray)) w:=by
 subst hn
 have h1:=Atq (w:=w) h ⟨g,o,none⟩
 rw [Atp vs hc] at h1
 simpa only [Instr.loadAt,Instr.sureAddr,Sem.run_bind,Sem.run_pure,Result.andThen_ok,ldV] using h1
inductive It:Type 1 where
 | t (b:Bool)
 | e (d:Nat) (x:Value)
 | p (d:Nat) (x:V)
 | ix (i:Nat)
 | lt
 | el (cs:List V)
 | ld (x:V)
 | sw (b:B)
 | ap (b:B)
 | mk (b:B)
 | sl (i n:Nat)
 | bs (d:Nat) (b:B)
 | cp (l:List V) (k:Nat)
 | lu (k:Nat)
 | fz (F:List Nat)
 | mu (F:Int->V)
 | c (σ:List Vw) (args:List V) (pre:List B) (res:V) (post:List B)
 | lp (N n:Nat) (σ0 σ1:List (Nat × Vw)) (Tx:Nat->List (Nat × V)) (Wx:Nat->List (Nat × B)) (Is:Nat->List It)
 | cs (k:Nat) (q:Bool) (n:Nat) (σ0 σ1:List (Nat × Vw)) (Tj:Bool->List (Nat × V)) (Wj:Bool->List (Nat × B)) (Ia Ib:List It)
inductive Fd:Type 1 where
 | no
 | b (b:B)
 | v (cs:List Value) (n:Nat)
inductive Ob:Type 1 where
 | fz
 | t (b:Bool)
 | e (x:Value)
 | p (s:Sem Next)
 | ix (n:Int) (m:Nat)
 | lt (i n:Nat)
 | el (b:B) (i:Nat)
 | ld (b:B) (o n:Nat)
 | sw (b:B) (i:Nat) (cs:List V)
 | ap (d s:List V ⊕ B) (ty:TypeId) (sz:Nat)
 | mk (n:Int) (zs:List Value) (ty:TypeId) (sz:Nat)
 | sl (lo hi:Int) (n:Nat)
 | bs (cs:List V) (ty:TypeId) (sz:Nat)
 | cp (l:List V) (o n sz:Nat) (src:List V ⊕ B)
 | lu
 | mu (F:Int->V) (j:Int) (v:V)
 | c (f:FuncId) (args:List V) (bs:List Fd)
 | pj (ok:Bool) (T:List V) (H:List Fd)
 | lp (ok:Bool) (T:List V) (H:List Fd) (f:Nat->List Ob)
 | cs (fa fb:List Ob)
end Go.Proofs.YtfhiggfmkjmeiaaGreat
namespace Go.Proofs.YtfhiggfmkjmeiaaGreat
open Go Go.RowKit
theorem V.look_cons (y:V) (l:List V) (o:Nat):V.look (y :: l) o=(match y with | .ar k n f=>if o < n then some (.v (.int k (f o))) else V.look l (o - n) | y=>if o=0 then some y else V.look l (o - 1)):=by
 cases y <;> rfl
theorem V.part_cons (y:V) (l:List V) (o n:Nat):V.part (y :: l) o n=(match y with
 | .ar k m f=>if n=0 then some [] else if m<=o then V.part l (o - m) n else if o=0 then (if m<=n then (V.part l 0 (n - m)).map (V.ar k m f :: ·) else some [.ar k n f]) else if o + n<=m then some [.ar k n fun i=>f (o + i)] else none
 | y=>if n=0 then some [] else if o=0 then (V.part l 0 (n - 1)).map (y :: ·) else V.part l (o - 1) n):=by
 cases y <;> rfl
theorem V.look_lt {n:Nat->Bool}:∀ {l:List V} {o:Nat} {x:V},V.lts n l=true->V.look l o=some x->V.lt n x=true
 | [],o,x,_,h=>by cases h
 | y :: l,o,x,hl,h=>by
   simp only [V.lts,bq] at hl
   rw [V.look_cons] at h
   split at h <;> split at h
   ·cases h; simp [V.lt]
   ·exact V.look_lt hl.2 h
   ·cases h; exact hl.1
   ·exact V.look_lt hl.2 h
theorem V.look_nz {ρ:Env}:∀ {l:List V} {o:Nat} {x:V},V.wf l=true->V.look l o=some x->x.nz=true
 | [],o,x,_,h=>by cases h
 | y :: l,o,x,hl,h=>by
   simp only [V.wf,List.all_cons,bq] at hl
   rw [V.look_cons] at h
   split at h <;> split at h
   ·cases h; rfl
   ·exact V.look_nz (ρ:=ρ) hl.2 h
   ·cases h; cases y <;> first | rfl | (simp [V.cell] at hl)
   ·exact V.look_nz (ρ:=ρ) hl.2 h
theorem V.part_lt {m : Nat -> Bool} : ∀ {l : List V} {o n : Nat} {r : List V}, V.lts m l = true -> V.part l o n = some r -> V.lts m r = true
 | [],o,n,r,_,h=>by
   unfold V.part at h
   by_cases hn:n=0
   ·rw [if_pos hn] at h; cases h; simp [V.lts]
   ·rw [if_neg hn] at h; cases h
 | y :: l, o, n, r, hl, h => by
   simp only [V.lts,bq] at hl
   rw [V.part_cons] at h
   split at h
   ·rename_i k q f
    split at h
    ·cases h; simp [V.lts]
    ·split at h
     ·exact V.part_lt hl.2 h
     ·split at h
      ·split at h
       ·cases hr:V.part l 0 (n - q) with
        | none=>rw [hr] at h; cases h
        | some r'=>rw [hr] at h; cases h; simp only [V.lts,bq]; exact ⟨hl.1,V.part_lt hl.2 hr⟩
       ·cases h; simp [V.lts,V.lt]
      ·split at h
       ·cases h; simp [V.lts,V.lt]
       ·cases h
   ·split at h
    ·cases h; simp [V.lts]
    ·split at h
     ·cases hr:V.part l 0 (n - 1) with
      | none=>rw [hr] at h; cases h
      | some r'=>rw [hr] at h; cases h; simp only [V.lts,bq]; exact ⟨hl.1,V.part_lt hl.2 hr⟩
     ·exact V.part_lt hl.2 h
theorem Ya {m:Nat->Bool} {r:List V} (h:V.lts m r=true):V.lt m (A2e r)=true:=by
 unfold A2e; split
 ·simp [V.lt]
 ·simpa [V.lt] using h
theorem Yb (r:List V):(A2e r).nz=true:=by unfold A2e; split <;> rfl
def Abk (P : Program) (H : List B) (t : TypeId) (x : V) (I : List It) : Option (V × List It × List Ob) :=
 match x with
 | .pt g o=>match (H[g]?).bind Py with
   | some l=>match Kl P t with
     | some n=>(V.part l o n).map fun r=>(A2e r,I,[])
     | none=>bif Ms P t then (V.look l o).map fun y=>(y,I,[]) else none
   | none=>none
 | .ps g o i=>match (H[g]?).bind Py,I with
   | some l,.lt :: I=>match V.seg l o with
     | some (k,n,f)=>bif Ms P t then some (.v (.int k (f i)),I,[.lt i n]) else none
     | none=>none
   | _,_=>none
 | .pe g i s o=>match (H[g]?).map B.bare,I with
   | some (.row e l),.el cs :: I=>bif Nat.beq s e.sz then
    match Kl P t with
    | some n=>(V.part cs o n).map fun r=>(A2e r,I,[.el (.row e l) i])
    | none=>bif Ms P t then (V.look cs o).map fun y=>(y,I,[.el (.row e l) i]) else none
    else none
   | some (.row e l),.ld y :: I=>match Kl P t with
     | some n=>some (y,I,[.ld (.row e l) (i * s + o) n])
     | none=>none
   | _,_=>none
 | _=>none
def B.isRo:B->Bool
 | .ro _=>true
 | _=>false
def B.isFree:B->Bool
 | .free=>true
 | .ro b=>b.isFree
 | _=>false
structure Sp (P:Program) (f:FuncId) (args:List V) (pre:List B) (res:V) (post:List B):Prop where
 cl:pre.all (B.lt (liv pre))=true/\V.lts (liv pre) args=true
 ln:pre.length<=post.length
 fr:(pre.all fun b=>!b.isFree)=true/\(post.all fun b=>!b.isFree)=true
 rs:V.lt (liv post) res=true/\res.nz=true
 ro:∀ (i:Nat) b,post[i]?=some b->b.isRo=true->∃ b',pre[i]?=some b'/\b'.isRo=true
 out:∀ (ρ:Env) (M:List Nat) (w:World),Emb ⟨pre.length,Gc pre,ρ,M,w⟩ ρ pre w ->
  Calls P f (V.dens ρ args).toArray w fun e w'=>∃ ρ',e=.returned (V.den ρ' res)/\Emb ⟨pre.length,Gc pre,ρ,M,w⟩ ρ' post w'
def sg0 (σ:List Vw):Nat->Vw:=fun g=>(σ[g]?).getD .nil
def sgm (σ:List Vw) (k b:Nat) (g:Nat):Vw:=bif Nat.blt g k then sg0 σ g else .id (b + (g - k))
inductive IsL {α:Type} (e:Enc α):List V ⊕ B->List α->Prop where
 | row {l:List α}:IsL e (.inr (.row e l)) l
 | flat (cs:List V) (l:List α) (h:V.flat ρN cs=e.cs l) (hc:V.lts L0 cs=true:=by rfl) (hw:V.wf cs=true:=by rfl):IsL e (.inl cs) l
def Atl:B->Fd
 | .ro (.row e l)=>.v (e.cs l) l.length
 | _=>.no
def sgA (σ:List (Nat × Vw)) (g:Nat):Vw :=
 match σ with
 | []=>.id g
 | (i,v) :: σ=>bif Nat.beq i g then v else sgA σ g
def A3u (σ:List (Nat × Vw)) (T:List (Nat × V)):List V:=T.map fun p=>V.rn (sgA σ) p.2
def Apx (σ:List (Nat × Vw)) (p:Nat × B):Fd:=match sgA σ p.1 with | .id _=>.b (p.2.rn (sgA σ)) | _=>.no
def A1i (σ:List (Nat × Vw)) (W:List (Nat × B)):List Fd:=W.map (Apx σ)
def B.isAny:B->Bool
 | .ro .gone=>true
 | _=>false
def want (σ:List Vw):List B->Nat->List Fd
 | [],_=>[]
 | b :: bs,i=>(bif b.isAny then .no else match sg0 σ i with | .id _=>.b (b.bare.rn (sg0 σ)) | .sg _ _ _ _ | .ss _ _ _ _=>Atl b | .nil=>.no) :: want σ bs (i + 1)
def B.isNil:B->Bool
 | .row _ [] | .ro (.row _ [])=>true
 | _=>false
def B.isView (s:Nat):B->Bool
 | .ro (.row e _)=>Nat.beq e.sz s
 | _=>false
def Ao5 (σ:List Vw):List B->Nat->Bool
 | [],_=>true
 | b :: bs,i=>(match sg0 σ i with | .id _=>true | .nil=>b.isNil && b.isRo | .sg _ _ s _=>b.isView s | .ss _ _ s _=>b.isView s && Nat.blt 0 s) && Ao5 σ bs (i + 1)
def upM (F:Int->V) (j:Int) (v:V):Int->V:=fun i=>if i=j then v else F i
inductive Good (P:Program):List It->List Ob->Prop where
 | nil:Good P [] []
 | t {c b:Bool} {I O} (h:c=b) (g:Good P I O):Good P (.t b :: I) (.t c :: O)
 | e (d:Nat) {x y:Value} {I O} (h:x=y) (g:Good P I O):Good P (.e d y :: I) (.e x :: O)
 | p (d:Nat) {s:Sem Next} {x:V} {I O} (h:∀ w,s.run P w=.ok (.value (V.den ρN x)) w) (g:Good P I O) (hx:V.lt L0 x=true:=by rfl) (hz:x.nz=true:=by rfl):Good P (.p d x :: I) (.p s :: O)
 | ix {n:Int} {m i:Nat} {I O} (h:i < m) (g:Good P I O) (e:n=((i:Nat):Int):=by rfl):Good P (.ix i :: I) (.ix n m :: O)
 | lt {i n:Nat} {I O} (h:i < n) (g:Good P I O):Good P (.lt :: I) (.lt i n :: O)
 | el {α:Type} {e:Enc α} {l:List α} {i:Nat} {a:α} {I O} (h:l[i]?=some a) (g:Good P I O):Good P (.el (e.s a) :: I) (.el (.row e l) i :: O)
 | ld {α:Type} {e:Enc α} {l:List α} {o n:Nat} {x:V} {I O} (h:((e.cs l).drop o).take n=(V.den ρN x).cells.toList) (hn:(V.den ρN x).cells.toList.length=n) (ha:V.den ρN x=.agg (V.den ρN x).cells) (g:Good P I O)
     (hx:V.lt L0 x=true:=by rfl) (hz:x.nz=true:=by rfl):Good P (.ld x :: I) (.ld (.row e l) o n :: O)
 | sw {α:Type} {e:Enc α} {l:List α} {i:Nat} {a:α} {I O} (h:i < l.length) (g:Good P I O):Good P (.sw (.row e (l.set i a)) :: I) (.sw (.row e l) i (e.s a) :: O)
 | ap {α:Type} {e:Enc α} {l l':List α} {d s:List V ⊕ B} {I O} (hd:IsL e d l) (hs:IsL e s l') (h:l.length + l'.length<=2147483648) (g:Good P I O):Good P (.ap (.row e (l ++ l')) :: I) (.ap d s e.ty e.sz :: O)
 | mk {α:Type} {e:Enc α} {a:α} {n:Nat} {I O} (h:n<=2147483648) (g:Good P I O):Good P (.mk (.row e (List.replicate n a)) :: I) (.mk ((n:Nat):Int) (e.c a) e.ty e.sz :: O)
 | sl {lo hi:Int} {i n m:Nat} {I O} (h:i + n<=m) (g:Good P I O) (h1:lo=((i:Nat):Int):=by rfl) (h2:hi=((i + n:Nat):Int):=by rfl):Good P (.sl i n :: I) (.sl lo hi m :: O)
 | bs (d:Nat) {α:Type} {e:Enc α} (l:List α) {I O} (g:Good P I O):Good P (.bs d (.row e l) :: I) (.bs (l.flatMap e.s) e.ty e.sz :: O)
 | cp {α:Type} {e:Enc α} {xs:List α} {src:List V ⊕ B} {l l':List V} {o n sz k:Nat} {I O} (hs:IsL e src xs) (h:xs.length<=n) (hf:V.flat ρN l'=(V.flat ρN l).take o ++ e.cs xs ++ (V.flat ρN l).drop (o + xs.length * e.sz)) (g:Good P I O) (hk:k=xs.length:=by rfl) (hz:e.sz=sz:=by rfl) (hw:V.wf l'=true:=by rfl) (hl:V.lts L0 l'=true:=by rfl):Good P (.cp l' k :: I) (.cp l o n sz src :: O)
 | mu {F F':Int->V} {j:Int} {v:V} {I O} (h:∀ i,F' i=upM F j v i) (g:Good P I O):Good P (.mu F' :: I) (.mu F j v :: O)
 | lu (k:Nat) {I O} (g:Good P I O):Good P (.lu k :: I) (.lu :: O)
 | fz (F:List Nat) {I O} (g:Good P I O):Good P (.fz F :: I) (.fz :: O)
 | c (σ:List Vw) {f:FuncId} {args:List V} {pre:List B} {res:V} {post:List B} {I O} (h:Sp P f args pre res post) (g:Good P I O):Good P (.c σ args pre res post :: I) (.c f (V.rns (sg0 σ) args) (want σ pre 0) :: O)
 | cw (σ:List Vw) {f:FuncId} {args:List V} {pre:List B} {res:V} {post:List B} {I O} (h:Sp P f args pre res post) (fs:List Fd) (e:fs=want σ pre 0) (g:Good P I O):Good P (.c σ args pre res post :: I) (.c f (V.rns (sg0 σ) args) fs :: O)
 | lp (N n:Nat) (σ0 σ1:List (Nat × Vw)) (Tx:Nat->List (Nat × V)) (Wx:Nat->List (Nat × B)) {Is:Nat->List It} {Os:Nat->List Ob} {I O} (h:∀ i,i < N->Good P (Is i) (Os i)) (g:Good P I O) :
     Good P (.lp N n σ0 σ1 Tx Wx Is :: I) (.lp true (A3u σ0 (Tx 0)) (A1i σ0 (Wx 0)) (fun i=>.pj true (A3u σ1 (Tx (i + 1))) (A1i σ1 (Wx (i + 1))) :: Os i) :: O)
 | cs (k:Nat) (q:Bool) (n:Nat) (σ0 σ1:List (Nat × Vw)) (Tj:Bool->List (Nat × V)) (Wj:Bool->List (Nat × B)) {Ia Ib:List It} {Oa Oc:List Ob} {I O} (ha:q=true->Good P Ia Oa) (hb:q=false->Good P Ib Oc) (g:Good P I O) :
     Good P (.cs k q n σ0 σ1 Tj Wj Ia Ib :: I) (.cs (.pj true (A3u σ0 (Tj true)) (A1i σ0 (Wj true)) :: Oa) (.pj true (A3u σ1 (Tj false)) (A1i σ1 (Wj false)) :: Oc) :: O)
section
variable {X:Ctx} {ρ:Env} {H:List B} {w:World} {P:Program}
theorem bindSome.{u,v} {α:Type u} {β:Type v} {x:Option α} {f:α->Option β} {y:β} (h:x.bind f=some y):∃ a,x=some a/\f a=some y:=by
 cases x with
 | none=>cases h
 | some a=>exact ⟨a,rfl,h⟩
theorem Emb.cellAt (h:Emb X ρ H w) {g:Nat} {l:List V} (hb:(H[g]?).bind Py=some l) {j:Nat} {v:Value} (hj:(V.flat ρ l)[j]?=some v):w.cell? ((ρ g).adr j)=some v:=by
 obtain ⟨b,hg,hb⟩:=bindSome hb
 obtain ⟨h1,h2,ty,h3⟩:=h.blk hg hb
 unfold Loc.adr
 rw [h1,Nat.zero_add]
 exact Akb h3 (by simpa using hj)
theorem Emb.wfAt (h:Emb X ρ H w) {g:Nat} {l:List V} (hb:(H[g]?).bind Py=some l):V.wf l=true/\V.lts (liv H) l=true:=by
 obtain ⟨b,hg,hb⟩:=bindSome hb
 refine ⟨(h.blk hg hb).2.1,?_⟩
 have:=h.cl g b hg
 cases b with
 | blk l' ty=>cases hb; exact this
 | ro b=>cases b with
   | blk l' ty=>cases hb; exact this
   | _=>cases hb
 | _=>cases hb
theorem mapSome.{u,v} {α:Type u} {β:Type v} {x:Option α} {f:α->β} {y:β} (h:x.map f=some y):∃ a,x=some a/\f a=y:=by
 cases x with
 | none=>cases h
 | some a=>exact ⟨a,rfl,Option.some.inj h⟩
theorem Aeq (h : Emb X ρ H w) {t : TypeId} {x y : V} {I I' : List It} {os O : List Ob} (he : Abk P H t x I = some (y, I', os)) (hg : Good P I (os ++ O)) :
   ((Instr.loadAt t (V.den ρ x)) >>= fun v=>pure (Next.value v)).run P w=.ok (.value (V.den ρ y)) w/\Good P I' O/\V.lt (liv H) y=true/\y.nz=true:=by
 unfold Abk at he
 split at he
 ·-- a block
  rename_i g o
  split at he
  ·rename_i l hb
   obtain ⟨hw,hl⟩:=h.wfAt hb
   split at he
   ·rename_i n hn
    obtain ⟨r,hr,e⟩:=mapSome he
    cases e
    obtain ⟨r1,r2,r3⟩:=V.part_ok (ρ:=ρ) hw hr
    refine ⟨?_,hg,Ya (V.part_lt hl hr),Yb r⟩
    rw [V.den,Uj]
    refine R8 hn r3 fun j v hj=>?_
    have:(V.flat ρ l)[o + j]?=some v:=by
     rw [r2,List.getElem?_take] at hj
     split at hj
     ·rwa [List.getElem?_drop] at hj
     ·cases hj
    have:=h.cellAt hb this
    unfold Loc.adr at this
    rwa [← Nat.add_assoc] at this
   ·cases h1:Ms P t with
    | false=>rw [h1] at he; cases he
    | true =>
      rw [h1] at he
      obtain ⟨r,hr,e⟩:=mapSome he
      cases e
      refine ⟨?_,hg,V.look_lt hl hr,V.look_nz (ρ:=ρ) hw hr⟩
      rw [V.den]
      exact R7 h1 (h.cellAt hb (V.look_ok hw hr))
  ·cases he
 ·-- an element of an array
  rename_i g o i
  split at he
  ·rename_i l I'' hb
   obtain ⟨hw,hl⟩:=h.wfAt hb
   split at he
   ·rename_i k n f hs
    cases h1:Ms P t with
    | false=>rw [h1] at he; cases he
    | true =>
      rw [h1] at he
      cases he
      cases hg with
      | lt hi hg =>
        refine ⟨?_,hg,by simp [V.lt],rfl⟩
        rw [V.den,V.den]
        exact R7 h1 (h.cellAt hb (V.seg_ok hw hs i hi))
   ·cases he
  ·cases he
 ·-- an element of a row
  rename_i g i s o
  split at he
  ·rename_i α e l cs I'' hb
   obtain ⟨b,hg',hb⟩:=mapSome hb
   obtain ⟨h1,h2,h3,h4⟩:=h.row hg' hb
   cases hs:Nat.beq s e.sz with
   | false=>rw [hs] at he; cases he
   | true =>
     rw [hs] at he
     simp only [cond_true] at he
     have hs':=Nat.eq_of_beq_eq_true hs
     have key:∀ {a:α},l[i]?=some a->∀ (j:Nat) v,(e.c a)[j]?=some v->w.cell? ((ρ g).adr (i * s + j))=some v:=fun ha j v hj=>by
      have:=h4 _ _ (e.at ha j hj)
      rw [hs']
      exact this
     split at he
     ·rename_i n hn
      obtain ⟨r,hr,e'⟩:=mapSome he
      cases e'
      cases hg with
      | el ha hg =>
        rename_i a
        replace ha:l[i]?=some a:=ha
        obtain ⟨r1,r2,r3⟩:=V.part_ok (ρ:=ρ) (e.wf a) hr
        refine ⟨?_,hg,Ya (V.lts_mono Sh _ (V.part_lt (e.ok a).2.2 hr)),Yb r⟩
        rw [V.den,Uj]
        refine R8 hn r3 fun j v hj=>?_
        rw [r2,List.getElem?_take] at hj
        split at hj
        ·rw [List.getElem?_drop,e.flat] at hj
         have:=key ha (o + j) v hj
         unfold Loc.adr at this
         rw [← Nat.add_assoc,← Nat.add_assoc,Nat.add_assoc (ρ g).o] at this
         exact this
        ·cases hj
     ·cases h5:Ms P t with
      | false=>rw [h5] at he; cases he
      | true =>
        rw [h5] at he
        obtain ⟨r,hr,e'⟩:=mapSome he
        cases e'
        cases hg with
        | el ha hg =>
          rename_i a
          refine ⟨?_,hg,V.lt_mono Sh _ (V.look_lt (e.ok a).2.2 hr),V.look_nz (ρ:=ρ) (e.wf a) hr⟩
          rw [V.den]
          have:=V.look_ok (ρ:=ρ) (e.wf a) hr
          rw [e.flat] at this
          exact R7 h5 (key ha o _ this)
  ·rename_i α e l y' I'' hb
   obtain ⟨b,hg',hb⟩:=mapSome hb
   obtain ⟨h1,h2,h3,h4⟩:=h.row hg' hb
   split at he
   ·rename_i n hn
    cases he
    cases hg with
    | ld ha hn' hag hg hx hz =>
      refine ⟨?_,hg,V.lt_mono Sh _ hx,hz⟩
      rw [V.den,V.den_ext (n:=L0) (ρ:=ρN) (fun i hi=>by cases hi) _ hx,hag]
      rw [show (Value.agg (V.den ρN y).cells)=.agg (V.den ρN y).cells.toList.toArray by simp]
      refine R8 hn hn' fun j v hj=>?_
      rw [← ha,List.getElem?_take] at hj
      split at hj
      ·rw [List.getElem?_drop] at hj
       have:=h4 _ _ hj
       rwa [← Nat.add_assoc] at this
      ·cases hj
   ·cases he
  ·cases he
 ·cases he
end
theorem Good.y {P:Program} {I O} (g:Good P I O):Good P (.t true :: I) (.t true :: O):=.t rfl g
theorem Good.n {P:Program} {I O} (g:Good P I O):Good P (.t false :: I) (.t false :: O):=.t rfl g
theorem Good.g {P:Program} {c b:Bool} {I O} (h:c=b) (g:Good P I O):Good P (.t (!b) :: I) (.t (!c) :: O):=.t (congrArg (!·) h) g
theorem Good.y2 {P:Program} {I O} (g:Good P I O):Good P (.t true :: .t true :: I) (.t true :: .t true :: O):=g.y.y
theorem Good.y4 {P:Program} {I O} (g:Good P I O):Good P (.t true :: .t true :: .t true :: .t true :: I) (.t true :: .t true :: .t true :: .t true :: O):=g.y2.y2
theorem Good.n2 {P:Program} {I O} (g:Good P I O):Good P (.t false :: .t false :: I) (.t false :: .t false :: O):=g.n.n
theorem Good.n4 {P:Program} {I O} (g:Good P I O):Good P (.t false :: .t false :: .t false :: .t false :: I) (.t false :: .t false :: .t false :: .t false :: O):=g.n2.n2
theorem Good.n8 {P:Program} {I O} (g:Good P I O):Good P (.t false :: .t false :: .t false :: .t false :: .t false :: .t false :: .t false :: .t false :: I) (.t false :: .t false :: .t false :: .t false :: .t false :: .t false :: .t false :: .t false :: O):=g.n4.n4
theorem Good.t2 {P:Program} {c b:Bool} {I O} (h:c=b) (g:Good P I O):Good P (.t b :: .t b :: I) (.t c :: .t c :: O):=.t h (.t h g)
theorem Good.t4 {P:Program} {c b:Bool} {I O} (h:c=b) (g:Good P I O):Good P (.t b :: .t b :: .t b :: .t b :: I) (.t c :: .t c :: .t c :: .t c :: O):=.t2 h (.t2 h g)
theorem Good.g2 {P:Program} {c b:Bool} {I O} (h:c=b) (g:Good P I O):Good P (.t (!b) :: .t (!b) :: I) (.t (!c) :: .t (!c) :: O):=.g h (.g h g)
theorem Good.g4 {P:Program} {c b:Bool} {I O} (h:c=b) (g:Good P I O):Good P (.t (!b) :: .t (!b) :: .t (!b) :: .t (!b) :: I) (.t (!c) :: .t (!c) :: .t (!c) :: .t (!c) :: O):=.g2 h (.g2 h g)
theorem bA (b:Bool):(true && b)=b:=Bool.true_and b
theorem bB (b:Bool):(b && true)=b:=Bool.and_true b
theorem bC (b:Bool):(false && b)=false:=Bool.false_and b
theorem bD (b:Bool):(b && false)=false:=Bool.and_false b
theorem bE {α:Type} (a b:α):cond true a b=a:=rfl
theorem bF {α:Type} (a b:α):cond false a b=b:=rfl
theorem bG:(!true)=false:=rfl
theorem bH:(!false)=true:=rfl
theorem bft (b:Bool):b=true ∨ b=false:=Bool.eq_false_or_eq_true b
