import Derived.Test.YtfhiggfmkjmeiaaGreatFSpr
import Derived.Test.YtfhiggfmkjmeiaaGreatFRun
set_option linter.all false
namespace Go.Proofs.YtfhiggfmkjmeiaaGreat
open Go Go.RowKit
theorem H6 {α:Type} {p:α->Prop} {c:Bool} {a b:α} (ha:p a) (hb:p b):p (bif c then a else b):=by cases c <;> assumption
structure DExt (a b:DevS):Prop where
 l:∃ x,b.l=a.l ++ x
 m:b.d.mode=a.d.mode
 g:b.d.g=a.d.g
theorem DExt.refl (a:DevS):DExt a a:=⟨⟨[],(List.append_nil _).symm⟩,rfl,rfl⟩
theorem DExt.trans {a b c:DevS} (h:DExt a b) (k:DExt b c):DExt a c:=by
 obtain ⟨x,hx⟩:=h.l
 obtain ⟨y,hy⟩:=k.l
 exact ⟨⟨x ++ y,by rw [hy,hx,List.append_assoc]⟩,k.m.trans h.m,k.g.trans h.g⟩
theorem Xw (s:DramS) (i:Int):(Eg s i).mode=s.mode/\(Eg s i).g=s.g:=by unfold Eg; exact H6 (p:=fun t:DramS=>t.mode=s.mode/\t.g=s.g) ⟨rfl,rfl⟩ ⟨rfl,rfl⟩
theorem O0 (s:DramS) (i:Int) (r:Nat->Nat):(E9 s i r).mode=s.mode/\(E9 s i r).g=s.g:=by
 unfold E9
 exact H6 (p:=fun t:DramS=>t.mode=s.mode/\t.g=s.g) (H6 (p:=fun t:DramS=>t.mode=s.mode/\t.g=s.g) (Xw s i) (Xw s i)) ⟨rfl,rfl⟩
theorem Li (s:DramS) (i:Int):(Bz s i).mode=s.mode/\(Bz s i).g=s.g:=by
 unfold Bz
 exact H6 (p:=fun t:DramS=>t.mode=s.mode/\t.g=s.g) (Xw s i) ⟨rfl,rfl⟩
theorem Vq (s:DramS) (f:Flt):(Dj s f).mode=s.mode/\(Dj s f).g=s.g:=by
 have b:=fun {c:Bool} {x y:DramS} (h:x.mode=s.mode/\x.g=s.g) (k:y.mode=s.mode/\y.g=s.g)=>H6 (p:=fun t:DramS=>t.mode=s.mode/\t.g=s.g) (c:=c) h k
 unfold Dj Hq
 exact b (b ⟨rfl,rfl⟩ (b (b ⟨rfl,rfl⟩ ⟨rfl,rfl⟩) (b ⟨rfl,rfl⟩ ⟨rfl,rfl⟩))) ⟨rfl,rfl⟩
theorem Aqd (s:DevS) (i:Int) (r:Nat->Nat) (m:Int):DExt s (Df s i r m):=by
 unfold Df
 exact H6 ⟨⟨_,rfl⟩,(O0 s.d i r).1,(O0 s.d i r).2⟩ ⟨⟨[],(List.append_nil _).symm⟩,(O0 s.d i r).1,(O0 s.d i r).2⟩
theorem Au1 (s:DevS) (i:Int):DExt s (F8 s i):=by
 unfold F8
 exact H6 (H6 ⟨⟨_,rfl⟩,(Li s.d i).1,(Li s.d i).2⟩ ⟨⟨_,rfl⟩,(Li s.d i).1,(Li s.d i).2⟩) ⟨⟨[],(List.append_nil _).symm⟩,(Li s.d i).1,(Li s.d i).2⟩
theorem Sa (s:DevS) (f:Flt):DExt s (Ig s f):=⟨⟨[],(List.append_nil _).symm⟩,(Vq s.d f).1,(Vq s.d f).2⟩
theorem Q7 (s:CtlS) (i:Int) (l:Nat->Nat) (b:Bool):DExt s.d (As s i l b).d:=by
 unfold As
 exact H6 (p:=fun t:CtlS=>DExt s.d t.d) (Aqd _ _ _ _) (Aqd _ _ _ _)
theorem Rp (s:CtlS) (i h r:Int):DExt s.d (Aw s i h r).d:=Au1 s.d i
theorem Tr (s:CtlS) (i:Int) (b:Bool):DExt s.d (An s i b).d:=by
 unfold An
 have b1:=fun {c:Bool} {x y:CtlS} (h:DExt s.d x.d) (k:DExt s.d y.d)=>H6 (p:=fun t:CtlS=>DExt s.d t.d) (c:=c) h k
 exact b1 (b1 (b1 ((Rp _ _ _ _).trans (Q7 _ _ _ _)) (Rp _ _ _ _)) (Rp _ _ _ _)) (.refl _)
theorem Nx (s:CtlS) (i:Int) (l:List Nat) (m:Nat):DExt s.d (Ah s i l m).d:=by
 unfold Ah
 have b1:=fun {c:Bool} {x y:CtlS} (h:DExt s.d x.d) (k:DExt s.d y.d)=>H6 (p:=fun t:CtlS=>DExt s.d t.d) (c:=c) h k
 exact b1 (b1 (.refl _) (b1 (Q7 _ _ _ _) (b1 ((Rp _ _ _ _).trans (Q7 _ _ _ _)) ((Rp _ _ _ _).trans (Q7 _ _ _ _))))) (.refl _)
theorem To (s:CtlS) (i:Int) (l:List Nat):DExt s.d (Hn s i l).d:=Nx _ _ _ _
theorem A7f (s:CtlS):DExt s.d (D8 s).d:=by
 have h:=Tr { s with cur:=(IntKind.i64.wrap (s.cur + 1)).tmod (IntKind.i64.wrap ((A0 s.le.c.ly) * s.le.c.ly.g.cols)) } s.cur true
 exact h
theorem Ar6 (s:CtlS):DExt s.d (Gf s).d:=by
 unfold Gf
 exact H6 (p:=fun t:CtlS=>DExt s.d t.d) ((Rp _ _ _ _).trans (Q7 _ _ _ _)) (Q7 _ _ _ _)
theorem Adx (s:CtlS):DExt s.d (Db s).d:=by
 unfold Db
 exact H6 (p:=fun t:CtlS=>DExt s.d t.d) (Ar6 s) (.refl _)
theorem Ady (s:CtlS):DExt s.d (Dl s).d:=by
 unfold Dl
 exact H6 (p:=fun t:CtlS=>DExt s.d t.d) (.refl _) (.refl _)
structure MExt (s t:MchS):Prop where
 d:DExt s.c.d t.c.d
 inj:∃ y,t.inj=s.inj ++ y
 srv:∃ z,t.srv=s.srv ++ z
theorem Ii {α:Type} (l:List α):∃ x,l=l ++ x:=⟨[],(List.append_nil _).symm⟩
theorem MExt.refl (a:MchS):MExt a a:=⟨.refl _,Ii _,Ii _⟩
theorem Aey {α:Type} {a b c:List α} (h:∃ x,b=a ++ x) (k:∃ x,c=b ++ x):∃ x,c=a ++ x:=by
 obtain ⟨x,rfl⟩:=h
 obtain ⟨y,rfl⟩:=k
 exact ⟨x ++ y,List.append_assoc _ _ _⟩
theorem MExt.trans {a b c:MchS} (h:MExt a b) (k:MExt b c):MExt a c:=⟨h.d.trans k.d,Aey h.inj k.inj,Aey h.srv k.srv⟩
theorem Aio (s:MchS) (f:Flt):MExt s (Bn s f):=by
 unfold Bn
 exact H6 ⟨Sa _ _,⟨_,rfl⟩,Ii _⟩ ⟨Sa _ _,Ii _,Ii _⟩
theorem Acj (s:MchS) (x:Stp):MExt s (Az s x):=by
 unfold Az
 exact H6 (H6 ⟨Tr _ _ _,Ii _,Ii _⟩ ⟨Tr _ _ _,Ii _,⟨_,rfl⟩⟩) (H6 (H6 ⟨To _ _ _,Ii _,Ii _⟩ ⟨To _ _ _,Ii _,⟨_,rfl⟩⟩) (H6 ⟨Nx _ _ _ _,Ii _,Ii _⟩ ⟨Nx _ _ _ _,Ii _,⟨_,rfl⟩⟩))
theorem Anm (s:MchS) (x:Stp):MExt s (Al s x):=by
 have hi:MExt s (Bn { s with steps:=IntKind.i64.wrap (s.steps + 1) } x.f):=by
  have h:=Aio { s with steps:=IntKind.i64.wrap (s.steps + 1) } x.f
  exact ⟨h.d,h.inj,h.srv⟩
 have hr:MExt s (Az { s with steps:=IntKind.i64.wrap (s.steps + 1) } x):=by
  have h:=Acj { s with steps:=IntKind.i64.wrap (s.steps + 1) } x
  exact ⟨h.d,h.inj,h.srv⟩
 unfold Al
 exact H6 (H6 ⟨A7f _,Ii _,Ii _⟩ (H6 ⟨Adx _,Ii _,Ii _⟩ (H6 ⟨Ady _,Ii _,Ii _⟩ (H6 ⟨.refl _,Ii _,Ii _⟩ (H6 hi hr))))) (.refl _)
theorem Ag5 (s:MchS) (l:List Stp) (i:Nat):∀ k,MExt (mrS s l i) (mrS s l (i + k))
 | 0=>.refl _
 | k + 1=>(Ag5 s l i k).trans (Anm _ _)
theorem DExt.len {a b:DevS} (h:DExt a b):a.l.length<=b.l.length:=by
 obtain ⟨x,hx⟩:=h.l
 rw [hx,List.length_append]; omega
def SrvIn (s:MchS):Prop:=∀ x ∈ s.srv,0<=x.first/\x.first<=x.last/\x.last<=((s.c.d.l.length:Nat):Int)/\x.step.mask < 18446744073709551616
theorem SrvIn.ext {s t:MchS} (h:SrvIn s) (e:t.srv=s.srv) (d:DExt s.c.d t.c.d):SrvIn t:=fun x hx=>by
 rw [e] at hx
 obtain ⟨h1,h2,h3,h4⟩:=h x hx
 have:=d.len
 exact ⟨h1,h2,by omega,h4⟩
theorem SrvIn.add {s t:MchS} {y:Srv} (h:SrvIn s) (e:t.srv=s.srv ++ [y]) (d:DExt s.c.d t.c.d) (h1:y.first=((s.c.d.l.length:Nat):Int)) (h2:y.last=((t.c.d.l.length:Nat):Int)) (h3:y.step.mask < 18446744073709551616):SrvIn t:=fun x hx=>by
 have hd:=d.len
 rw [e] at hx
 rcases List.mem_append.1 hx with hx | hx
 ·obtain ⟨k1,k2,k3,k4⟩:=h x hx
  exact ⟨k1,k2,by omega,k4⟩
 ·rcases List.mem_singleton.1 hx with rfl
  exact ⟨by omega,by omega,by omega,h3⟩
theorem A5z {s:MchS} {x:Stp} (h:SrvIn s) (hx:StpOk x):SrvIn (Az s x):=by
 unfold Az
 exact H6 (H6 (h.ext rfl (Tr _ _ _)) (h.add rfl (Tr _ _ _) rfl rfl hx.m)) (H6 (H6 (h.ext rfl (To _ _ _)) (h.add rfl (To _ _ _) rfl rfl hx.m)) (H6 (h.ext rfl (Nx _ _ _ _)) (h.add rfl (Nx _ _ _ _) rfl rfl hx.m)))
theorem Asv {s:MchS} {x:Stp} (h:SrvIn s) (hx:StpOk x):SrvIn (Al s x):=by
 unfold Al
 have hi:SrvIn (Bn { s with steps:=IntKind.i64.wrap (s.steps + 1) } x.f):=by
  unfold Bn
  exact H6 (h.ext rfl (Sa _ _)) (h.ext rfl (Sa _ _))
 have hr:SrvIn (Az { s with steps:=IntKind.i64.wrap (s.steps + 1) } x):=A5z (s:={ s with steps:=IntKind.i64.wrap (s.steps + 1) }) h hx
 exact H6 (H6 (h.ext rfl (A7f _)) (H6 (h.ext rfl (Adx _)) (H6 (h.ext rfl (Ady _)) (H6 (h.ext rfl (.refl _)) (H6 hi hr))))) h
theorem Ag4 {s:MchS} {l:List Stp} (h:SrvIn s) (hl:∀ x ∈ l,StpOk x):∀ i,i<=l.length->SrvIn (mrS s l i)
 | 0,_=>h
 | i + 1,hi=>Asv (Ag4 h hl i (Nat.le_of_succ_le hi)) (Tb hl hi)
theorem Aip (c:Cfg):SrvIn (Ac c):=fun x hx=>by cases hx
theorem SrvIn.ms {s:MchS} (h:SrvIn s) (i:Nat):(s.srv.getD i Aj).step.mask < 18446744073709551616:=by
 rcases Nat.lt_or_ge i s.srv.length with hi | hi
 ·exact (h _ (gDm Aj hi)).2.2.2
 ·rw [List.getD_eq_getElem?_getD,List.getElem?_eq_none hi]; decide
theorem Ab4 (c:Cfg):DExt (Mh c).d (Lh c).d:=by
 have h1:∀ s r b w k,DExt s.d (nwC s r b w k).d:=fun s r b w k=>by induction k with | zero=>exact .refl _ | succ k ih=>exact ih.trans (Q7 _ _ _ _)
 have h2:∀ s r b C w,DExt s.d (nwW s r b C w).d:=fun s r b C w=>by induction w with | zero=>exact .refl _ | succ w ih=>exact ih.trans (h1 _ _ _ _ _)
 have h3:∀ s r W C b,DExt s.d (nwB s r W C b).d:=fun s r W C b=>by induction b with | zero=>exact .refl _ | succ b ih=>exact ih.trans (h2 _ _ _ _ _)
 have h4:∀ s B W C r,DExt s.d (nwR s B W C r).d:=fun s B W C r=>by induction r with | zero=>exact .refl _ | succ r ih=>exact ih.trans (h3 _ _ _ _ _)
 exact h4 _ _ _ _ _
