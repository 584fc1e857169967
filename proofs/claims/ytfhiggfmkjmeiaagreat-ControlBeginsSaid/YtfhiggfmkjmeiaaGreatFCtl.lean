import Derived.Test.YtfhiggfmkjmeiaaGreatFInt
import Derived.Test.YtfhiggfmkjmeiaaGreatFDev
import Derived.Test.YtfhiggfmkjmeiaaGreatFLed
set_option linter.all false
namespace Go.Proofs.YtfhiggfmkjmeiaaGreat
open Go Go.RowKit
set_option maxRecDepth 100000
abbrev Bg (b:Nat):List B:=[.blk [.pt (b + 1) 0,.pt (b + 2) 0] 314,hC,.blk [.pt (b + 3) 0,.sl (b + 4)] 368,gF,.row eB gen]
def Bm (m:Int) (l:Nat->Nat) (n:Int) (b:Bool):Nat->Nat:=bif decide (m=1) then (Tw l n b 8) else (Sz l n b 2)
theorem enc (m:Int) (l:Nat->Nat) (n:Int) (b:Bool) (hm:m=1 ∨ m=2) (hl:∀ j,l j < 256):Sp P 191 [.pt 0 0,vi m,.ar .u8 64 (nf l),vi n,vt b] (ros (Bg 0)) (.ar .u8 72 (nf (Bm m l n b))) (ros (Bg 0)):=by
 rcases hm with rfl | rfl
 ·simp only [Bm,show decide ((1:Int)=1)=true from rfl,cond_true]; exact Eq.mp (by kernel_rfl) (Alb l n b hl)
 ·simp only [Bm,show decide ((2:Int)=1)=false from rfl,cond_false]; exact Eq.mp (by kernel_rfl) (Alc l n b hl)
def Ek (m:Int) (r:Nat->Nat) (n:Int):Nat->Nat:=bif decide (m=1) then (dlB r n) else (dlC r n)
def Bt (m:Int) (r:Nat->Nat) (n:Int):Nat:=bif decide (m=1) then (jk (kB r n) (kB r n).length) else (jk (kC r n) (kC r n).length)
def G9 (m:Int) (r:Nat->Nat) (n:Int):Nat:=bif decide (m=1) then (Zx (kB r n)) else (Zx (kC r n))
theorem dec (m:Int) (r:Nat->Nat) (n:Int) (hm:m=1 ∨ m=2) (hr:∀ j,r j < 256):Sp P 198 [.pt 0 0,vi m,.ar .u8 72 (nf r),vi n] (ros (Bg 0)) (.tu [.ar .u8 64 (nf (Ek m r n)),.ag [vn (Bt m r n),vn (G9 m r n)]]) (ros (Bg 0)):=by
 rcases hm with rfl | rfl
 ·simp only [Ek,Bt,G9,show decide ((1:Int)=1)=true from rfl,cond_true]; exact Eq.mp (by kernel_rfl) (Aw6 r n hr)
 ·simp only [Ek,Bt,G9,show decide ((2:Int)=1)=false from rfl,cond_false]; exact Eq.mp (by kernel_rfl) (Aw7 r n hr)
theorem Ala {m:Int} {l:Nat->Nat} {n:Int} {b:Bool} (hl:∀ j,l j < 256) (j:Nat):Bm m l n b j < 256:=by
 unfold Bm
 cases decide (m=1)
 ·exact Ael hl n b 2 j
 ·exact Aej l n b 8 j
theorem Zb {m:Int} {r:Nat->Nat} {n:Int} (hr:∀ j,r j < 256) (j:Nat):Ek m r n j < 256:=by
 have h0:∀ j,(fun _=>0:Nat->Nat) j < 256:=fun _=>(by decide:(0:Nat) < 256)
 have hx:∀ o j,chX (A4 r o 36) n j < 256:=fun o j=>Aoy (Au hr o 36) (Kk n false) j
 unfold Ek dlC dlB dcB dcC
 cases decide (m=1)
 ·simp only [cond_false]
  cases decide (2<=((jk (kC r n) (kC r n).length:Nat):Int))
  ·exact Yg (Yg h0 (hx _) _ _) (hx _) _ _ j
  ·exact h0 j
 ·simp only [cond_true]
  cases decide (2<=((jk (kB r n) (kB r n).length:Nat):Int))
  ·exact Axg (fun k=>Jz (A4 r (9 * k) 9) n) j
  ·exact h0 j
def Uc (l:List Nat):Nat->Nat:=fun j=>l.getD j 0
theorem Lp {l:List Nat} (h:B8 l) (j:Nat):Uc l j < 256:=h j
theorem A04 (l:List Nat) (hl:l.length=64):Sp P 38 [.sl 0] [.ro (.row eB l)] (.tu [.ar .u8 64 (nf (Uc l)),vn 0]) [.ro (.row eB l)] :=
 so Tryz.f38 3 [.id 0] (.t (congrArg (!·) (sQT ((l.length:Int)=64) (by omega))) (.sl (i:=0) (n:=64) (m:=l.length) (by omega) (.ld (ldN hl) (by rw [← ldN hl,List.drop_zero,List.length_take,eB.csLen,hl]; rfl) rfl .nil)))
structure CtlOk (n:Nat) (s:CtlS):Prop where
 le:LedOk s.le
 d:DevOk s.d
 md:s.le.c.mode=1 ∨ s.le.c.mode=2
 nl:s.notes.length<=n
 dl:s.d.l.length<=n
theorem CtlOk.mono {n m:Nat} {s:CtlS} (h:CtlOk n s) (hm:n<=m):CtlOk m s:=⟨h.le,h.d,h.md,Nat.le_trans h.nl hm,Nat.le_trans h.dl hm⟩
theorem An0 (s:LedS) (k:Int) (v:Ev):(H7 s k v).c=s.c:=by
 unfold H7
 simp only [Bool.cond_eq_ite]
 repeat (first | rfl | split)
theorem Rv (s:LedS) (k:Int) (l:List Ev):∀ i,(Gk s k l i).c=s.c
 | 0=>rfl
 | i + 1=>by rw [Gk,An0,Rv s k l i]
theorem X9 (s:LedS) (x:Nt):(B9 s x).c=s.c:=by unfold B9; cases Hw _ _ _ _ <;> first | rfl | exact Rv _ _ _ _
theorem A8w (s:LedS) (x:Nt):(Fz s x).c=s.c:=by unfold Fz; cases Hv _ _ _ _ <;> first | exact X9 s x | exact (Rv _ _ _ _).trans (X9 s x)
theorem Xb (s:LedS) (x:Nt):(Ba s x).c=s.c:=by unfold Ba; cases Hw _ _ _ _ <;> first | rfl | exact Rv _ _ _ _
theorem A8y (s:LedS) (x:Nt):(G0 s x).c=s.c:=by unfold G0; cases Hv _ _ _ _ <;> first | exact Xb s x | exact (Rv _ _ _ _).trans (Xb s x)
theorem An8 (s:LedS) (x:Nt):(Ds s x).c=s.c:=by
 unfold Ds
 simp only [Bool.cond_eq_ite]
 repeat (first | rfl | exact A8w s x | exact A8y s x | split)
theorem O8 (s:LedS) (x:Nt):(C8 s x).c=s.c:=by
 unfold C8
 simp only [Bool.cond_eq_ite]
 repeat (first | rfl | exact An8 s x | exact Rv _ _ _ _ | split)
theorem A36 {s:LedS} {x:Nt} (ok:LedOk s):LedOk (C8 s x):=by
 unfold C8
 simp only [Bool.cond_eq_ite]
 repeat (first | exact ok | exact Aim ok | exact Mp (LedOk.step ok) _ | exact LedOk.clear ok | exact LedOk.tm (s:={ s with trk:=Lo s.trk }) (LedOk.tick ok) | split)
def Dm (s:CtlS) (x:Nt):CtlS:=(⟨(C8 s.le x),s.d,s.cur,s.notes ++ [x]⟩:CtlS)
theorem Ae5 (s:CtlS) (x:Nt) (ok:CtlOk 100000000 s):Sp P 131 [.pt 0 0,.ag [vi x.kind,vi x.vk,vi x.vf,vi x.index,vi x.home,vi x.rank]] (Ct s 0 ++ ros (Bg 24)) (.tu []) (Ct (Dm s x) 0 ++ ros (Bg 24)) :=
 so Tryz.f131 7 (ir 0 23 ++ .id 32 :: ir 24 5) (.ap (e:=eNt) (l:=s.notes) (l':=[x]) .row (.flat [vi x.kind,vi x.vk,vi x.vf,vi x.index,vi x.home,vi x.rank] [x] rfl) (by have:=ok.nl; simp only [List.length_cons,List.length_nil]; omega) (.c (ir 1 14) (Axy s.le x ok.le) .nil))
def As (s:CtlS) (i:Int) (l:Nat->Nat) (b:Bool):CtlS:=bif b then { s with d:=(Df s.d i (Bm s.le.c.mode l i b) 1) } else { s with d:=(Df s.d i (Bm s.le.c.mode l i b) 0) }
theorem Ab2 (s:CtlS) (i:Int) (l:Nat->Nat) (b:Bool) (ok:CtlOk 100000000 s) (hl:∀ j,l j < 256):Sp P 120 [.pt 0 0,vi i,.ar .u8 64 (nf l),vt b] (Ct s 0 ++ ros (Bg 24)) (.tu []) (Ct (As s i l b) 0 ++ ros (Bg 24)):=by
 generalize d0:As s i l b=yd0
 unfold As at d0
 rcases bft b with q1 | q1
 ·rw [A2 q1] at d0
  subst d0
  exact so Tryz.f120 7 (ir 0 29) (.c (ir 24 5) (enc s.le.c.mode l i b ok.md hl) (.t q1 (.c (ir 15 8) (B1f s.d i (Bm s.le.c.mode l i b) ok.d ok.dl) .nil)))
 ·rw [A1 q1] at d0
  subst d0
  exact so Tryz.f120 7 (ir 0 29) (.c (ir 24 5) (enc s.le.c.mode l i b ok.md hl) (.t q1 (.c (ir 15 8) (Az4 s.d i (Bm s.le.c.mode l i b) ok.d ok.dl) .nil)))
theorem Aqc (s:DevS) (i:Int) (r:Nat->Nat) (m:Int):(Df s i r m).l.length<=s.l.length + 1:=by
 unfold Df
 simp only [Bool.cond_eq_ite]
 split
 ·show (s.l ++ [_]).length<=_; rw [List.length_append]; exact Nat.le_refl _
 ·exact Nat.le_succ _
theorem Aji (s:DevS) (i:Int):(F8 s i).l.length<=s.l.length + 1:=by
 unfold F8
 simp only [Bool.cond_eq_ite]
 repeat (first | exact Nat.le_succ _ | (show (s.l ++ [_]).length<=_; rw [List.length_append]; exact Nat.le_refl _) | split)
theorem Ny {n:Nat} {s:CtlS} {x:Nt} (ok:CtlOk n s):CtlOk (n + 1) (Dm s x) :=
 ⟨A36 ok.le,ok.d,by show (C8 s.le x).c.mode=1 ∨ (C8 s.le x).c.mode=2; rw [O8]; exact ok.md,by show (s.notes ++ [x]).length<=n + 1; rw [List.length_append]; have:=ok.nl; show s.notes.length + 1<=n + 1; omega,Nat.le_succ_of_le ok.dl⟩
theorem Oy {n:Nat} {s:CtlS} {i:Int} {l:Nat->Nat} {b:Bool} (ok:CtlOk n s) (hl:∀ j,l j < 256):CtlOk (n + 1) (As s i l b):=by
 have h:=Aqc s.d i (Bm s.le.c.mode l i b)
 have:=ok.dl
 unfold As
 cases b
 ·exact ⟨ok.le,Agx ok.d (Ala hl),ok.md,Nat.le_succ_of_le ok.nl,by show (Df _ _ _ _).l.length<=n + 1; have:=h 0; omega⟩
 ·exact ⟨ok.le,Agx ok.d (Ala hl),ok.md,Nat.le_succ_of_le ok.nl,by show (Df _ _ _ _).l.length<=n + 1; have:=h 1; omega⟩
theorem CtlOk.read {n:Nat} {s:CtlS} {i:Int} (ok:CtlOk n s):CtlOk (n + 1) { s with d:=F8 s.d i } :=
 ⟨ok.le,Aq9 ok.d,ok.md,Nat.le_succ_of_le ok.nl,by have:=Aji s.d i; have:=ok.dl; show (F8 s.d i).l.length<=n + 1; omega⟩
def Aw (s:CtlS) (i:Int) (h:Int) (r:Int):CtlS:=Dm { s with d:=(F8 s.d i) } (⟨1,(((Bt s.le.c.mode (Ab s.d i) i):Nat):Int),(((G9 s.le.c.mode (Ab s.d i) i):Nat):Int),i,h,r⟩:Nt)
theorem A2o (s:CtlS) (i:Int) (h:Int) (r:Int) (ok:CtlOk 99000000 s):Sp P 125 [.pt 0 0,.ag [vi i,vi h,vi r]] (Ct s 0 ++ ros (Bg 24)) (.tu [.ar .u8 64 (nf (Ek s.le.c.mode (Ab s.d i) i)),.ag [vn (Bt s.le.c.mode (Ab s.d i) i),vn (G9 s.le.c.mode (Ab s.d i) i)]]) (Ct (Aw s i h r) 0 ++ ros (Bg 24)) :=
 so Tryz.f125 15 (ir 0 29) (.c (ir 15 8) (B1g s.d i ok.d (Nat.le_trans ok.dl (by decide))) (.c (ir 24 5) (dec s.le.c.mode (Ab s.d i) i ok.md (Iv ok.d)) (.c (ir 0 29) (Ae5 { s with d:=(F8 s.d i) } (⟨1,(((Bt s.le.c.mode (Ab s.d i) i):Nat):Int),(((G9 s.le.c.mode (Ab s.d i) i):Nat):Int),i,h,r⟩:Nt) ((CtlOk.mono (CtlOk.read (s:=s) ok) (by decide)))) .nil)))
theorem Jn {n:Nat} {s:CtlS} {i h r:Int} (ok:CtlOk n s):CtlOk (n + 2) (Aw s i h r):=Ny ok.read
def Iy (k:Int) (f:Int):Nat:=bif decide (k=3) then 40 else (bif decide (k=2) then 41 else 0)
theorem Apw (k:Int) (f:Int) :Sp P 126 [.ag [vi k,vi f]] [] (vn (Iy k f)) []:=by
 generalize d0:Iy k f=yd0
 unfold Iy at d0
 rcases bft (decide (k=3)) with q1 | q1
 ·rw [A2 q1] at d0
  subst d0
  exact so Tryz.f126 3 [] (.t q1 .nil)
 ·rw [A1 q1] at d0
  rcases bft (decide (k=2)) with q2 | q2
  ·rw [A2 q2] at d0
   subst d0
   exact so Tryz.f126 3 [] (.t q1 (.t q2 .nil))
  ·rw [A1 q2] at d0
   subst d0
   exact so Tryz.f126 3 [] (.t q1 (.t q2 .nil))
def Ae (s:CtlS) (i:Int):Int:=bif decide ((Ei s.le.rep.j s.le.rep.m i)=0) then (I9 s.le.rep.j s.le.rep.m i) else 0
def Ey (s:CtlS) (i:Int):Int:=bif decide ((Ei s.le.rep.j s.le.rep.m i)=0) then (Gl s.le.rep.m i) else 0
def Ez (s:CtlS) (i:Int):Int:=bif decide ((Ei s.le.rep.j s.le.rep.m i)=0) then (Da s.le.rep.m i) else 0
def F0 (s:CtlS) (i:Int):Nat:=bif decide ((Ei s.le.rep.j s.le.rep.m i)=0) then 0 else 30
theorem cat (s:CtlS) (i:Int) (ok:CtlOk 100000000 s):Sp P 123 [.pt 0 0,vi i] (ros (Ct s 0) ++ ros (Bg 24)) (.tu [.ag [vi (Ae s i),vi (Ey s i),vi (Ez s i)],vn (F0 s i)]) (ros (Ct s 0) ++ ros (Bg 24)):=by
 generalize d0:Ae s i=yd0
 unfold Ae at d0
 generalize d1:Ey s i=yd1
 unfold Ey at d1
 generalize d2:Ez s i=yd2
 unfold Ez at d2
 generalize d3:F0 s i=yd3
 unfold F0 at d3
 rcases bft (decide ((Ei s.le.rep.j s.le.rep.m i)=0)) with q1 | q1
 ·rw [A2 q1] at d0 d1 d2 d3
  subst d0 d1 d2 d3
  exact so Tryz.f123 3 (ir 0 29) (.c (ir 2 7) (Agg s.le.rep i ok.le.rep) (.g q1 .nil))
 ·rw [A1 q1] at d0 d1 d2 d3
  subst d0 d1 d2 d3
  exact so Tryz.f123 3 (ir 0 29) (.c (ir 2 7) (Agg s.le.rep i ok.le.rep) (.g q1 .nil))
def An (s:CtlS) (i:Int) (b:Bool):CtlS:=bif decide ((((F0 s i):Nat):Int)=0) then (bif decide ((((Bt s.le.c.mode (Ab s.d (Ae s i)) (Ae s i)):Nat):Int)=1) then (bif b then (As (Aw s (Ae s i) (Ey s i) (Ez s i)) (Ae s i) (Ek s.le.c.mode (Ab s.d (Ae s i)) (Ae s i)) false) else (Aw s (Ae s i) (Ey s i) (Ez s i))) else (Aw s (Ae s i) (Ey s i) (Ez s i))) else s
def Cl (s:CtlS) (i:Int) (b:Bool):Nat->Nat:=bif decide ((((F0 s i):Nat):Int)=0) then (Ek s.le.c.mode (Ab s.d (Ae s i)) (Ae s i)) else (fun _=>0)
def Bv (s:CtlS) (i:Int) (b:Bool):Nat:=bif decide ((((F0 s i):Nat):Int)=0) then (Iy (((Bt s.le.c.mode (Ab s.d (Ae s i)) (Ae s i)):Nat):Int) (((G9 s.le.c.mode (Ab s.d (Ae s i)) (Ae s i)):Nat):Int)) else (F0 s i)
theorem Auc (s:CtlS) (i:Int) (b:Bool) (ok:CtlOk 98000000 s):Sp P 110 [.pt 0 0,vi i,vt b] (Ct s 0 ++ ros (Bg 24)) (.tu [.ar .u8 64 (nf (Cl s i b)),vn (Bv s i b)]) (Ct (An s i b) 0 ++ ros (Bg 24)):=by
 generalize d0:An s i b=yd0
 unfold An at d0
 generalize d1:Cl s i b=yd1
 unfold Cl at d1
 generalize d2:Bv s i b=yd2
 unfold Bv at d2
 rcases bft (decide ((((F0 s i):Nat):Int)=0)) with q1 | q1
 ·rw [A2 q1] at d0 d1 d2
  rcases bft (decide ((((Bt s.le.c.mode (Ab s.d (Ae s i)) (Ae s i)):Nat):Int)=1)) with q2 | q2
  ·rw [A2 q2] at d0
   rcases bft b with q3 | q3
   ·rw [A2 q3] at d0
    subst d0 d1 d2
    exact so Tryz.f110 8 (ir 0 29) (.c (ir 0 29) (cat s i ((CtlOk.mono ok (by decide)))) (.g q1 (.c (ir 0 29) (A2o s (Ae s i) (Ey s i) (Ez s i) ((CtlOk.mono ok (by decide)))) (.t2 q2 (.t q3 (.c (ir 0 29) (Ab2 (Aw s (Ae s i) (Ey s i) (Ez s i)) (Ae s i) (Ek s.le.c.mode (Ab s.d (Ae s i)) (Ae s i)) false ((CtlOk.mono (Jn ok) (by decide))) (Zb (Iv ok.d))) (.c [] (Apw (((Bt s.le.c.mode (Ab s.d (Ae s i)) (Ae s i)):Nat):Int) (((G9 s.le.c.mode (Ab s.d (Ae s i)) (Ae s i)):Nat):Int)) .nil)))))))
   ·rw [A1 q3] at d0
    subst d0 d1 d2
    exact so Tryz.f110 8 (ir 0 29) (.c (ir 0 29) (cat s i ((CtlOk.mono ok (by decide)))) (.g q1 (.c (ir 0 29) (A2o s (Ae s i) (Ey s i) (Ez s i) ((CtlOk.mono ok (by decide)))) (.t2 q2 (.t q3 (.c [] (Apw (((Bt s.le.c.mode (Ab s.d (Ae s i)) (Ae s i)):Nat):Int) (((G9 s.le.c.mode (Ab s.d (Ae s i)) (Ae s i)):Nat):Int)) .nil))))))
  ·rw [A1 q2] at d0
   subst d0 d1 d2
   exact so Tryz.f110 8 (ir 0 29) (.c (ir 0 29) (cat s i ((CtlOk.mono ok (by decide)))) (.g q1 (.c (ir 0 29) (A2o s (Ae s i) (Ey s i) (Ez s i) ((CtlOk.mono ok (by decide)))) (.t2 q2 (.n (.c [] (Apw (((Bt s.le.c.mode (Ab s.d (Ae s i)) (Ae s i)):Nat):Int) (((G9 s.le.c.mode (Ab s.d (Ae s i)) (Ae s i)):Nat):Int)) .nil))))))
 ·rw [A1 q1] at d0 d1 d2
  subst d0 d1 d2
  exact so Tryz.f110 4 (ir 0 29) (.c (ir 0 29) (cat s i ((CtlOk.mono ok (by decide)))) (.g q1 .nil))
theorem Ak1 (s:CtlS) (i:Int) (ok:CtlOk 98000000 s):Sp P 39 [.pt 0 0,vi i] (Ct s 0 ++ ros (Bg 24)) (.tu [.ar .u8 64 (nf (Cl s i s.le.c.back)),vn (Bv s i s.le.c.back)]) (Ct (An s i s.le.c.back) 0 ++ ros (Bg 24)) :=
 so Tryz.f39 3 (ir 0 29) (.c (ir 0 29) (Auc s i s.le.c.back ((CtlOk.mono ok (by decide)))) .nil)
def Ah (s:CtlS) (i:Int) (l:List Nat) (m:Nat):CtlS:=bif decide ((((F0 s i):Nat):Int)=0) then (bif decide ((m:Int)=0) then s else (bif decide (((wt m:Nat):Int)=64) then (As s (Ae s i) (Uc l) false) else (bif decide ((((Iy (((Bt s.le.c.mode (Ab s.d (Ae s i)) (Ae s i)):Nat):Int) (((G9 s.le.c.mode (Ab s.d (Ae s i)) (Ae s i)):Nat):Int)):Nat):Int)=0) then (As (Aw s (Ae s i) (Ey s i) (Ez s i)) (Ae s i) (mgF (Ek s.le.c.mode (Ab s.d (Ae s i)) (Ae s i)) (Uc l) m) false) else (As (Aw s (Ae s i) (Ey s i) (Ez s i)) (Ae s i) (fun _=>0) true)))) else s
def Ar (s:CtlS) (i:Int) (l:List Nat) (m:Nat):Nat:=bif decide ((((F0 s i):Nat):Int)=0) then (bif decide ((m:Int)=0) then 30 else (bif decide (((wt m:Nat):Int)=64) then 0 else (bif decide ((((Iy (((Bt s.le.c.mode (Ab s.d (Ae s i)) (Ae s i)):Nat):Int) (((G9 s.le.c.mode (Ab s.d (Ae s i)) (Ae s i)):Nat):Int)):Nat):Int)=0) then 0 else (Iy (((Bt s.le.c.mode (Ab s.d (Ae s i)) (Ae s i)):Nat):Int) (((G9 s.le.c.mode (Ab s.d (Ae s i)) (Ae s i)):Nat):Int))))) else 30
theorem A4g (s:CtlS) (i:Int) (l:List Nat) (m:Nat) (ok:CtlOk 98000000 s) (hl:l.length=64) (bl:B8 l) (hm:m < 18446744073709551616):Sp P 54 [.pt 0 0,vi i,.sl 29,vu m] (Ct s 0 ++ ros (Bg 24) ++ [.ro (.row eB l)]) (vn (Ar s i l m)) (Ct (Ah s i l m) 0 ++ ros (Bg 24) ++ [.ro (.row eB l)]):=by
 generalize d0:Ah s i l m=yd0
 unfold Ah at d0
 generalize d1:Ar s i l m=yd1
 unfold Ar at d1
 rcases bft (decide ((((F0 s i):Nat):Int)=0)) with q1 | q1
 ·rw [A2 q1] at d0 d1
  have q1':=otq q1
  rcases bft (decide ((m:Int)=0)) with q2 | q2
  ·rw [A2 q2] at d0 d1
   have q2':=otq q2
   subst d0 d1
   exact so Tryz.f54 4 (ir 0 30) (.c (ir 0 29) (cat s i ((CtlOk.mono ok (by decide)))) (.c [.id 29] (A04 l (by first | assumption | omega)) (.g2 q1 (.g q1 (.n2 (.n (.t q2 .nil)))))))
  ·rw [A1 q2] at d0 d1
   have q2':=ofq q2
   rcases bft (decide (((wt m:Nat):Int)=64)) with q3 | q3
   ·rw [A2 q3] at d0 d1
    have q3':=otq q3
    subst d0 d1
    exact so Tryz.f54 4 (ir 0 30) (.c (ir 0 29) (cat s i ((CtlOk.mono ok (by decide)))) (.c [.id 29] (A04 l (by first | assumption | omega)) (.g2 q1 (.g q1 (.n2 (.n (.t q2 (.c [] (Y3 m hm) (.t q3 (.c (ir 0 29) (Ab2 s (Ae s i) (Uc l) false ((CtlOk.mono ok (by decide))) (Lp bl)) .nil))))))))))
   ·rw [A1 q3] at d0 d1
    have q3':=ofq q3
    rcases bft (decide ((((Iy (((Bt s.le.c.mode (Ab s.d (Ae s i)) (Ae s i)):Nat):Int) (((G9 s.le.c.mode (Ab s.d (Ae s i)) (Ae s i)):Nat):Int)):Nat):Int)=0)) with q4 | q4
    ·rw [A2 q4] at d0 d1
     have q4':=otq q4
     subst d0 d1
     exact so Tryz.f54 8 (ir 0 30) (.c (ir 0 29) (cat s i ((CtlOk.mono ok (by decide)))) (.c [.id 29] (A04 l (by first | assumption | omega)) (.g2 q1 (.g q1 (.n2 (.n (.t q2 (.c [] (Y3 m hm) (.t q3 (.c (ir 0 29) (A2o s (Ae s i) (Ey s i) (Ez s i) ((CtlOk.mono ok (by decide)))) (.c [] (Apw (((Bt s.le.c.mode (Ab s.d (Ae s i)) (Ae s i)):Nat):Int) (((G9 s.le.c.mode (Ab s.d (Ae s i)) (Ae s i)):Nat):Int)) (.g q4 (.c [] (A0f (Ek s.le.c.mode (Ab s.d (Ae s i)) (Ae s i)) (Uc l) m hm) (.c (ir 0 29) (Ab2 (Aw s (Ae s i) (Ey s i) (Ez s i)) (Ae s i) (mgF (Ek s.le.c.mode (Ab s.d (Ae s i)) (Ae s i)) (Uc l) m) false ((CtlOk.mono (Jn ok) (by decide))) (A0g (Zb (Iv ok.d)) (Lp bl) _)) .nil))))))))))))))
    ·rw [A1 q4] at d0 d1
     have q4':=ofq q4
     subst d0 d1
     exact so Tryz.f54 6 (ir 0 30) (.c (ir 0 29) (cat s i ((CtlOk.mono ok (by decide)))) (.c [.id 29] (A04 l (by first | assumption | omega)) (.g2 q1 (.g q1 (.n2 (.n (.t q2 (.c [] (Y3 m hm) (.t q3 (.c (ir 0 29) (A2o s (Ae s i) (Ey s i) (Ez s i) ((CtlOk.mono ok (by decide)))) (.c [] (Apw (((Bt s.le.c.mode (Ab s.d (Ae s i)) (Ae s i)):Nat):Int) (((G9 s.le.c.mode (Ab s.d (Ae s i)) (Ae s i)):Nat):Int)) (.g q4 (.c (ir 0 29) (Ab2 (Aw s (Ae s i) (Ey s i) (Ez s i)) (Ae s i) (fun _=>0) true ((CtlOk.mono (Jn ok) (by decide))) (fun _=>(by decide:(0:Nat) < 256))) .nil)))))))))))))
 ·rw [A1 q1] at d0 d1
  have q1':=ofq q1
  subst d0 d1
  exact so Tryz.f54 4 (ir 0 30) (.c (ir 0 29) (cat s i ((CtlOk.mono ok (by decide)))) (.c [.id 29] (A04 l (by first | assumption | omega)) (.g2 q1 (.g q1 (.y4 .nil)))))
def Hn (s:CtlS) (i:Int) (l:List Nat):CtlS:=Ah s i l 18446744073709551615
theorem Ak5 (s:CtlS) (i:Int) (l:List Nat) (ok:CtlOk 98000000 s) (hl:l.length=64) (bl:B8 l):Sp P 34 [.pt 0 0,vi i,.sl 29] (Ct s 0 ++ ros (Bg 24) ++ [.ro (.row eB l)]) (vn (Ar s i l 18446744073709551615)) (Ct (Hn s i l) 0 ++ ros (Bg 24) ++ [.ro (.row eB l)]) :=
 so Tryz.f34 3 (ir 0 30) (.c (ir 0 30) (A4g s i l 18446744073709551615 ok hl bl (by decide)) .nil)
theorem Xp {n:Nat} {c:Bool} {a b:CtlS} (ha:CtlOk n a) (hb:CtlOk n b):CtlOk n (bif c then a else b):=by cases c <;> assumption
theorem A4v {n:Nat} {s:CtlS} (ok:CtlOk n s) (a:Int):∀ j,Ek s.le.c.mode (Ab s.d a) a j < 256:=fun j=>Zb (Iv ok.d) j
theorem Z5 {n:Nat} {s:CtlS} {i:Int} {b:Bool} (ok:CtlOk n s):CtlOk (n + 3) (An s i b):=by
 have h0:CtlOk (n + 3) s:=ok.mono (by omega)
 have h2:∀ a b c,CtlOk (n + 3) (Aw s a b c):=fun a b c=>(Jn ok).mono (Nat.le_succ _)
 have h3:∀ a b c,CtlOk (n + 3) (As (Aw s a b c) a (Ek s.le.c.mode (Ab s.d a) a) false):=fun a b c=>Oy (Jn ok) (A4v ok a)
 unfold An
 exact Xp (Xp (Xp (h3 _ _ _) (h2 _ _ _)) (h2 _ _ _)) h0
theorem Aap {n:Nat} {s:CtlS} {i:Int} {l:List Nat} {m:Nat} (ok:CtlOk n s) (bl:B8 l):CtlOk (n + 3) (Ah s i l m):=by
 have h0:CtlOk (n + 3) s:=ok.mono (by omega)
 have h1:∀ j,(fun _=>0:Nat->Nat) j < 256:=fun _=>(by decide:(0:Nat) < 256)
 have h2:∀ a,CtlOk (n + 3) (As s a (Uc l) false):=fun a=>(Oy ok (Lp bl)).mono (by omega)
 have h3:∀ a b c,CtlOk (n + 3) (As (Aw s a b c) a (mgF (Ek s.le.c.mode (Ab s.d a) a) (Uc l) m) false):=fun a b c=>Oy (Jn ok) (A0g (A4v ok a) (Lp bl) m)
 have h4:∀ a b c,CtlOk (n + 3) (As (Aw s a b c) a (fun _=>0) true):=fun a b c=>Oy (Jn ok) h1
 unfold Ah
 exact Xp (Xp h0 (Xp (h2 _) (Xp (h3 _ _ _) (h4 _ _ _)))) h0
