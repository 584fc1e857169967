import Derived.Test.YtfhiggfmkjmeiaaGreatFInt
set_option linter.all false
namespace Go.Proofs.YtfhiggfmkjmeiaaGreat
open Go Go.RowKit
set_option maxRecDepth 100000
theorem Ju {i n:Int} (h:Bl i n=true):0<=i/\i < n:=by
 unfold Bl at h; revert h; cases q:decide (0<=i) <;> simp_all
theorem R1 {i n:Int} (h:Bl i n=false):¬ (0<=i/\i < n):=fun ⟨a,b⟩=>by simp [Bl,a,b] at h
structure MapOk (s:MapS):Prop where
 right:Bc s.l=true
 nl:(s.lives.length:Int)=A0 s.l
 nd:(s.dead.length:Int)=A9 s.l.g
 ns:(s.sp.length:Int)=s.l.g.ranks
 pg:0<=s.pages/\s.pages<=s.l.res
 rk:0<=s.rks/\s.rks<=s.l.g.spares
theorem C0 {l:Ly} (h:Bc l=true):l.g.right=true/\B7 l.g l.way=true/\(0<=l.res/\l.res<=64/\l.res < A9 l.g)/\A0 l=A9 l.g - l.res/\1<=A0 l/\A0 l<=131072/\IntKind.i64.wrap (A0 l * l.g.cols)=A0 l * l.g.cols/\IntKind.i64.wrap (A0 l * l.g.cols)<=8388608/\1<=l.g.cols/\l.g.cols<=64:=by
 have hi:B7 l.g l.way=true/\0<=l.res/\l.res<=64/\l.res < A9 l.g:=by
  unfold Bc at h
  revert h
  cases q:B7 l.g l.way <;> cases q2:decide (0<=l.res) <;> cases q3:decide (l.res<=64) <;> simp_all
 have hg:l.g.right=true:=by
  have:=hi.1
  unfold B7 at this
  revert this
  cases q:l.g.right <;> simp_all
 obtain ⟨e,e1,e2⟩:=J7 hg
 have hs:A0 l=A9 l.g - l.res:=by
  unfold A0; rw [h,cond_true,D1 (by omega) (by omega)]
 obtain ⟨h1,h2,h3,h4,h5⟩:=Gm.rt hg
 have m1:=Il (a:=A0 l) (b:=l.g.cols) (A:=131072) (B:=64) (by omega) (by omega)
 refine ⟨hg,hi.1,hi.2,hs,by omega,by omega,?_,?_,h5.1,h5.2⟩
 ·rw [D1 (by omega) (by omega)]
 ·rw [D1 (by omega) (by omega)]; omega
theorem Anp {s:MapS} (h:MapOk s) {n:Int} (hn:Bl n (IntKind.i64.wrap (A0 s.l * s.l.g.cols))=true):0<=IntKind.i64.wrap (n.tdiv s.l.g.cols)/\IntKind.i64.wrap (n.tdiv s.l.g.cols) < (s.lives.length:Int):=by
 obtain ⟨h1,h2,h3,h4,h5,h6,h7,h8,h9,h10⟩:=C0 h.right
 have hb:=Ju hn
 have:=h.nl
 rw [h7] at hb
 have e:n.tdiv s.l.g.cols=n / s.l.g.cols:=Int.tdiv_eq_ediv_of_nonneg hb.1
 have lo:0<=n / s.l.g.cols:=Int.ediv_nonneg hb.1 (by omega)
 have hi:n / s.l.g.cols < A0 s.l:=Int.ediv_lt_of_lt_mul (by omega) hb.2
 rw [e,D1 (by omega) (by omega)]; omega
theorem A4n {s:MapS} (h:MapOk s):s.l.g.cols ≠ 0:=by
 obtain ⟨h1,h2,h3,h4,h5,h6,h7,h8,h9,h10⟩:=C0 h.right
 omega
theorem B5 (s:MapS) :Sp P 174 [.pt 0 0] (ros (Ge s 0)) (.ag [vi s.l.g.ranks,vi s.l.g.spares,vi s.l.g.banks,vi s.l.g.rows,vi s.l.g.cols,vi s.l.way,vi s.l.res]) (ros (Ge s 0)) :=
 so Tryz.f174 3 (ir 0 4) .nil
def Hy (s:MapS) (h:Int):Bool:=bif (Bl h (s.dead.length:Int)) then (s.dead.getD h.toNat eT0) else false
theorem Uf (s:MapS) (h:Int) :Sp P 28 [.pt 0 0,vi h] (ros (Ge s 0)) (vt (Hy s h)) (ros (Ge s 0)):=by
 generalize d0:Hy s h=yd0
 unfold Hy at d0
 rcases bft (Bl h (s.dead.length:Int)) with q1 | q1
 ·rw [A2 q1] at d0
  have q1':=Ju q1
  subst d0
  exact so Tryz.f28 3 (ir 0 4) (.c [] (K2 h (s.dead.length:Int)) (.t4 q1 (.t2 q1 (.ix (n:=h) (i:=h.toNat) (m:=s.dead.length) (e:=(by omega)) (by omega) (.t q1 (.el (e:=eT) (gDx (l:=s.dead) (i:=h.toNat) eT0 (by omega)) (.t q1 .nil)))))))
 ·rw [A1 q1] at d0
  have q1':=R1 q1
  subst d0
  exact so Tryz.f28 3 (ir 0 4) (.c [] (K2 h (s.dead.length:Int)) (.t4 q1 (.t4 q1 .nil)))
def Gn (s:MapS) (r:Int):Int:=bif (Bl r (s.sp.length:Int)) then (bif decide (s.sp.getD r.toNat eI0=-1) then 0 else (s.sp.getD r.toNat eI0)) else 0
def Cr (s:MapS) (r:Int):Bool:=bif (Bl r (s.sp.length:Int)) then (bif decide (s.sp.getD r.toNat eI0=-1) then false else true) else false
theorem Ns (s:MapS) (r:Int) :Sp P 26 [.pt 0 0,vi r] (ros (Ge s 0)) (.tu [vi (Gn s r),vt (Cr s r)]) (ros (Ge s 0)):=by
 generalize d0:Gn s r=yd0
 unfold Gn at d0
 generalize d1:Cr s r=yd1
 unfold Cr at d1
 rcases bft (Bl r (s.sp.length:Int)) with q1 | q1
 ·rw [A2 q1] at d0 d1
  have q1':=Ju q1
  rcases bft (decide (s.sp.getD r.toNat eI0=-1)) with q2 | q2
  ·rw [A2 q2] at d0 d1
   have q2':=otq q2
   subst d0 d1
   exact so Tryz.f26 3 (ir 0 4) (.c [] (K2 r (s.sp.length:Int)) (.g4 q1 (.g2 q1 (.ix (n:=r) (i:=r.toNat) (m:=s.sp.length) (e:=(by omega)) (by omega) (.g q1 (.el (e:=eI) (gDx (l:=s.sp) (i:=r.toNat) eI0 (by omega)) (.g2 q1 (.t q2 .nil))))))))
  ·rw [A1 q2] at d0 d1
   have q2':=ofq q2
   subst d0 d1
   exact so Tryz.f26 3 (ir 0 4) (.c [] (K2 r (s.sp.length:Int)) (.g4 q1 (.g2 q1 (.ix (n:=r) (i:=r.toNat) (m:=s.sp.length) (e:=(by omega)) (by omega) (.g q1 (.el (e:=eI) (gDx (l:=s.sp) (i:=r.toNat) eI0 (by omega)) (.g2 q1 (.t q2 (.ix (n:=r) (i:=r.toNat) (m:=s.sp.length) (e:=(by omega)) (by omega) (.el (e:=eI) (gDx (l:=s.sp) (i:=r.toNat) eI0 (by omega)) .nil))))))))))
 ·rw [A1 q1] at d0 d1
  have q1':=R1 q1
  subst d0 d1
  exact so Tryz.f26 3 (ir 0 4) (.c [] (K2 r (s.sp.length:Int)) (.g4 q1 (.g4 q1 (.g q1 (.y .nil)))))
def C1 (s:MapS) (h:Int):Int:=bif decide ((Iq s.l.g s.l.way h)=0) then (bif (Cr s ((Ea s.l.g s.l.way h).fdiv (2 ^ 14))) then (IntKind.i64.wrap ((Ea s.l.g s.l.way h) + (IntKind.i64.wrap ((IntKind.i64.wrap ((Gn s ((Ea s.l.g s.l.way h).fdiv (2 ^ 14))) - ((Ea s.l.g s.l.way h).fdiv (2 ^ 14)))) * 2 ^ 14)))) else (Ea s.l.g s.l.way h)) else 0
def Oe (s:MapS) (h:Int):Int:=bif decide ((Iq s.l.g s.l.way h)=0) then ((Ea s.l.g s.l.way h).fdiv (2 ^ 14)) else 0
def Ep (s:MapS) (h:Int):Int:=bif decide ((Iq s.l.g s.l.way h)=0) then 0 else (Iq s.l.g s.l.way h)
theorem Ant (s:MapS) (h:Int) :Sp P 225 [.pt 0 0,vi h] (ros (Ge s 0)) (.tu [vi (C1 s h),vi (Oe s h),vi (Ep s h)]) (ros (Ge s 0)):=by
 generalize d0:C1 s h=yd0
 unfold C1 at d0
 generalize d1:Oe s h=yd1
 unfold Oe at d1
 generalize d2:Ep s h=yd2
 unfold Ep at d2
 rcases bft (decide ((Iq s.l.g s.l.way h)=0)) with q1 | q1
 ·rw [A2 q1] at d0 d1 d2
  rcases bft (Cr s ((Ea s.l.g s.l.way h).fdiv (2 ^ 14))) with q2 | q2
  ·rw [A2 q2] at d0
   subst d0 d1 d2
   exact so Tryz.f225 3 (ir 0 4) (.c [] (Afg s.l.g s.l.way h) (.g q1 (.c (ir 0 4) (Ns s ((Ea s.l.g s.l.way h).fdiv (2 ^ 14))) (.t q2 .nil))))
  ·rw [A1 q2] at d0
   subst d0 d1 d2
   exact so Tryz.f225 3 (ir 0 4) (.c [] (Afg s.l.g s.l.way h) (.g q1 (.c (ir 0 4) (Ns s ((Ea s.l.g s.l.way h).fdiv (2 ^ 14))) (.t q2 .nil))))
 ·rw [A1 q1] at d0 d1 d2
  subst d0 d1 d2
  exact so Tryz.f225 3 (ir 0 4) (.c [] (Afg s.l.g s.l.way h) (.g q1 .nil))
theorem Ann (s:MapS) (h:Int) :Sp P 273 [.pt 0 0,vi h] (ros (Ge s 0)) (.tu [vi (C1 s h),vi (Ep s h)]) (ros (Ge s 0)) :=
 so Tryz.f273 3 (ir 0 4) (.c (ir 0 4) (Ant s h) .nil)
def Ci (s:MapS):Int:=bif decide (s.pages=s.l.res) then 0 else (IntKind.i64.wrap ((A0 s.l) + s.pages))
def C5 (s:MapS):Bool:=bif decide (s.pages=s.l.res) then false else true
theorem Hc (s:MapS) :Sp P 23 [.pt 0 0] (ros (Ge s 0)) (.tu [vi (Ci s),vt (C5 s)]) (ros (Ge s 0)):=by
 generalize d0:Ci s=yd0
 unfold Ci at d0
 generalize d1:C5 s=yd1
 unfold C5 at d1
 rcases bft (decide (s.pages=s.l.res)) with q1 | q1
 ·rw [A2 q1] at d0 d1
  subst d0 d1
  exact so Tryz.f23 3 (ir 0 4) (.t q1 .nil)
 ·rw [A1 q1] at d0 d1
  subst d0 d1
  exact so Tryz.f23 3 (ir 0 4) (.t q1 (.c [] (Nr s.l) .nil))
def Dg (s:MapS):Int:=bif decide (s.rks=s.l.g.spares) then 0 else (IntKind.i64.wrap (s.l.g.ranks + s.rks))
def Co (s:MapS):Bool:=bif decide (s.rks=s.l.g.spares) then false else true
theorem A08 (s:MapS) :Sp P 24 [.pt 0 0] (ros (Ge s 0)) (.tu [vi (Dg s),vt (Co s)]) (ros (Ge s 0)):=by
 generalize d0:Dg s=yd0
 unfold Dg at d0
 generalize d1:Co s=yd1
 unfold Co at d1
 rcases bft (decide (s.rks=s.l.g.spares)) with q1 | q1
 ·rw [A2 q1] at d0 d1
  subst d0 d1
  exact so Tryz.f24 3 (ir 0 4) (.t q1 .nil)
 ·rw [A1 q1] at d0 d1
  subst d0 d1
  exact so Tryz.f24 3 (ir 0 4) (.t q1 .nil)
def Ag (s:MapS) (n:Int):Int:=bif (Bl n (IntKind.i64.wrap ((A0 s.l) * s.l.g.cols))) then (bif decide ((Ep s (s.lives.getD (IntKind.i64.wrap (n.tdiv s.l.g.cols)).toNat eI0))=0) then (bits .or .i64 (IntKind.i64.wrap ((C1 s (s.lives.getD (IntKind.i64.wrap (n.tdiv s.l.g.cols)).toNat eI0)) * 2 ^ 6)) (n.tmod s.l.g.cols)) else 0) else 0
def Gl (s:MapS) (n:Int):Int:=bif (Bl n (IntKind.i64.wrap ((A0 s.l) * s.l.g.cols))) then (bif decide ((Ep s (s.lives.getD (IntKind.i64.wrap (n.tdiv s.l.g.cols)).toNat eI0))=0) then (s.lives.getD (IntKind.i64.wrap (n.tdiv s.l.g.cols)).toNat eI0) else 0) else 0
def Da (s:MapS) (n:Int):Int:=bif (Bl n (IntKind.i64.wrap ((A0 s.l) * s.l.g.cols))) then (bif decide ((Ep s (s.lives.getD (IntKind.i64.wrap (n.tdiv s.l.g.cols)).toNat eI0))=0) then (Oe s (s.lives.getD (IntKind.i64.wrap (n.tdiv s.l.g.cols)).toNat eI0)) else 0) else 0
def D2 (s:MapS) (n:Int):Int:=bif (Bl n (IntKind.i64.wrap ((A0 s.l) * s.l.g.cols))) then (bif decide ((Ep s (s.lives.getD (IntKind.i64.wrap (n.tdiv s.l.g.cols)).toNat eI0))=0) then 0 else (Ep s (s.lives.getD (IntKind.i64.wrap (n.tdiv s.l.g.cols)).toNat eI0))) else 12
theorem La (s:MapS) (n:Int) (ok:MapOk s):Sp P 172 [.pt 0 0,vi n] (ros (Ge s 0)) (.tu [vi (Ag s n),vi (Gl s n),vi (Da s n),vi (D2 s n)]) (ros (Ge s 0)):=by
 have hc:=A4n ok
 generalize d0:Ag s n=yd0
 unfold Ag at d0
 generalize d1:Gl s n=yd1
 unfold Gl at d1
 generalize d2:Da s n=yd2
 unfold Da at d2
 generalize d3:D2 s n=yd3
 unfold D2 at d3
 rcases bft (Bl n (IntKind.i64.wrap ((A0 s.l) * s.l.g.cols))) with q1 | q1
 ·rw [A2 q1] at d0 d1 d2 d3
  have q1':=Ju q1
  have q1f0:=Anp ok q1
  rcases bft (decide ((Ep s (s.lives.getD (IntKind.i64.wrap (n.tdiv s.l.g.cols)).toNat eI0))=0)) with q2 | q2
  ·rw [A2 q2] at d0 d1 d2 d3
   have q2':=otq q2
   subst d0 d1 d2 d3
   exact so Tryz.f172 3 (ir 0 4) (.c [] (Ue s.l) (.c [] (K2 n (IntKind.i64.wrap ((A0 s.l) * s.l.g.cols))) (.g q1 (.p 28 (Xi n s.l.g.cols (hc)) (.ix (n:=IntKind.i64.wrap (n.tdiv s.l.g.cols)) (i:=(IntKind.i64.wrap (n.tdiv s.l.g.cols)).toNat) (m:=s.lives.length) (e:=(by omega)) (by omega) (.el (e:=eI) (gDx (l:=s.lives) (i:=(IntKind.i64.wrap (n.tdiv s.l.g.cols)).toNat) eI0 (by omega)) (.c (ir 0 4) (Ant s (s.lives.getD (IntKind.i64.wrap (n.tdiv s.l.g.cols)).toNat eI0)) (.g q2 (.p 50 (Qu n s.l.g.cols (hc)) .nil)))))))))
  ·rw [A1 q2] at d0 d1 d2 d3
   have q2':=ofq q2
   subst d0 d1 d2 d3
   exact so Tryz.f172 3 (ir 0 4) (.c [] (Ue s.l) (.c [] (K2 n (IntKind.i64.wrap ((A0 s.l) * s.l.g.cols))) (.g q1 (.p 28 (Xi n s.l.g.cols (hc)) (.ix (n:=IntKind.i64.wrap (n.tdiv s.l.g.cols)) (i:=(IntKind.i64.wrap (n.tdiv s.l.g.cols)).toNat) (m:=s.lives.length) (e:=(by omega)) (by omega) (.el (e:=eI) (gDx (l:=s.lives) (i:=(IntKind.i64.wrap (n.tdiv s.l.g.cols)).toNat) eI0 (by omega)) (.c (ir 0 4) (Ant s (s.lives.getD (IntKind.i64.wrap (n.tdiv s.l.g.cols)).toNat eI0)) (.g q2 .nil))))))))
 ·rw [A1 q1] at d0 d1 d2 d3
  have q1':=R1 q1
  subst d0 d1 d2 d3
  exact so Tryz.f172 3 (ir 0 4) (.c [] (Ue s.l) (.c [] (K2 n (IntKind.i64.wrap ((A0 s.l) * s.l.g.cols))) (.g q1 .nil)))
def Cy (s:MapS):MapS:=bif (C5 s) then { s with pages:=IntKind.i64.wrap (s.pages + 1) } else s
def Di (s:MapS):Int:=bif (C5 s) then (Ci s) else 0
def G7 (s:MapS):Nat:=bif (C5 s) then 0 else 52
theorem A3c (s:MapS) :Sp P 342 [.pt 0 0] (Ge s 0) (.tu [vi (Di s),vn (G7 s)]) (Ge (Cy s) 0):=by
 generalize d0:Cy s=yd0
 unfold Cy at d0
 generalize d1:Di s=yd1
 unfold Di at d1
 generalize d2:G7 s=yd2
 unfold G7 at d2
 rcases bft (C5 s) with q1 | q1
 ·rw [A2 q1] at d0 d1 d2
  subst d0 d1 d2
  exact so Tryz.f342 3 (ir 0 4) (.c (ir 0 4) (Hc s) (.g q1 .nil))
 ·rw [A1 q1] at d0 d1 d2
  subst d0 d1 d2
  exact so Tryz.f342 3 (ir 0 4) (.c (ir 0 4) (Hc s) (.g q1 .nil))
def Cj (s:MapS):MapS:=bif (Co s) then { s with rks:=IntKind.i64.wrap (s.rks + 1) } else s
def D5 (s:MapS):Int:=bif (Co s) then (Dg s) else 0
def F9 (s:MapS):Nat:=bif (Co s) then 0 else 52
theorem A0a (s:MapS) :Sp P 343 [.pt 0 0] (Ge s 0) (.tu [vi (D5 s),vn (F9 s)]) (Ge (Cj s) 0):=by
 generalize d0:Cj s=yd0
 unfold Cj at d0
 generalize d1:D5 s=yd1
 unfold D5 at d1
 generalize d2:F9 s=yd2
 unfold F9 at d2
 rcases bft (Co s) with q1 | q1
 ·rw [A2 q1] at d0 d1 d2
  subst d0 d1 d2
  exact so Tryz.f343 3 (ir 0 4) (.c (ir 0 4) (A08 s) (.g q1 .nil))
 ·rw [A1 q1] at d0 d1 d2
  subst d0 d1 d2
  exact so Tryz.f343 3 (ir 0 4) (.c (ir 0 4) (A08 s) (.g q1 .nil))
theorem An7 {s:MapS} (h:MapOk s):s.lives.length<=131072:=by
 obtain ⟨h1,h2,h3,h4,h5,h6,h7⟩:=C0 h.right
 have:=h.nl; omega
theorem B0e {s:MapS} (h:MapOk s) {t:Int} (ht:0<=t/\t<=1048576) (hb:Bl (IntKind.i64.wrap (t - A0 s.l)) s.pages=true):0<=t/\t < (s.dead.length:Int):=by
 obtain ⟨h1,h2,h3,h4,h5,h6,h7⟩:=C0 h.right
 have:=h.nd; have:=h.pg
 have hb:=Ju hb
 rw [D1 (by omega) (by omega)] at hb; omega
def Lt (h t:Int) (l:List Int):Nat->List Int
 | 0=>l
 | i + 1=>bif decide ((Lt h t l i).getD i eI0=h) then (Lt h t l i).set i t else Lt h t l i
theorem Ky (h t:Int) (l:List Int):∀ i,(Lt h t l i).length=l.length
 | 0=>rfl
 | i + 1=>by
   have:=Ky h t l i
   rw [Lt]
   cases decide ((Lt h t l i).getD i eI0=h)
   ·exact this
   ·rw [cond_true,List.length_set,this]
def Fh (s:MapS) (h:Int) (t:Int):MapS:=bif (Bl h (s.dead.length:Int)) then (bif (Bl (IntKind.i64.wrap (t - (A0 s.l))) s.pages) then (bif s.dead.getD h.toNat eT0 then s else (bif s.dead.getD t.toNat eT0 then s else (bif decide (h=t) then s else { s with lives:=Lt h t s.lives s.lives.length,dead:=s.dead.set h.toNat true }))) else s) else s
def T4 (s:MapS) (h:Int) (t:Int):Nat:=bif (Bl h (s.dead.length:Int)) then (bif (Bl (IntKind.i64.wrap (t - (A0 s.l))) s.pages) then (bif s.dead.getD h.toNat eT0 then 15 else (bif s.dead.getD t.toNat eT0 then 15 else (bif decide (h=t) then 15 else 0))) else 12) else 12
theorem Afw (s:MapS) (h:Int) (t:Int) (ok:MapOk s) (ht:0<=t/\t<=1048576):Sp P 324 [.pt 0 0,vi h,vi t] (Ge s 0) (vn (T4 s h t)) (Ge (Fh s h t) 0):=by
 have hl:=An7 ok
 generalize d0:Fh s h t=yd0
 unfold Fh at d0
 generalize d1:T4 s h t=yd1
 unfold T4 at d1
 rcases bft (Bl h (s.dead.length:Int)) with q1 | q1
 ·rw [A2 q1] at d0 d1
  have q1':=Ju q1
  rcases bft (Bl (IntKind.i64.wrap (t - (A0 s.l))) s.pages) with q2 | q2
  ·rw [A2 q2] at d0 d1
   have q2':=Ju q2
   have q2f0:=B0e ok ht q2
   rcases bft (s.dead.getD h.toNat eT0) with q3 | q3
   ·rw [A2 q3] at d0 d1
    subst d0 d1
    exact so Tryz.f324 5 (ir 0 4) (.c [] (K2 h (s.dead.length:Int)) (.g4 q1 (.g2 q1 (.c [] (Nr s.l) (.g4 q1 (.g2 q1 (.c [] (K2 (IntKind.i64.wrap (t - (A0 s.l))) s.pages) (.g2 q1 (.g q2 (.ix (n:=h) (i:=h.toNat) (m:=s.dead.length) (e:=(by omega)) (by omega) (.el (e:=eT) (gDx (l:=s.dead) (i:=h.toNat) eT0 (by omega)) (.t4 q3 (.t4 q3 (.y4 (.y .nil)))))))))))))))
   ·rw [A1 q3] at d0 d1
    rcases bft (s.dead.getD t.toNat eT0) with q4 | q4
    ·rw [A2 q4] at d0 d1
     subst d0 d1
     exact so Tryz.f324 5 (ir 0 4) (.c [] (K2 h (s.dead.length:Int)) (.g4 q1 (.g2 q1 (.c [] (Nr s.l) (.g4 q1 (.g2 q1 (.c [] (K2 (IntKind.i64.wrap (t - (A0 s.l))) s.pages) (.g2 q1 (.g q2 (.ix (n:=h) (i:=h.toNat) (m:=s.dead.length) (e:=(by omega)) (by omega) (.el (e:=eT) (gDx (l:=s.dead) (i:=h.toNat) eT0 (by omega)) (.t4 q3 (.t2 q3 (.ix (n:=t) (i:=t.toNat) (m:=s.dead.length) (e:=(by omega)) (by omega) (.t q3 (.el (e:=eT) (gDx (l:=s.dead) (i:=t.toNat) eT0 (by omega)) (.t q3 (.t4 q4 (.y .nil)))))))))))))))))))
    ·rw [A1 q4] at d0 d1
     rcases bft (decide (h=t)) with q5 | q5
     ·rw [A2 q5] at d0 d1
      have q5':=otq q5
      subst d0 d1
      exact so Tryz.f324 5 (ir 0 4) (.c [] (K2 h (s.dead.length:Int)) (.g4 q1 (.g2 q1 (.c [] (Nr s.l) (.g4 q1 (.g2 q1 (.c [] (K2 (IntKind.i64.wrap (t - (A0 s.l))) s.pages) (.g2 q1 (.g q2 (.ix (n:=h) (i:=h.toNat) (m:=s.dead.length) (e:=(by omega)) (by omega) (.el (e:=eT) (gDx (l:=s.dead) (i:=h.toNat) eT0 (by omega)) (.t4 q3 (.t2 q3 (.ix (n:=t) (i:=t.toNat) (m:=s.dead.length) (e:=(by omega)) (by omega) (.t q3 (.el (e:=eT) (gDx (l:=s.dead) (i:=t.toNat) eT0 (by omega)) (.t q3 (.t4 q4 (.t q5 .nil)))))))))))))))))))
     ·rw [A1 q5] at d0 d1
      have q5':=ofq q5
      subst d0 d1
      exact so Tryz.f324 5 (ir 0 4) (.c [] (K2 h (s.dead.length:Int)) (.g4 q1 (.g2 q1 (.c [] (Nr s.l) (.g4 q1 (.g2 q1 (.c [] (K2 (IntKind.i64.wrap (t - (A0 s.l))) s.pages) (.g2 q1 (.g q2 (.ix (n:=h) (i:=h.toNat) (m:=s.dead.length) (e:=(by omega)) (by omega) (.el (e:=eT) (gDx (l:=s.dead) (i:=h.toNat) eT0 (by omega)) (.t4 q3 (.t2 q3 (.ix (n:=t) (i:=t.toNat) (m:=s.dead.length) (e:=(by omega)) (by omega) (.t q3 (.el (e:=eT) (gDx (l:=s.dead) (i:=t.toNat) eT0 (by omega)) (.t q3 (.t4 q4 (.t q5 (.ix (n:=h) (i:=h.toNat) (m:=s.dead.length) (e:=(by omega)) (by omega) (.sw (e:=eT) (l:=s.dead) (i:=h.toNat) (a:=true) (by omega) (.lp s.lives.length 8 [] [] (fun i=>[(66,vn i)]) (fun i=>[(1,.row eI (Lt h t s.lives i))]) (fun i hi=>(.t (sQT ((i:Int) < (s.lives.length:Int)) (by omega)) (.ix (i:=i) (m:=(Lt h t s.lives i).length) (by rw [Ky]; omega) (.el (e:=eI) (gDx (l:=Lt h t s.lives i) (i:=i) eI0 (by rw [Ky]; omega)) (.cs 0 (decide ((Lt h t s.lives i).getD i eI0=h)) 8 [] [] (fun z=>[]) (fun z=>[(1,.row eI (bif z then ((Lt h t s.lives i).set i t) else (Lt h t s.lives i)))]) (fun hq1=>(.t hq1 (.ix (i:=i) (m:=(Lt h t s.lives i).length) (by rw [Ky]; omega) (.sw (e:=eI) (l:=Lt h t s.lives i) (i:=i) (a:=t) (by rw [Ky]; omega) .nil)))) (fun hq1=>(.t hq1 .nil)) (.e 81 (Ck (a:=(i:Int)) (b:=1) (c:=((i + 1:Nat):Int)) (by omega)) .nil)))))) (.t (sQF ((s.lives.length:Int) < (s.lives.length:Int)) (by omega)) .nil)))))))))))))))))))))))
  ·rw [A1 q2] at d0 d1
   have q2':=R1 q2
   subst d0 d1
   exact so Tryz.f324 5 (ir 0 4) (.c [] (K2 h (s.dead.length:Int)) (.g4 q1 (.g2 q1 (.c [] (Nr s.l) (.g4 q1 (.g2 q1 (.c [] (K2 (IntKind.i64.wrap (t - (A0 s.l))) s.pages) (.g2 q1 (.g q2 .nil)))))))))
 ·rw [A1 q1] at d0 d1
  have q1':=R1 q1
  subst d0 d1
  exact so Tryz.f324 3 (ir 0 4) (.c [] (K2 h (s.dead.length:Int)) (.g4 q1 (.g4 q1 (.g4 q1 (.g2 q1 (.y .nil))))))
def Dx (s:MapS) (h:Int) (t:Int):MapS:=bif (Bl h (s.sp.length:Int)) then (bif (Bl (IntKind.i64.wrap (t - s.l.g.ranks)) s.rks) then (bif decide (s.sp.getD h.toNat eI0=-1) then { s with sp:=s.sp.set h.toNat t } else s) else s) else s
def Qq (s:MapS) (h:Int) (t:Int):Nat:=bif (Bl h (s.sp.length:Int)) then (bif (Bl (IntKind.i64.wrap (t - s.l.g.ranks)) s.rks) then (bif decide (s.sp.getD h.toNat eI0=-1) then 0 else 15) else 12) else 12
theorem A9d (s:MapS) (h:Int) (t:Int) :Sp P 325 [.pt 0 0,vi h,vi t] (Ge s 0) (vn (Qq s h t)) (Ge (Dx s h t) 0):=by
 generalize d0:Dx s h t=yd0
 unfold Dx at d0
 generalize d1:Qq s h t=yd1
 unfold Qq at d1
 rcases bft (Bl h (s.sp.length:Int)) with q1 | q1
 ·rw [A2 q1] at d0 d1
  have q1':=Ju q1
  rcases bft (Bl (IntKind.i64.wrap (t - s.l.g.ranks)) s.rks) with q2 | q2
  ·rw [A2 q2] at d0 d1
   have q2':=Ju q2
   rcases bft (decide (s.sp.getD h.toNat eI0=-1)) with q3 | q3
   ·rw [A2 q3] at d0 d1
    have q3':=otq q3
    subst d0 d1
    exact so Tryz.f325 4 (ir 0 4) (.c [] (K2 h (s.sp.length:Int)) (.g4 q1 (.g4 q1 (.g4 q1 (.g q1 (.c [] (K2 (IntKind.i64.wrap (t - s.l.g.ranks)) s.rks) (.g2 q1 (.g q2 (.ix (n:=h) (i:=h.toNat) (m:=s.sp.length) (e:=(by omega)) (by omega) (.el (e:=eI) (gDx (l:=s.sp) (i:=h.toNat) eI0 (by omega)) (.g q3 (.ix (n:=h) (i:=h.toNat) (m:=s.sp.length) (e:=(by omega)) (by omega) (.sw (e:=eI) (l:=s.sp) (i:=h.toNat) (a:=t) (by omega) .nil)))))))))))))
   ·rw [A1 q3] at d0 d1
    have q3':=ofq q3
    subst d0 d1
    exact so Tryz.f325 4 (ir 0 4) (.c [] (K2 h (s.sp.length:Int)) (.g4 q1 (.g4 q1 (.g4 q1 (.g q1 (.c [] (K2 (IntKind.i64.wrap (t - s.l.g.ranks)) s.rks) (.g2 q1 (.g q2 (.ix (n:=h) (i:=h.toNat) (m:=s.sp.length) (e:=(by omega)) (by omega) (.el (e:=eI) (gDx (l:=s.sp) (i:=h.toNat) eI0 (by omega)) (.g q3 .nil)))))))))))
  ·rw [A1 q2] at d0 d1
   have q2':=R1 q2
   subst d0 d1
   exact so Tryz.f325 4 (ir 0 4) (.c [] (K2 h (s.sp.length:Int)) (.g4 q1 (.g4 q1 (.g4 q1 (.g q1 (.c [] (K2 (IntKind.i64.wrap (t - s.l.g.ranks)) s.rks) (.g2 q1 (.g q2 .nil))))))))
 ·rw [A1 q1] at d0 d1
  have q1':=R1 q1
  subst d0 d1
  exact so Tryz.f325 3 (ir 0 4) (.c [] (K2 h (s.sp.length:Int)) (.g4 q1 (.g4 q1 (.g4 q1 (.g2 q1 (.g q1 (.y .nil)))))))
theorem Ug {s:MapS} (h:MapOk s):MapOk (Cy s):=by
 obtain ⟨h1,h2,h3,h4,h5,h6⟩:=h
 unfold Cy C5
 cases q:decide (s.pages=s.l.res)
 ·have q':=ofq q
  have:=C0 h1
  exact ⟨h1,h2,h3,h4,by show 0<=IntKind.i64.wrap (s.pages + 1)/\IntKind.i64.wrap (s.pages + 1)<=s.l.res; rw [D1 (by omega) (by omega)]; omega,h6⟩
 ·exact ⟨h1,h2,h3,h4,h5,h6⟩
theorem Sl {s:MapS} (h:MapOk s):MapOk (Cj s):=by
 obtain ⟨h1,h2,h3,h4,h5,h6⟩:=h
 unfold Cj Co
 cases q:decide (s.rks=s.l.g.spares)
 ·have q':=ofq q
  have:=Gm.rt (C0 h1).1
  exact ⟨h1,h2,h3,h4,h5,by show 0<=IntKind.i64.wrap (s.rks + 1)/\IntKind.i64.wrap (s.rks + 1)<=s.l.g.spares; rw [D1 (by omega) (by omega)]; omega⟩
 ·exact ⟨h1,h2,h3,h4,h5,h6⟩
theorem Acl {s:MapS} {a t:Int} (h:MapOk s):MapOk (Fh s a t):=by
 obtain ⟨h1,h2,h3,h4,h5,h6⟩:=h
 unfold Fh
 simp only [Bool.cond_eq_ite]
 repeat (first | exact ⟨h1,h2,h3,h4,h5,h6⟩ | exact ⟨h1,by rw [Ky]; exact h2,by rw [List.length_set]; exact h3,h4,h5,h6⟩ | split)
theorem A9f {s:MapS} {a t:Int} (h:MapOk s):MapOk (Dx s a t):=by
 obtain ⟨h1,h2,h3,h4,h5,h6⟩:=h
 unfold Dx
 simp only [Bool.cond_eq_ite]
 repeat (first | exact ⟨h1,h2,h3,h4,h5,h6⟩ | exact ⟨h1,h2,h3,by rw [List.length_set]; exact h4,h5,h6⟩ | split)
