import Derived.Test.YtfhiggfmkjmeiaaGreatFRep
import Derived.Test.YtfhiggfmkjmeiaaGreatFTrk
set_option linter.all false
namespace Go.Proofs.YtfhiggfmkjmeiaaGreat
open Go Go.RowKit
set_option maxRecDepth 100000
theorem Aoq {s:RepS} {a:Ak} (h:RepOk s):RepOk (Bf s a):=by
 unfold Bf
 cases D3 s a
 ·cases decide (s.j.kind=0)
  ·exact ⟨h.m,A9u h.q,h.g⟩
  ·exact T9 h
 ·exact h
theorem S6 (s:RepS) (a:Ak):(Bx s a).length<=1:=by
 unfold Bx S9
 simp only [Bool.cond_eq_ite]
 repeat (first | exact Nat.zero_le _ | exact Nat.le_refl _ | exact Nat.le_of_eq (R3 s a) | split)
theorem Xl {s:RepS} (h:RepOk s):RepOk (Cv s)/\(Cu s (L8 s)).2.length<=257:=by
 obtain ⟨h1,h2⟩:=Y2 h (Nat.le_refl (L8 s))
 constructor
 ·unfold Cv
  cases decide ((Cu s (L8 s)).1.j.kind=0)
  ·exact h1
  ·exact ⟨h1.m,Pi h1.q,h1.g⟩
 ·omega
theorem A3o {s:RepS} (h:RepOk s):RepOk (Du s)/\(Kz s).length<=257:=by
 have hs:RepOk { s with j:={ s.j with next:=IntKind.i64.wrap (s.j.next + 1) } }:=⟨h.m,h.q,h.g⟩
 constructor
 ·unfold Du
  simp only [Bool.cond_eq_ite]
  repeat (first | exact h | exact hs | exact (Xl hs).1 | split)
 ·unfold Kz
  cases decide (s.j.kind=0)
  ·cases Fc _ s.m.l
   ·exact Nat.zero_le _
   ·exact (Xl hs).2
  ·exact Nat.zero_le _
theorem Aps {l:List Pg} {room k:Int} {b:Bk} (hb:l.length<=256/\1<=room/\(l.length:Int)<=room) (hr:room<=256):(Tc l room k b).length<=256/\1<=room/\(((Tc l room k b).length:Nat):Int)<=room:=by
 unfold Tc
 cases q:decide (0<=B0 l k) with
 | true=>simp only [cond_true,List.length_set]; exact hb
 | false =>
   cases q2:decide ((l.length:Int)=room) with
   | true =>
     have:=otq q2
     have hx:=An3 l l.length
     simp only [cond_true,cond_false,List.length_append,List.length_cons,List.length_nil,List.length_eraseIdx]
     split <;> omega
   | false =>
     have:=ofq q2
     simp only [cond_false,List.length_append,List.length_cons,List.length_nil]
     omega
theorem Ajf {l:List Pg} {room k:Int} (hb:l.length<=256/\1<=room/\(l.length:Int)<=room):(Po l room k).length<=256/\1<=room/\(((Po l room k).length:Nat):Int)<=room:=by
 unfold Po
 cases q:decide (B0 l k < 0) with
 | true=>exact hb
 | false =>
   simp only [cond_false,List.length_eraseIdx]
   split <;> omega
structure LedOk (s:LedS):Prop where
 rep:RepOk s.rep
 trk:TrkOk s.trk
 room:s.trk.r.room<=256
 log:LogOk s.log
 lroom:s.log.room<=256
def A7 (s:LedS) (k:Int) (i:Int) (n:Int):LedS:={ s with log:=(Nq s.log (⟨0,s.time,k,i,n⟩:Rec)) }
theorem W8 (s:LedS) (k:Int) (i:Int) (n:Int) (ok:LedOk s):Sp P 295 [.pt 0 0,vi k,vi i,vi n] (Mb s 0) (.tu []) (Mb (A7 s k i n) 0) :=
 so Tryz.f295 3 (ir 0 14) (.c [.id 12,.id 13] (B1x s.log (⟨0,s.time,k,i,n⟩:Rec) ok.log) .nil)
theorem A5p (s:LedS) (h:Int) :Sp P 327 [.pt 0 0,vi h] (ros (Mb s 0)) (vi (IntKind.i64.wrap ((C1 s.rep.m h) * 2 ^ 6))) (ros (Mb s 0)) :=
 so Tryz.f327 3 (ir 0 14) (.c (ir 1 7) (Agf s.rep) (.c (ir 2 4) (Ann s.rep.m h) .nil))
theorem Fg {s:LedS} {k i n:Int} (ok:LedOk s):LedOk (A7 s k i n):=by
 obtain ⟨h1,h2,h3,h4,h5⟩:=ok
 refine ⟨h1,h2,h3,Asp h4 h5,?_⟩
 show (Nq s.log _).room<=256
 unfold Nq
 simp only [Bool.cond_eq_ite]
 repeat (first | exact h5 | split)
def H7 (s:LedS) (k:Int) (v:Ev):LedS:=bif decide (v.kind=6) then (bif decide (k=1) then { (A7 s v.kind (IntKind.i64.wrap ((C1 s.rep.m v.src) * 2 ^ 6)) (bif (decide (v.kind=5)) then v.goal else (IntKind.i64.wrap ((C1 s.rep.m v.goal) * 2 ^ 6)))) with trk:=(Y6 (A7 s v.kind (IntKind.i64.wrap ((C1 s.rep.m v.src) * 2 ^ 6)) (bif (decide (v.kind=5)) then v.goal else (IntKind.i64.wrap ((C1 s.rep.m v.goal) * 2 ^ 6)))).trk v.src) } else { (A7 s v.kind (IntKind.i64.wrap (v.src * 2 ^ 20)) (bif (decide (v.kind=5)) then v.goal else (IntKind.i64.wrap (v.goal * 2 ^ 20)))) with trk:=(Gj (A7 s v.kind (IntKind.i64.wrap (v.src * 2 ^ 20)) (bif (decide (v.kind=5)) then v.goal else (IntKind.i64.wrap (v.goal * 2 ^ 20)))).trk v.src) }) else (A7 s v.kind (bif (decide (k=1)) then (IntKind.i64.wrap ((C1 s.rep.m v.src) * 2 ^ 6)) else (IntKind.i64.wrap (v.src * 2 ^ 20))) (bif (decide (v.kind=5)) then v.goal else (bif (decide (k=1)) then (IntKind.i64.wrap ((C1 s.rep.m v.goal) * 2 ^ 6)) else (IntKind.i64.wrap (v.goal * 2 ^ 20)))))
theorem Axz (s:LedS) (k:Int) (v:Ev) (ok:LedOk s):Sp P 303 [.pt 0 0,vi k,.ag [vi v.kind,vi v.src,vi v.goal]] (Mb s 0) (.tu []) (Mb (H7 s k v) 0):=by
 generalize d0:H7 s k v=yd0
 unfold H7 at d0
 rcases bft (decide (v.kind=6)) with q1 | q1
 ·rw [A2 q1] at d0
  rcases bft (decide (k=1)) with q2 | q2
  ·rw [A2 q2] at d0
   subst d0
   exact so Tryz.f303 6 (ir 0 14) (.t q2 (.c (ir 0 14) (A5p s v.src) (.c (ir 0 14) (A5p s v.goal) (.cs 0 (decide (v.kind=5)) 18 [] [] (fun z=>[(7,vi (bif z then v.goal else (IntKind.i64.wrap ((C1 s.rep.m v.goal) * 2 ^ 6))))]) (fun z=>[]) (fun hq1=>(.t hq1 .nil)) (fun hq1=>(.t hq1 .nil)) (.c (ir 0 14) (W8 s v.kind (IntKind.i64.wrap ((C1 s.rep.m v.src) * 2 ^ 6)) (bif (decide (v.kind=5)) then v.goal else (IntKind.i64.wrap ((C1 s.rep.m v.goal) * 2 ^ 6))) ok) (.t2 q1 (.t q1 (.t q2 (.c (ir 8 4) (B02 (A7 s v.kind (IntKind.i64.wrap ((C1 s.rep.m v.src) * 2 ^ 6)) (bif (decide (v.kind=5)) then v.goal else (IntKind.i64.wrap ((C1 s.rep.m v.goal) * 2 ^ 6)))).trk v.src ((Fg ok).trk)) .nil)))))))))
  ·rw [A1 q2] at d0
   subst d0
   exact so Tryz.f303 4 (ir 0 14) (.t q2 (.cs 0 (decide (v.kind=5)) 16 [] [] (fun z=>[(7,vi (bif z then v.goal else (IntKind.i64.wrap (v.goal * 2 ^ 20))))]) (fun z=>[]) (fun hq1=>(.t hq1 .nil)) (fun hq1=>(.t hq1 .nil)) (.c (ir 0 14) (W8 s v.kind (IntKind.i64.wrap (v.src * 2 ^ 20)) (bif (decide (v.kind=5)) then v.goal else (IntKind.i64.wrap (v.goal * 2 ^ 20))) ok) (.t2 q1 (.t q1 (.t q2 (.t q1 (.c (ir 8 4) (Axv (A7 s v.kind (IntKind.i64.wrap (v.src * 2 ^ 20)) (bif (decide (v.kind=5)) then v.goal else (IntKind.i64.wrap (v.goal * 2 ^ 20)))).trk v.src) .nil))))))))
 ·rw [A1 q1] at d0
  subst d0
  exact so Tryz.f303 5 (ir 0 14) (.cs 0 (decide (k=1)) 16 [] [] (fun z=>[(6,vi (bif z then (IntKind.i64.wrap ((C1 s.rep.m v.src) * 2 ^ 6)) else (IntKind.i64.wrap (v.src * 2 ^ 20)))),(7,vi (bif z then (IntKind.i64.wrap ((C1 s.rep.m v.goal) * 2 ^ 6)) else (IntKind.i64.wrap (v.goal * 2 ^ 20))))]) (fun z=>[]) (fun hq1=>(.t hq1 (.c (ir 0 14) (A5p s v.src) (.c (ir 0 14) (A5p s v.goal) .nil)))) (fun hq1=>(.t hq1 .nil)) (.cs 0 (decide (v.kind=5)) 16 [] [] (fun z=>[(7,vi (bif z then v.goal else (bif (decide (k=1)) then (IntKind.i64.wrap ((C1 s.rep.m v.goal) * 2 ^ 6)) else (IntKind.i64.wrap (v.goal * 2 ^ 20)))))]) (fun z=>[]) (fun hq1=>(.t hq1 .nil)) (fun hq1=>(.t hq1 .nil)) (.c (ir 0 14) (W8 s v.kind (bif (decide (k=1)) then (IntKind.i64.wrap ((C1 s.rep.m v.src) * 2 ^ 6)) else (IntKind.i64.wrap (v.src * 2 ^ 20))) (bif (decide (v.kind=5)) then v.goal else (bif (decide (k=1)) then (IntKind.i64.wrap ((C1 s.rep.m v.goal) * 2 ^ 6)) else (IntKind.i64.wrap (v.goal * 2 ^ 20)))) ok) (.t2 q1 (.t q1 (.n (.t q1 .nil)))))))
theorem TrkOk.drop {s:TrkS} {k:Int} (h:TrkOk s):TrkOk (Y6 s k):=⟨Ajf h.pg,h.rk⟩
theorem TrkOk.reset {s:TrkS} {k:Int} (h:TrkOk s):TrkOk (Gj s k):=by
 unfold Gj
 simp only [Bool.cond_eq_ite]
 repeat (first | exact h | exact ⟨h.pg,by show (List.set _ _ _).length<=8; rw [List.length_set]; exact h.rk⟩ | split)
theorem Amv (s:TrkS) (k:Int):(Gj s k).r=s.r:=by
 unfold Gj
 simp only [Bool.cond_eq_ite]
 repeat (first | rfl | split)
theorem LedOk.drop {s:LedS} {k:Int} (h:LedOk s):LedOk { s with trk:=Y6 s.trk k }:=⟨h.rep,h.trk.drop,h.room,h.log,h.lroom⟩
theorem LedOk.reset {s:LedS} {k:Int} (h:LedOk s):LedOk { s with trk:=Gj s.trk k }:=⟨h.rep,h.trk.reset,by show (Gj s.trk k).r.room<=256; rw [Amv]; exact h.room,h.log,h.lroom⟩
theorem Aik {s:LedS} {k:Int} {v:Ev} (ok:LedOk s):LedOk (H7 s k v):=by
 have hw:∀ a b c,LedOk (A7 s a b c):=fun a b c=>Fg ok
 unfold H7
 simp only [Bool.cond_eq_ite]
 repeat (first | exact hw _ _ _ | exact LedOk.drop (hw _ _ _) | exact LedOk.reset (hw _ _ _) | split)
def Ax0 (of:Int) (v:Ev):Int:=bif decide (v.kind=3) then 1 else bif decide (v.kind=4) then 2 else bif decide (v.kind=5) then IntKind.i64.wrap (1 + v.goal) else of
def Gk (s:LedS) (of:Int) (l:List Ev):Nat->LedS
 | 0=>s
 | i + 1=>H7 (Gk s of l i) (Ax0 of (l.getD i Qb)) (l.getD i Qb)
theorem Mp {s:LedS} {of:Int} {l:List Ev} (ok:LedOk s):∀ i,LedOk (Gk s of l i)
 | 0=>ok
 | i + 1=>Aik (Mp ok i)
theorem Qn (s:LedS) (k:Int) (l:List Ev) (ok:LedOk s) (hl:l.length<=1000):Sp P 265 [.pt 0 0,vi k,.sl 14] (Mb s 0 ++ [.ro (.row eEv l)]) (.tu []) (Mb (Gk s k l l.length) 0 ++ [.ro (.row eEv l)]) :=
 so Tryz.f265 3 (ir 0 15) (.lp l.length 16 [] [] (fun i=>[(11,vn i)]) (fun i=>nb 0 (Mb (Gk s k l i) 0)) (fun i hi=>(.t (sQT ((i:Int) < (l.length:Int)) (by omega)) (.ix (i:=i) (m:=l.length) (by omega) (.el (e:=eEv) (gDx (l:=l) (i:=i) Qb (by omega)) (.cs 0 (decide ((l.getD i Qb).kind=3)) 17 [] [] (fun z=>[(8,vi (bif z then 1 else (bif (decide ((l.getD i Qb).kind=4)) then 2 else (bif (decide ((l.getD i Qb).kind=5)) then (IntKind.i64.wrap (1 + (l.getD i Qb).goal)) else k))))]) (fun z=>[]) (fun hq1=>(.t hq1 .nil)) (fun hq1=>(.t hq1 (.cs 0 (decide ((l.getD i Qb).kind=4)) 17 [] [] (fun z=>[(8,vi (bif z then 2 else (bif (decide ((l.getD i Qb).kind=5)) then (IntKind.i64.wrap (1 + (l.getD i Qb).goal)) else k)))]) (fun z=>[]) (fun hq2=>(.t hq2 .nil)) (fun hq2=>(.t hq2 (.cs 0 (decide ((l.getD i Qb).kind=5)) 17 [] [] (fun z=>[(8,vi (bif z then (IntKind.i64.wrap (1 + (l.getD i Qb).goal)) else k))]) (fun z=>[]) (fun hq3=>(.t hq3 .nil)) (fun hq3=>(.t hq3 .nil)) .nil))) .nil))) (.c (ir 0 14) (Axz (Gk s k l i) (bif (decide ((l.getD i Qb).kind=3)) then 1 else (bif (decide ((l.getD i Qb).kind=4)) then 2 else (bif (decide ((l.getD i Qb).kind=5)) then (IntKind.i64.wrap (1 + (l.getD i Qb).goal)) else k))) (l.getD i Qb) (Mp ok i)) (.e 31 (Ck (a:=(i:Int)) (b:=1) (c:=((i + 1:Nat):Int)) (by omega)) .nil))))))) (.t (sQF ((l.length:Int) < (l.length:Int)) (by omega)) .nil))
theorem TrkOk.note {s:TrkS} {k g n:Int} (h:TrkOk s) (hr:s.r.room<=256):TrkOk (Cw s k g n):=by
 unfold Cw
 simp only [Bool.cond_eq_ite]
 repeat (first | exact h | exact ⟨Aps h.pg hr,by show (List.set _ _ _).length<=8; rw [List.length_set]; exact h.rk⟩ | split)
theorem Asn (s:TrkS) (k g n:Int):(Cw s k g n).r=s.r:=by
 unfold Cw
 simp only [Bool.cond_eq_ite]
 repeat (first | rfl | split)
theorem LedOk.note {s:LedS} {k g n:Int} (h:LedOk s):LedOk { s with trk:=Cw s.trk k g n }:=⟨h.rep,h.trk.note h.room,by show (Cw s.trk k g n).r.room<=256; rw [Asn]; exact h.room,h.log,h.lroom⟩
theorem LedOk.ask {s:LedS} {a:Ak} (h:LedOk s):LedOk { s with rep:=Bf s.rep a }:=⟨Aoq h.rep,h.trk,h.room,h.log,h.lroom⟩
theorem LedOk.step {s:LedS} (h:LedOk s):LedOk { s with rep:=Du s.rep }:=⟨(A3o h.rep).1,h.trk,h.room,h.log,h.lroom⟩
theorem A4d {z:Bool} {a b:LedS} (ha:LedOk a) (hb:LedOk b):LedOk (bif z then a else b):=by cases z <;> assumption
def B9 (s:LedS) (x:Nt):LedS:=bif (Hw (A7 s 1 x.index x.vf).trk x.rank x.home 1) then (Gk { (A7 s 1 x.index x.vf) with rep:=(Bf (A7 s 1 x.index x.vf).rep (⟨1,x.home⟩:Ak)),trk:=(Cw (A7 s 1 x.index x.vf).trk x.rank x.home 1) } 1 (Bx (A7 s 1 x.index x.vf).rep (⟨1,x.home⟩:Ak)) (Bx (A7 s 1 x.index x.vf).rep (⟨1,x.home⟩:Ak)).length) else { (A7 s 1 x.index x.vf) with trk:=(Cw (A7 s 1 x.index x.vf).trk x.rank x.home 1) }
theorem Jr {s:LedS} {x:Nt} (ok:LedOk s):LedOk (B9 s x):=A4d (z:=(Hw (A7 s 1 x.index x.vf).trk x.rank x.home 1)) (a:=(Gk { (A7 s 1 x.index x.vf) with rep:=(Bf (A7 s 1 x.index x.vf).rep (⟨1,x.home⟩:Ak)),trk:=(Cw (A7 s 1 x.index x.vf).trk x.rank x.home 1) } 1 (Bx (A7 s 1 x.index x.vf).rep (⟨1,x.home⟩:Ak)) (Bx (A7 s 1 x.index x.vf).rep (⟨1,x.home⟩:Ak)).length)) (b:={ (A7 s 1 x.index x.vf) with trk:=(Cw (A7 s 1 x.index x.vf).trk x.rank x.home 1) }) (Mp (LedOk.note (s:={ (A7 s 1 x.index x.vf) with rep:=(Bf (A7 s 1 x.index x.vf).rep (⟨1,x.home⟩:Ak)) }) (LedOk.ask (s:=(A7 s 1 x.index x.vf)) (Fg ok))) _) (LedOk.note (s:=(A7 s 1 x.index x.vf)) (Fg ok))
def Fz (s:LedS) (x:Nt):LedS:=bif (Hv (A7 s 1 x.index x.vf).trk x.rank x.home 1) then (Gk { (B9 s x) with rep:=(Bf (B9 s x).rep (⟨2,x.rank⟩:Ak)) } 2 (Bx (B9 s x).rep (⟨2,x.rank⟩:Ak)) (Bx (B9 s x).rep (⟨2,x.rank⟩:Ak)).length) else (B9 s x)
theorem A5r {s:LedS} {x:Nt} (ok:LedOk s):LedOk (Fz s x):=A4d (z:=(Hv (A7 s 1 x.index x.vf).trk x.rank x.home 1)) (a:=(Gk { (B9 s x) with rep:=(Bf (B9 s x).rep (⟨2,x.rank⟩:Ak)) } 2 (Bx (B9 s x).rep (⟨2,x.rank⟩:Ak)) (Bx (B9 s x).rep (⟨2,x.rank⟩:Ak)).length)) (b:=(B9 s x)) (Mp (LedOk.ask (s:=(B9 s x)) (Jr ok)) _) (Jr ok)
def Ba (s:LedS) (x:Nt):LedS:=bif (Hw (A7 s 2 x.index 0).trk x.rank x.home s.c.rules.heavy) then (Gk { (A7 s 2 x.index 0) with rep:=(Bf (A7 s 2 x.index 0).rep (⟨1,x.home⟩:Ak)),trk:=(Cw (A7 s 2 x.index 0).trk x.rank x.home s.c.rules.heavy) } 1 (Bx (A7 s 2 x.index 0).rep (⟨1,x.home⟩:Ak)) (Bx (A7 s 2 x.index 0).rep (⟨1,x.home⟩:Ak)).length) else { (A7 s 2 x.index 0) with trk:=(Cw (A7 s 2 x.index 0).trk x.rank x.home s.c.rules.heavy) }
theorem Js {s:LedS} {x:Nt} (ok:LedOk s):LedOk (Ba s x):=A4d (z:=(Hw (A7 s 2 x.index 0).trk x.rank x.home s.c.rules.heavy)) (a:=(Gk { (A7 s 2 x.index 0) with rep:=(Bf (A7 s 2 x.index 0).rep (⟨1,x.home⟩:Ak)),trk:=(Cw (A7 s 2 x.index 0).trk x.rank x.home s.c.rules.heavy) } 1 (Bx (A7 s 2 x.index 0).rep (⟨1,x.home⟩:Ak)) (Bx (A7 s 2 x.index 0).rep (⟨1,x.home⟩:Ak)).length)) (b:={ (A7 s 2 x.index 0) with trk:=(Cw (A7 s 2 x.index 0).trk x.rank x.home s.c.rules.heavy) }) (Mp (LedOk.note (s:={ (A7 s 2 x.index 0) with rep:=(Bf (A7 s 2 x.index 0).rep (⟨1,x.home⟩:Ak)) }) (LedOk.ask (s:=(A7 s 2 x.index 0)) (Fg ok))) _) (LedOk.note (s:=(A7 s 2 x.index 0)) (Fg ok))
def G0 (s:LedS) (x:Nt):LedS:=bif (Hv (A7 s 2 x.index 0).trk x.rank x.home s.c.rules.heavy) then (Gk { (Ba s x) with rep:=(Bf (Ba s x).rep (⟨2,x.rank⟩:Ak)) } 2 (Bx (Ba s x).rep (⟨2,x.rank⟩:Ak)) (Bx (Ba s x).rep (⟨2,x.rank⟩:Ak)).length) else (Ba s x)
theorem A5s {s:LedS} {x:Nt} (ok:LedOk s):LedOk (G0 s x):=A4d (z:=(Hv (A7 s 2 x.index 0).trk x.rank x.home s.c.rules.heavy)) (a:=(Gk { (Ba s x) with rep:=(Bf (Ba s x).rep (⟨2,x.rank⟩:Ak)) } 2 (Bx (Ba s x).rep (⟨2,x.rank⟩:Ak)) (Bx (Ba s x).rep (⟨2,x.rank⟩:Ak)).length)) (b:=(Ba s x)) (Mp (LedOk.ask (s:=(Ba s x)) (Js ok)) _) (Js ok)
def Ds (s:LedS) (x:Nt):LedS:=bif decide (x.vk=0) then s else (bif decide (x.vk=1) then (Fz s x) else (bif decide (x.vk=2) then (A7 s 2 x.index 1) else (G0 s x)))
theorem Ay5 (s:LedS) (x:Nt) (ok:LedOk s):Sp P 262 [.pt 0 0,.ag [vi x.kind,vi x.vk,vi x.vf,vi x.index,vi x.home,vi x.rank]] (Mb s 0) (.tu []) (Mb (Ds s x) 0):=by
 generalize d0:Ds s x=yd0
 unfold Ds at d0
 rcases bft (decide (x.vk=0)) with q1 | q1
 ·rw [A2 q1] at d0
  subst d0
  exact so Tryz.f262 3 (ir 0 14) (.t q1 .nil)
 ·rw [A1 q1] at d0
  rcases bft (decide (x.vk=1)) with q2 | q2
  ·rw [A2 q2] at d0
   subst d0
   exact so Tryz.f262 8 (ir 0 14) (.t q1 (.t q2 (.c (ir 0 14) (W8 s 1 x.index x.vf ok) (.c (ir 8 4) (Auw (A7 s 1 x.index x.vf).trk x.rank x.home 1 ((Fg ok).trk)) (.cs 0 (Hw (A7 s 1 x.index x.vf).trk x.rank x.home 1) 19 [] [] (fun z=>[]) (fun z=>nb 0 (Mb (bif z then (Gk { (A7 s 1 x.index x.vf) with rep:=(Bf (A7 s 1 x.index x.vf).rep (⟨1,x.home⟩:Ak)),trk:=(Cw (A7 s 1 x.index x.vf).trk x.rank x.home 1) } 1 (Bx (A7 s 1 x.index x.vf).rep (⟨1,x.home⟩:Ak)) (Bx (A7 s 1 x.index x.vf).rep (⟨1,x.home⟩:Ak)).length) else { (A7 s 1 x.index x.vf) with trk:=(Cw (A7 s 1 x.index x.vf).trk x.rank x.home 1) }) 0)) (fun hq1=>(.t hq1 (.c (ir 1 7) (Age (A7 s 1 x.index x.vf).rep (⟨1,x.home⟩:Ak) ((Fg ok).rep)) (.c (ir 0 14 ++ .id 19 :: []) (Qn { (A7 s 1 x.index x.vf) with rep:=(Bf (A7 s 1 x.index x.vf).rep (⟨1,x.home⟩:Ak)),trk:=(Cw (A7 s 1 x.index x.vf).trk x.rank x.home 1) } 1 (Bx (A7 s 1 x.index x.vf).rep (⟨1,x.home⟩:Ak)) ((LedOk.note (s:={ (A7 s 1 x.index x.vf) with rep:=(Bf (A7 s 1 x.index x.vf).rep (⟨1,x.home⟩:Ak)) }) (LedOk.ask (s:=(A7 s 1 x.index x.vf)) (Fg ok)))) (Nat.le_trans (S6 _ _) (by decide))) .nil)))) (fun hq1=>(.t hq1 .nil)) (.cs 0 (Hv (A7 s 1 x.index x.vf).trk x.rank x.home 1) 19 [] [] (fun z=>[]) (fun z=>nb 0 (Mb (bif z then (Gk { (B9 s x) with rep:=(Bf (B9 s x).rep (⟨2,x.rank⟩:Ak)) } 2 (Bx (B9 s x).rep (⟨2,x.rank⟩:Ak)) (Bx (B9 s x).rep (⟨2,x.rank⟩:Ak)).length) else (B9 s x)) 0)) (fun hq1=>(.t hq1 (.c (ir 1 7) (Age (B9 s x).rep (⟨2,x.rank⟩:Ak) ((Jr ok).rep)) (.c (ir 0 14 ++ .id 19 :: []) (Qn { (B9 s x) with rep:=(Bf (B9 s x).rep (⟨2,x.rank⟩:Ak)) } 2 (Bx (B9 s x).rep (⟨2,x.rank⟩:Ak)) ((LedOk.ask (s:=(B9 s x)) (Jr ok))) (Nat.le_trans (S6 _ _) (by decide))) .nil)))) (fun hq1=>(.t hq1 .nil)) .nil))))))
  ·rw [A1 q2] at d0
   rcases bft (decide (x.vk=2)) with q3 | q3
   ·rw [A2 q3] at d0
    subst d0
    exact so Tryz.f262 3 (ir 0 14) (.t q1 (.t q2 (.t q3 (.c (ir 0 14) (W8 s 2 x.index 1 ok) .nil))))
   ·rw [A1 q3] at d0
    subst d0
    exact so Tryz.f262 8 (ir 0 14) (.t q1 (.t q2 (.t q3 (.c (ir 0 14) (W8 s 2 x.index 0 ok) (.c (ir 8 4) (Auw (A7 s 2 x.index 0).trk x.rank x.home s.c.rules.heavy ((Fg ok).trk)) (.cs 0 (Hw (A7 s 2 x.index 0).trk x.rank x.home s.c.rules.heavy) 19 [] [] (fun z=>[]) (fun z=>nb 0 (Mb (bif z then (Gk { (A7 s 2 x.index 0) with rep:=(Bf (A7 s 2 x.index 0).rep (⟨1,x.home⟩:Ak)),trk:=(Cw (A7 s 2 x.index 0).trk x.rank x.home s.c.rules.heavy) } 1 (Bx (A7 s 2 x.index 0).rep (⟨1,x.home⟩:Ak)) (Bx (A7 s 2 x.index 0).rep (⟨1,x.home⟩:Ak)).length) else { (A7 s 2 x.index 0) with trk:=(Cw (A7 s 2 x.index 0).trk x.rank x.home s.c.rules.heavy) }) 0)) (fun hq1=>(.t hq1 (.c (ir 1 7) (Age (A7 s 2 x.index 0).rep (⟨1,x.home⟩:Ak) ((Fg ok).rep)) (.c (ir 0 14 ++ .id 19 :: []) (Qn { (A7 s 2 x.index 0) with rep:=(Bf (A7 s 2 x.index 0).rep (⟨1,x.home⟩:Ak)),trk:=(Cw (A7 s 2 x.index 0).trk x.rank x.home s.c.rules.heavy) } 1 (Bx (A7 s 2 x.index 0).rep (⟨1,x.home⟩:Ak)) ((LedOk.note (s:={ (A7 s 2 x.index 0) with rep:=(Bf (A7 s 2 x.index 0).rep (⟨1,x.home⟩:Ak)) }) (LedOk.ask (s:=(A7 s 2 x.index 0)) (Fg ok)))) (Nat.le_trans (S6 _ _) (by decide))) .nil)))) (fun hq1=>(.t hq1 .nil)) (.cs 0 (Hv (A7 s 2 x.index 0).trk x.rank x.home s.c.rules.heavy) 19 [] [] (fun z=>[]) (fun z=>nb 0 (Mb (bif z then (Gk { (Ba s x) with rep:=(Bf (Ba s x).rep (⟨2,x.rank⟩:Ak)) } 2 (Bx (Ba s x).rep (⟨2,x.rank⟩:Ak)) (Bx (Ba s x).rep (⟨2,x.rank⟩:Ak)).length) else (Ba s x)) 0)) (fun hq1=>(.t hq1 (.c (ir 1 7) (Age (Ba s x).rep (⟨2,x.rank⟩:Ak) ((Js ok).rep)) (.c (ir 0 14 ++ .id 19 :: []) (Qn { (Ba s x) with rep:=(Bf (Ba s x).rep (⟨2,x.rank⟩:Ak)) } 2 (Bx (Ba s x).rep (⟨2,x.rank⟩:Ak)) ((LedOk.ask (s:=(Ba s x)) (Js ok))) (Nat.le_trans (S6 _ _) (by decide))) .nil)))) (fun hq1=>(.t hq1 .nil)) .nil)))))))
theorem Aim {s:LedS} {x:Nt} (ok:LedOk s):LedOk (Ds s x):=by
 unfold Ds
 simp only [Bool.cond_eq_ite]
 repeat (first | exact ok | exact Fg ok | exact Jr ok | exact A5r ok | exact Js ok | exact A5s ok | split)
theorem LedOk.clear {s:LedS} (h:LedOk s):LedOk { s with log:=O7 s.log }:=⟨h.rep,h.trk,h.room,Aih h.log,h.lroom⟩
theorem TrkOk.tick {s:TrkS} (h:TrkOk s):TrkOk (Lo s):=⟨by show (N2 s.r s.pages s.pages.length).length<=256/\_/\(((N2 s.r s.pages s.pages.length).length:Nat):Int)<=s.r.room; rw [Mz]; exact h.pg,by show (rkT s.r s.ranks s.ranks.length).length<=8; rw [Ko]; exact h.rk⟩
theorem LedOk.tick {s:LedS} (h:LedOk s):LedOk { s with trk:=Lo s.trk }:=⟨h.rep,h.trk.tick,h.room,h.log,h.lroom⟩
theorem LedOk.tm {s:LedS} {t:Int} (h:LedOk s):LedOk { s with time:=t }:=⟨h.rep,h.trk,h.room,h.log,h.lroom⟩
def C8 (s:LedS) (x:Nt):LedS:=bif decide (x.kind=1) then (Ds s x) else (bif decide (x.kind=2) then { s with trk:=(Lo s.trk),time:=IntKind.i64.wrap (s.time + 1) } else (bif decide (x.kind=3) then (Gk { s with rep:=(Du s.rep) } s.rep.j.kind (Kz s.rep) (Kz s.rep).length) else (bif decide (x.kind=4) then { s with log:=(O7 s.log) } else s)))
theorem Axy (s:LedS) (x:Nt) (ok:LedOk s):Sp P 204 [.pt 0 0,.ag [vi x.kind,vi x.vk,vi x.vf,vi x.index,vi x.home,vi x.rank]] (Mb s 0) (.tu []) (Mb (C8 s x) 0):=by
 generalize d0:C8 s x=yd0
 unfold C8 at d0
 rcases bft (decide (x.kind=1)) with q1 | q1
 ·rw [A2 q1] at d0
  subst d0
  exact so Tryz.f204 3 (ir 0 14) (.t q1 (.c (ir 0 14) (Ay5 s x ok) .nil))
 ·rw [A1 q1] at d0
  rcases bft (decide (x.kind=2)) with q2 | q2
  ·rw [A2 q2] at d0
   subst d0
   exact so Tryz.f204 3 (ir 0 14) (.t q1 (.t q2 (.c (ir 8 4) (B04 s.trk ok.trk) .nil)))
  ·rw [A1 q2] at d0
   rcases bft (decide (x.kind=3)) with q3 | q3
   ·rw [A2 q3] at d0
    subst d0
    exact so Tryz.f204 4 (ir 0 14) (.t q1 (.t q2 (.t q3 (.c (ir 1 7) (A3m s.rep) (.c (ir 1 7) (Ayl s.rep ok.rep) (.c (ir 0 14 ++ .id 16 :: []) (Qn { s with rep:=(Du s.rep) } s.rep.j.kind (Kz s.rep) ((LedOk.step (s:=s) ok)) (Nat.le_trans (A3o ok.rep).2 (by decide))) .nil))))))
   ·rw [A1 q3] at d0
    rcases bft (decide (x.kind=4)) with q4 | q4
    ·rw [A2 q4] at d0
     subst d0
     exact so Tryz.f204 3 (ir 0 14) (.t q1 (.t q2 (.t q3 (.t q4 (.c [.id 12,.id 13] (Axx s.log) .nil)))))
    ·rw [A1 q4] at d0
     subst d0
     exact so Tryz.f204 3 (ir 0 14) (.t q1 (.t q2 (.t q3 (.t q4 .nil))))
