import Derived.Test.YtfhiggfmkjmeiaaGreatFRep
import Derived.Test.YtfhiggfmkjmeiaaGreatFTrk
set_option linter.unusedVariables false
set_option linter.unusedSimpArgs false
set_option linter.unusedSectionVars false
namespace Go.Proofs.YtfhiggfmkjmeiaaGreat
open Go Go.RowKit
set_option maxRecDepth 100000
theorem rpAsk_ok {s:RepS} {a:Ak} (h:RepOk s):RepOk (rpAsk_s s a):=by
 unfold rpAsk_s
 cases rpVoid_v0 s a
 ·cases decide (s.j.kind=0)
  ·exact ⟨h.m,ronce_ok h.q,h.g⟩
  ·exact rpStart_ok h
 ·exact h
theorem rpAsk_len (s:RepS) (a:Ak):(rpAsk_r s a).length<=1:=by
 unfold rpAsk_r spent_r
 simp only [Bool.cond_eq_ite]
 repeat (first | exact Nat.zero_le _ | exact Nat.le_refl _ | exact Nat.le_of_eq (rpStart_len s a) | split)
theorem rpFinish_ok {s:RepS} (h:RepOk s):RepOk (rpFinish_s s)∧(finX s (finN s)).2.length<=257:=by
 obtain ⟨h1,h2⟩:=finX_ok h (Nat.le_refl (finN s))
 constructor
 ·unfold rpFinish_s
  cases decide ((finX s (finN s)).1.j.kind=0)
  ·exact h1
  ·exact ⟨h1.m,rremove_ok h1.q,h1.g⟩
 ·omega
theorem rpStep_ok {s:RepS} (h:RepOk s):RepOk (rpStep_s s)∧(rpStep_r s).length<=257:=by
 have hs:RepOk { s with j:={ s.j with next:=IntKind.i64.wrap (s.j.next + 1) } }:=⟨h.m,h.q,h.g⟩
 constructor
 ·unfold rpStep_s
  simp only [Bool.cond_eq_ite]
  repeat (first | exact h | exact hs | exact (rpFinish_ok hs).1 | split)
 ·unfold rpStep_r
  cases decide (s.j.kind=0)
  ·cases jbDone_v0 _ s.m.l
   ·exact Nat.zero_le _
   ·exact (rpFinish_ok hs).2
  ·exact Nat.zero_le _
theorem tPut_len {l:List Pg} {room k:Int} {b:Bk} (hb:l.length<=256∧1<=room∧((l.length:Nat):Int)<=room) (hr:room<=256):(tPut_l l room k b).length<=256∧1<=room∧(((tPut_l l room k b).length:Nat):Int)<=room:=by
 unfold tPut_l
 cases q:decide (0<=tindex_v0 l k) with
 | true=>simp only [cond_true,List.length_set]; exact hb
 | false =>
   cases q2:decide (((l.length:Nat):Int)=room) with
   | true =>
     have:=of_decide_eq_true q2
     have hx:=lgt_b l l.length
     simp only [cond_true,cond_false,List.length_append,List.length_cons,List.length_nil,List.length_eraseIdx]
     split <;> omega
   | false =>
     have:=of_decide_eq_false q2
     simp only [cond_false,List.length_append,List.length_cons,List.length_nil]
     omega
theorem tDrop_len {l:List Pg} {room k:Int} (hb:l.length<=256∧1<=room∧((l.length:Nat):Int)<=room):(tDrop_l l room k).length<=256∧1<=room∧(((tDrop_l l room k).length:Nat):Int)<=room:=by
 unfold tDrop_l
 cases q:decide (tindex_v0 l k < 0) with
 | true=>exact hb
 | false =>
   simp only [cond_false,List.length_eraseIdx]
   split <;> omega
structure LedOk (s:LedS):Prop where
 rep:RepOk s.rep
 trk:TrkOk s.trk
 room:s.trk.r.room<=256
 log:LogOk s.log
 lroom:s.log.room<=256
def lwrite_s (s:LedS) (k:Int) (i:Int) (n:Int):LedS:={ s with log:=(lAdd_s s.log (⟨0,s.time,k,i,n⟩:Rec)) }
theorem lwrite (s:LedS) (k:Int) (i:Int) (n:Int) (ok:LedOk s):Sp P 295 [.pt 0 0,vi k,vi i,vi n] (bLed s 0) (.tu []) (bLed (lwrite_s s k i n) 0) :=
 so Tryz.f295 3 (ir 0 14) (.c [.id 12,.id 13] (lAdd s.log (⟨0,s.time,k,i,n⟩:Rec) ok.log) .nil)
theorem lfirst (s:LedS) (h:Int) :Sp P 327 [.pt 0 0,vi h] (ros (bLed s 0)) (vi (IntKind.i64.wrap ((mlies_v0 s.rep.m h) * 2 ^ 6))) (ros (bLed s 0)) :=
 so Tryz.f327 3 (ir 0 14) (.c (ir 1 7) (rpMap s.rep) (.c (ir 2 4) (mLies s.rep.m h) .nil))
theorem lwrite_ok {s:LedS} {k i n:Int} (ok:LedOk s):LedOk (lwrite_s s k i n):=by
 obtain ⟨h1,h2,h3,h4,h5⟩:=ok
 refine ⟨h1,h2,h3,lAdd_ok h4 h5,?_⟩
 show (lAdd_s s.log _).room<=256
 unfold lAdd_s
 simp only [Bool.cond_eq_ite]
 repeat (first | exact h5 | split)
def levent_s (s:LedS) (k:Int) (v:Ev):LedS:=bif decide (v.kind=6) then (bif decide (k=1) then { (lwrite_s s v.kind (IntKind.i64.wrap ((mlies_v0 s.rep.m v.src) * 2 ^ 6)) (bif (decide (v.kind=5)) then v.goal else (IntKind.i64.wrap ((mlies_v0 s.rep.m v.goal) * 2 ^ 6)))) with trk:=(kDrop_s (lwrite_s s v.kind (IntKind.i64.wrap ((mlies_v0 s.rep.m v.src) * 2 ^ 6)) (bif (decide (v.kind=5)) then v.goal else (IntKind.i64.wrap ((mlies_v0 s.rep.m v.goal) * 2 ^ 6)))).trk v.src) } else { (lwrite_s s v.kind (IntKind.i64.wrap (v.src * 2 ^ 20)) (bif (decide (v.kind=5)) then v.goal else (IntKind.i64.wrap (v.goal * 2 ^ 20)))) with trk:=(kReset_s (lwrite_s s v.kind (IntKind.i64.wrap (v.src * 2 ^ 20)) (bif (decide (v.kind=5)) then v.goal else (IntKind.i64.wrap (v.goal * 2 ^ 20)))).trk v.src) }) else (lwrite_s s v.kind (bif (decide (k=1)) then (IntKind.i64.wrap ((mlies_v0 s.rep.m v.src) * 2 ^ 6)) else (IntKind.i64.wrap (v.src * 2 ^ 20))) (bif (decide (v.kind=5)) then v.goal else (bif (decide (k=1)) then (IntKind.i64.wrap ((mlies_v0 s.rep.m v.goal) * 2 ^ 6)) else (IntKind.i64.wrap (v.goal * 2 ^ 20)))))
theorem levent (s:LedS) (k:Int) (v:Ev) (ok:LedOk s):Sp P 303 [.pt 0 0,vi k,.ag [vi v.kind,vi v.src,vi v.goal]] (bLed s 0) (.tu []) (bLed (levent_s s k v) 0):=by
 generalize d0:levent_s s k v=yd0
 unfold levent_s at d0
 rcases bft (decide (v.kind=6)) with q1 | q1
 ·rw [cpos q1] at d0
  rcases bft (decide (k=1)) with q2 | q2
  ·rw [cpos q2] at d0
   subst d0
   exact so Tryz.f303 6 (ir 0 14) (.t q2 (.c (ir 0 14) (lfirst s v.src) (.c (ir 0 14) (lfirst s v.goal) (.cs 0 (decide (v.kind=5)) 18 [] [] (fun z=>[(7,vi (bif z then v.goal else (IntKind.i64.wrap ((mlies_v0 s.rep.m v.goal) * 2 ^ 6))))]) (fun z=>[]) (fun hq1=>(.t hq1 .nil)) (fun hq1=>(.t hq1 .nil)) (.c (ir 0 14) (lwrite s v.kind (IntKind.i64.wrap ((mlies_v0 s.rep.m v.src) * 2 ^ 6)) (bif (decide (v.kind=5)) then v.goal else (IntKind.i64.wrap ((mlies_v0 s.rep.m v.goal) * 2 ^ 6))) ok) (.t2 q1 (.t q1 (.t q2 (.c (ir 8 4) (kDrop (lwrite_s s v.kind (IntKind.i64.wrap ((mlies_v0 s.rep.m v.src) * 2 ^ 6)) (bif (decide (v.kind=5)) then v.goal else (IntKind.i64.wrap ((mlies_v0 s.rep.m v.goal) * 2 ^ 6)))).trk v.src ((lwrite_ok ok).trk)) .nil)))))))))
  ·rw [cneg q2] at d0
   subst d0
   exact so Tryz.f303 4 (ir 0 14) (.t q2 (.cs 0 (decide (v.kind=5)) 16 [] [] (fun z=>[(7,vi (bif z then v.goal else (IntKind.i64.wrap (v.goal * 2 ^ 20))))]) (fun z=>[]) (fun hq1=>(.t hq1 .nil)) (fun hq1=>(.t hq1 .nil)) (.c (ir 0 14) (lwrite s v.kind (IntKind.i64.wrap (v.src * 2 ^ 20)) (bif (decide (v.kind=5)) then v.goal else (IntKind.i64.wrap (v.goal * 2 ^ 20))) ok) (.t2 q1 (.t q1 (.t q2 (.t q1 (.c (ir 8 4) (kReset (lwrite_s s v.kind (IntKind.i64.wrap (v.src * 2 ^ 20)) (bif (decide (v.kind=5)) then v.goal else (IntKind.i64.wrap (v.goal * 2 ^ 20)))).trk v.src) .nil))))))))
 ·rw [cneg q1] at d0
  subst d0
  exact so Tryz.f303 5 (ir 0 14) (.cs 0 (decide (k=1)) 16 [] [] (fun z=>[(6,vi (bif z then (IntKind.i64.wrap ((mlies_v0 s.rep.m v.src) * 2 ^ 6)) else (IntKind.i64.wrap (v.src * 2 ^ 20)))),(7,vi (bif z then (IntKind.i64.wrap ((mlies_v0 s.rep.m v.goal) * 2 ^ 6)) else (IntKind.i64.wrap (v.goal * 2 ^ 20))))]) (fun z=>[]) (fun hq1=>(.t hq1 (.c (ir 0 14) (lfirst s v.src) (.c (ir 0 14) (lfirst s v.goal) .nil)))) (fun hq1=>(.t hq1 .nil)) (.cs 0 (decide (v.kind=5)) 16 [] [] (fun z=>[(7,vi (bif z then v.goal else (bif (decide (k=1)) then (IntKind.i64.wrap ((mlies_v0 s.rep.m v.goal) * 2 ^ 6)) else (IntKind.i64.wrap (v.goal * 2 ^ 20)))))]) (fun z=>[]) (fun hq1=>(.t hq1 .nil)) (fun hq1=>(.t hq1 .nil)) (.c (ir 0 14) (lwrite s v.kind (bif (decide (k=1)) then (IntKind.i64.wrap ((mlies_v0 s.rep.m v.src) * 2 ^ 6)) else (IntKind.i64.wrap (v.src * 2 ^ 20))) (bif (decide (v.kind=5)) then v.goal else (bif (decide (k=1)) then (IntKind.i64.wrap ((mlies_v0 s.rep.m v.goal) * 2 ^ 6)) else (IntKind.i64.wrap (v.goal * 2 ^ 20)))) ok) (.t2 q1 (.t q1 (.n (.t q1 .nil)))))))
theorem TrkOk.drop {s:TrkS} {k:Int} (h:TrkOk s):TrkOk (kDrop_s s k):=⟨tDrop_len h.pg,h.rk⟩
theorem TrkOk.reset {s:TrkS} {k:Int} (h:TrkOk s):TrkOk (kReset_s s k):=by
 unfold kReset_s
 simp only [Bool.cond_eq_ite]
 repeat (first | exact h | exact ⟨h.pg,by show (List.set _ _ _).length<=8; rw [List.length_set]; exact h.rk⟩ | split)
theorem kReset_r (s:TrkS) (k:Int):(kReset_s s k).r=s.r:=by
 unfold kReset_s
 simp only [Bool.cond_eq_ite]
 repeat (first | rfl | split)
theorem LedOk.drop {s:LedS} {k:Int} (h:LedOk s):LedOk { s with trk:=kDrop_s s.trk k }:=⟨h.rep,h.trk.drop,h.room,h.log,h.lroom⟩
theorem LedOk.reset {s:LedS} {k:Int} (h:LedOk s):LedOk { s with trk:=kReset_s s.trk k }:=⟨h.rep,h.trk.reset,by show (kReset_s s.trk k).r.room<=256; rw [kReset_r]; exact h.room,h.log,h.lroom⟩
theorem levent_ok {s:LedS} {k:Int} {v:Ev} (ok:LedOk s):LedOk (levent_s s k v):=by
 have hw:∀ a b c,LedOk (lwrite_s s a b c):=fun a b c=>lwrite_ok ok
 unfold levent_s
 simp only [Bool.cond_eq_ite]
 repeat (first | exact hw _ _ _ | exact LedOk.drop (hw _ _ _) | exact LedOk.reset (hw _ _ _) | split)
def evkind (of:Int) (v:Ev):Int:=bif decide (v.kind=3) then 1 else bif decide (v.kind=4) then 2 else bif decide (v.kind=5) then IntKind.i64.wrap (1 + v.goal) else of
def lcame (s:LedS) (of:Int) (l:List Ev):Nat->LedS
 | 0=>s
 | i + 1=>levent_s (lcame s of l i) (evkind of (l.getD i eEv0)) (l.getD i eEv0)
theorem lcame_ok {s:LedS} {of:Int} {l:List Ev} (ok:LedOk s):∀ i,LedOk (lcame s of l i)
 | 0=>ok
 | i + 1=>levent_ok (lcame_ok ok i)
theorem lcame_sp (s:LedS) (k:Int) (l:List Ev) (ok:LedOk s) (hl:l.length<=1000):Sp P 265 [.pt 0 0,vi k,.sl 14] (bLed s 0 ++ [.ro (.row eEv l)]) (.tu []) (bLed (lcame s k l l.length) 0 ++ [.ro (.row eEv l)]) :=
 so Tryz.f265 3 (ir 0 15) (.lp l.length 16 [] [] (fun i=>[(11,vn i)]) (fun i=>nb 0 (bLed (lcame s k l i) 0)) (fun i hi=>(.t (show (decide (((i:Nat):Int) < ((l.length:Nat):Int)))=true from decide_eq_true (by omega)) (.ix (i:=i) (m:=l.length) (by omega) (.el (e:=eEv) (gDx (l:=l) (i:=i) eEv0 (by omega)) (.cs 0 (decide ((l.getD i eEv0).kind=3)) 17 [] [] (fun z=>[(8,vi (bif z then 1 else (bif (decide ((l.getD i eEv0).kind=4)) then 2 else (bif (decide ((l.getD i eEv0).kind=5)) then (IntKind.i64.wrap (1 + (l.getD i eEv0).goal)) else k))))]) (fun z=>[]) (fun hq1=>(.t hq1 .nil)) (fun hq1=>(.t hq1 (.cs 0 (decide ((l.getD i eEv0).kind=4)) 17 [] [] (fun z=>[(8,vi (bif z then 2 else (bif (decide ((l.getD i eEv0).kind=5)) then (IntKind.i64.wrap (1 + (l.getD i eEv0).goal)) else k)))]) (fun z=>[]) (fun hq2=>(.t hq2 .nil)) (fun hq2=>(.t hq2 (.cs 0 (decide ((l.getD i eEv0).kind=5)) 17 [] [] (fun z=>[(8,vi (bif z then (IntKind.i64.wrap (1 + (l.getD i eEv0).goal)) else k))]) (fun z=>[]) (fun hq3=>(.t hq3 .nil)) (fun hq3=>(.t hq3 .nil)) .nil))) .nil))) (.c (ir 0 14) (levent (lcame s k l i) (bif (decide ((l.getD i eEv0).kind=3)) then 1 else (bif (decide ((l.getD i eEv0).kind=4)) then 2 else (bif (decide ((l.getD i eEv0).kind=5)) then (IntKind.i64.wrap (1 + (l.getD i eEv0).goal)) else k))) (l.getD i eEv0) (lcame_ok ok i)) (.e 31 (aAdd (a:=((i:Nat):Int)) (b:=1) (c:=((i + 1:Nat):Int)) (by omega)) .nil))))))) (.t (show (decide (((l.length:Nat):Int) < ((l.length:Nat):Int)))=false from decide_eq_false (by omega)) .nil))
theorem TrkOk.note {s:TrkS} {k g n:Int} (h:TrkOk s) (hr:s.r.room<=256):TrkOk (kNote_s s k g n):=by
 unfold kNote_s
 simp only [Bool.cond_eq_ite]
 repeat (first | exact h | exact ⟨tPut_len h.pg hr,by show (List.set _ _ _).length<=8; rw [List.length_set]; exact h.rk⟩ | split)
theorem kNote_r (s:TrkS) (k g n:Int):(kNote_s s k g n).r=s.r:=by
 unfold kNote_s
 simp only [Bool.cond_eq_ite]
 repeat (first | rfl | split)
theorem LedOk.note {s:LedS} {k g n:Int} (h:LedOk s):LedOk { s with trk:=kNote_s s.trk k g n }:=⟨h.rep,h.trk.note h.room,by show (kNote_s s.trk k g n).r.room<=256; rw [kNote_r]; exact h.room,h.log,h.lroom⟩
theorem LedOk.ask {s:LedS} {a:Ak} (h:LedOk s):LedOk { s with rep:=rpAsk_s s.rep a }:=⟨rpAsk_ok h.rep,h.trk,h.room,h.log,h.lroom⟩
theorem LedOk.step {s:LedS} (h:LedOk s):LedOk { s with rep:=rpStep_s s.rep }:=⟨(rpStep_ok h.rep).1,h.trk,h.room,h.log,h.lroom⟩
theorem bif_ok {z:Bool} {a b:LedS} (ha:LedOk a) (hb:LedOk b):LedOk (bif z then a else b):=by cases z <;> assumption
def ljudge_j1 (s:LedS) (x:Nt):LedS:=bif (kNote_v1 (lwrite_s s 1 x.index x.vf).trk x.rank x.home 1) then (lcame { (lwrite_s s 1 x.index x.vf) with rep:=(rpAsk_s (lwrite_s s 1 x.index x.vf).rep (⟨1,x.home⟩:Ak)),trk:=(kNote_s (lwrite_s s 1 x.index x.vf).trk x.rank x.home 1) } 1 (rpAsk_r (lwrite_s s 1 x.index x.vf).rep (⟨1,x.home⟩:Ak)) (rpAsk_r (lwrite_s s 1 x.index x.vf).rep (⟨1,x.home⟩:Ak)).length) else { (lwrite_s s 1 x.index x.vf) with trk:=(kNote_s (lwrite_s s 1 x.index x.vf).trk x.rank x.home 1) }
theorem ljudge_j1_ok {s:LedS} {x:Nt} (ok:LedOk s):LedOk (ljudge_j1 s x):=bif_ok (z:=(kNote_v1 (lwrite_s s 1 x.index x.vf).trk x.rank x.home 1)) (a:=(lcame { (lwrite_s s 1 x.index x.vf) with rep:=(rpAsk_s (lwrite_s s 1 x.index x.vf).rep (⟨1,x.home⟩:Ak)),trk:=(kNote_s (lwrite_s s 1 x.index x.vf).trk x.rank x.home 1) } 1 (rpAsk_r (lwrite_s s 1 x.index x.vf).rep (⟨1,x.home⟩:Ak)) (rpAsk_r (lwrite_s s 1 x.index x.vf).rep (⟨1,x.home⟩:Ak)).length)) (b:={ (lwrite_s s 1 x.index x.vf) with trk:=(kNote_s (lwrite_s s 1 x.index x.vf).trk x.rank x.home 1) }) (lcame_ok (LedOk.note (s:={ (lwrite_s s 1 x.index x.vf) with rep:=(rpAsk_s (lwrite_s s 1 x.index x.vf).rep (⟨1,x.home⟩:Ak)) }) (LedOk.ask (s:=(lwrite_s s 1 x.index x.vf)) (lwrite_ok ok))) _) (LedOk.note (s:=(lwrite_s s 1 x.index x.vf)) (lwrite_ok ok))
def ljudge_j2 (s:LedS) (x:Nt):LedS:=bif (kNote_v0 (lwrite_s s 1 x.index x.vf).trk x.rank x.home 1) then (lcame { (ljudge_j1 s x) with rep:=(rpAsk_s (ljudge_j1 s x).rep (⟨2,x.rank⟩:Ak)) } 2 (rpAsk_r (ljudge_j1 s x).rep (⟨2,x.rank⟩:Ak)) (rpAsk_r (ljudge_j1 s x).rep (⟨2,x.rank⟩:Ak)).length) else (ljudge_j1 s x)
theorem ljudge_j2_ok {s:LedS} {x:Nt} (ok:LedOk s):LedOk (ljudge_j2 s x):=bif_ok (z:=(kNote_v0 (lwrite_s s 1 x.index x.vf).trk x.rank x.home 1)) (a:=(lcame { (ljudge_j1 s x) with rep:=(rpAsk_s (ljudge_j1 s x).rep (⟨2,x.rank⟩:Ak)) } 2 (rpAsk_r (ljudge_j1 s x).rep (⟨2,x.rank⟩:Ak)) (rpAsk_r (ljudge_j1 s x).rep (⟨2,x.rank⟩:Ak)).length)) (b:=(ljudge_j1 s x)) (lcame_ok (LedOk.ask (s:=(ljudge_j1 s x)) (ljudge_j1_ok ok)) _) (ljudge_j1_ok ok)
def ljudge_j3 (s:LedS) (x:Nt):LedS:=bif (kNote_v1 (lwrite_s s 2 x.index 0).trk x.rank x.home s.c.rules.heavy) then (lcame { (lwrite_s s 2 x.index 0) with rep:=(rpAsk_s (lwrite_s s 2 x.index 0).rep (⟨1,x.home⟩:Ak)),trk:=(kNote_s (lwrite_s s 2 x.index 0).trk x.rank x.home s.c.rules.heavy) } 1 (rpAsk_r (lwrite_s s 2 x.index 0).rep (⟨1,x.home⟩:Ak)) (rpAsk_r (lwrite_s s 2 x.index 0).rep (⟨1,x.home⟩:Ak)).length) else { (lwrite_s s 2 x.index 0) with trk:=(kNote_s (lwrite_s s 2 x.index 0).trk x.rank x.home s.c.rules.heavy) }
theorem ljudge_j3_ok {s:LedS} {x:Nt} (ok:LedOk s):LedOk (ljudge_j3 s x):=bif_ok (z:=(kNote_v1 (lwrite_s s 2 x.index 0).trk x.rank x.home s.c.rules.heavy)) (a:=(lcame { (lwrite_s s 2 x.index 0) with rep:=(rpAsk_s (lwrite_s s 2 x.index 0).rep (⟨1,x.home⟩:Ak)),trk:=(kNote_s (lwrite_s s 2 x.index 0).trk x.rank x.home s.c.rules.heavy) } 1 (rpAsk_r (lwrite_s s 2 x.index 0).rep (⟨1,x.home⟩:Ak)) (rpAsk_r (lwrite_s s 2 x.index 0).rep (⟨1,x.home⟩:Ak)).length)) (b:={ (lwrite_s s 2 x.index 0) with trk:=(kNote_s (lwrite_s s 2 x.index 0).trk x.rank x.home s.c.rules.heavy) }) (lcame_ok (LedOk.note (s:={ (lwrite_s s 2 x.index 0) with rep:=(rpAsk_s (lwrite_s s 2 x.index 0).rep (⟨1,x.home⟩:Ak)) }) (LedOk.ask (s:=(lwrite_s s 2 x.index 0)) (lwrite_ok ok))) _) (LedOk.note (s:=(lwrite_s s 2 x.index 0)) (lwrite_ok ok))
def ljudge_j4 (s:LedS) (x:Nt):LedS:=bif (kNote_v0 (lwrite_s s 2 x.index 0).trk x.rank x.home s.c.rules.heavy) then (lcame { (ljudge_j3 s x) with rep:=(rpAsk_s (ljudge_j3 s x).rep (⟨2,x.rank⟩:Ak)) } 2 (rpAsk_r (ljudge_j3 s x).rep (⟨2,x.rank⟩:Ak)) (rpAsk_r (ljudge_j3 s x).rep (⟨2,x.rank⟩:Ak)).length) else (ljudge_j3 s x)
theorem ljudge_j4_ok {s:LedS} {x:Nt} (ok:LedOk s):LedOk (ljudge_j4 s x):=bif_ok (z:=(kNote_v0 (lwrite_s s 2 x.index 0).trk x.rank x.home s.c.rules.heavy)) (a:=(lcame { (ljudge_j3 s x) with rep:=(rpAsk_s (ljudge_j3 s x).rep (⟨2,x.rank⟩:Ak)) } 2 (rpAsk_r (ljudge_j3 s x).rep (⟨2,x.rank⟩:Ak)) (rpAsk_r (ljudge_j3 s x).rep (⟨2,x.rank⟩:Ak)).length)) (b:=(ljudge_j3 s x)) (lcame_ok (LedOk.ask (s:=(ljudge_j3 s x)) (ljudge_j3_ok ok)) _) (ljudge_j3_ok ok)
def ljudge_s (s:LedS) (x:Nt):LedS:=bif decide (x.vk=0) then s else (bif decide (x.vk=1) then (ljudge_j2 s x) else (bif decide (x.vk=2) then (lwrite_s s 2 x.index 1) else (ljudge_j4 s x)))
theorem ljudge (s:LedS) (x:Nt) (ok:LedOk s):Sp P 262 [.pt 0 0,.ag [vi x.kind,vi x.vk,vi x.vf,vi x.index,vi x.home,vi x.rank]] (bLed s 0) (.tu []) (bLed (ljudge_s s x) 0):=by
 generalize d0:ljudge_s s x=yd0
 unfold ljudge_s at d0
 rcases bft (decide (x.vk=0)) with q1 | q1
 ·rw [cpos q1] at d0
  subst d0
  exact so Tryz.f262 3 (ir 0 14) (.t q1 .nil)
 ·rw [cneg q1] at d0
  rcases bft (decide (x.vk=1)) with q2 | q2
  ·rw [cpos q2] at d0
   subst d0
   exact so Tryz.f262 8 (ir 0 14) (.t q1 (.t q2 (.c (ir 0 14) (lwrite s 1 x.index x.vf ok) (.c (ir 8 4) (kNote (lwrite_s s 1 x.index x.vf).trk x.rank x.home 1 ((lwrite_ok ok).trk)) (.cs 0 (kNote_v1 (lwrite_s s 1 x.index x.vf).trk x.rank x.home 1) 19 [] [] (fun z=>[]) (fun z=>nb 0 (bLed (bif z then (lcame { (lwrite_s s 1 x.index x.vf) with rep:=(rpAsk_s (lwrite_s s 1 x.index x.vf).rep (⟨1,x.home⟩:Ak)),trk:=(kNote_s (lwrite_s s 1 x.index x.vf).trk x.rank x.home 1) } 1 (rpAsk_r (lwrite_s s 1 x.index x.vf).rep (⟨1,x.home⟩:Ak)) (rpAsk_r (lwrite_s s 1 x.index x.vf).rep (⟨1,x.home⟩:Ak)).length) else { (lwrite_s s 1 x.index x.vf) with trk:=(kNote_s (lwrite_s s 1 x.index x.vf).trk x.rank x.home 1) }) 0)) (fun hq1=>(.t hq1 (.c (ir 1 7) (rpAsk (lwrite_s s 1 x.index x.vf).rep (⟨1,x.home⟩:Ak) ((lwrite_ok ok).rep)) (.c (ir 0 14 ++ .id 19 :: []) (lcame_sp { (lwrite_s s 1 x.index x.vf) with rep:=(rpAsk_s (lwrite_s s 1 x.index x.vf).rep (⟨1,x.home⟩:Ak)),trk:=(kNote_s (lwrite_s s 1 x.index x.vf).trk x.rank x.home 1) } 1 (rpAsk_r (lwrite_s s 1 x.index x.vf).rep (⟨1,x.home⟩:Ak)) ((LedOk.note (s:={ (lwrite_s s 1 x.index x.vf) with rep:=(rpAsk_s (lwrite_s s 1 x.index x.vf).rep (⟨1,x.home⟩:Ak)) }) (LedOk.ask (s:=(lwrite_s s 1 x.index x.vf)) (lwrite_ok ok)))) (Nat.le_trans (rpAsk_len _ _) (by decide))) .nil)))) (fun hq1=>(.t hq1 .nil)) (.cs 0 (kNote_v0 (lwrite_s s 1 x.index x.vf).trk x.rank x.home 1) 19 [] [] (fun z=>[]) (fun z=>nb 0 (bLed (bif z then (lcame { (ljudge_j1 s x) with rep:=(rpAsk_s (ljudge_j1 s x).rep (⟨2,x.rank⟩:Ak)) } 2 (rpAsk_r (ljudge_j1 s x).rep (⟨2,x.rank⟩:Ak)) (rpAsk_r (ljudge_j1 s x).rep (⟨2,x.rank⟩:Ak)).length) else (ljudge_j1 s x)) 0)) (fun hq1=>(.t hq1 (.c (ir 1 7) (rpAsk (ljudge_j1 s x).rep (⟨2,x.rank⟩:Ak) ((ljudge_j1_ok ok).rep)) (.c (ir 0 14 ++ .id 19 :: []) (lcame_sp { (ljudge_j1 s x) with rep:=(rpAsk_s (ljudge_j1 s x).rep (⟨2,x.rank⟩:Ak)) } 2 (rpAsk_r (ljudge_j1 s x).rep (⟨2,x.rank⟩:Ak)) ((LedOk.ask (s:=(ljudge_j1 s x)) (ljudge_j1_ok ok))) (Nat.le_trans (rpAsk_len _ _) (by decide))) .nil)))) (fun hq1=>(.t hq1 .nil)) .nil))))))
  ·rw [cneg q2] at d0
   rcases bft (decide (x.vk=2)) with q3 | q3
   ·rw [cpos q3] at d0
    subst d0
    exact so Tryz.f262 3 (ir 0 14) (.t q1 (.t q2 (.t q3 (.c (ir 0 14) (lwrite s 2 x.index 1 ok) .nil))))
   ·rw [cneg q3] at d0
    subst d0
    exact so Tryz.f262 8 (ir 0 14) (.t q1 (.t q2 (.t q3 (.c (ir 0 14) (lwrite s 2 x.index 0 ok) (.c (ir 8 4) (kNote (lwrite_s s 2 x.index 0).trk x.rank x.home s.c.rules.heavy ((lwrite_ok ok).trk)) (.cs 0 (kNote_v1 (lwrite_s s 2 x.index 0).trk x.rank x.home s.c.rules.heavy) 19 [] [] (fun z=>[]) (fun z=>nb 0 (bLed (bif z then (lcame { (lwrite_s s 2 x.index 0) with rep:=(rpAsk_s (lwrite_s s 2 x.index 0).rep (⟨1,x.home⟩:Ak)),trk:=(kNote_s (lwrite_s s 2 x.index 0).trk x.rank x.home s.c.rules.heavy) } 1 (rpAsk_r (lwrite_s s 2 x.index 0).rep (⟨1,x.home⟩:Ak)) (rpAsk_r (lwrite_s s 2 x.index 0).rep (⟨1,x.home⟩:Ak)).length) else { (lwrite_s s 2 x.index 0) with trk:=(kNote_s (lwrite_s s 2 x.index 0).trk x.rank x.home s.c.rules.heavy) }) 0)) (fun hq1=>(.t hq1 (.c (ir 1 7) (rpAsk (lwrite_s s 2 x.index 0).rep (⟨1,x.home⟩:Ak) ((lwrite_ok ok).rep)) (.c (ir 0 14 ++ .id 19 :: []) (lcame_sp { (lwrite_s s 2 x.index 0) with rep:=(rpAsk_s (lwrite_s s 2 x.index 0).rep (⟨1,x.home⟩:Ak)),trk:=(kNote_s (lwrite_s s 2 x.index 0).trk x.rank x.home s.c.rules.heavy) } 1 (rpAsk_r (lwrite_s s 2 x.index 0).rep (⟨1,x.home⟩:Ak)) ((LedOk.note (s:={ (lwrite_s s 2 x.index 0) with rep:=(rpAsk_s (lwrite_s s 2 x.index 0).rep (⟨1,x.home⟩:Ak)) }) (LedOk.ask (s:=(lwrite_s s 2 x.index 0)) (lwrite_ok ok)))) (Nat.le_trans (rpAsk_len _ _) (by decide))) .nil)))) (fun hq1=>(.t hq1 .nil)) (.cs 0 (kNote_v0 (lwrite_s s 2 x.index 0).trk x.rank x.home s.c.rules.heavy) 19 [] [] (fun z=>[]) (fun z=>nb 0 (bLed (bif z then (lcame { (ljudge_j3 s x) with rep:=(rpAsk_s (ljudge_j3 s x).rep (⟨2,x.rank⟩:Ak)) } 2 (rpAsk_r (ljudge_j3 s x).rep (⟨2,x.rank⟩:Ak)) (rpAsk_r (ljudge_j3 s x).rep (⟨2,x.rank⟩:Ak)).length) else (ljudge_j3 s x)) 0)) (fun hq1=>(.t hq1 (.c (ir 1 7) (rpAsk (ljudge_j3 s x).rep (⟨2,x.rank⟩:Ak) ((ljudge_j3_ok ok).rep)) (.c (ir 0 14 ++ .id 19 :: []) (lcame_sp { (ljudge_j3 s x) with rep:=(rpAsk_s (ljudge_j3 s x).rep (⟨2,x.rank⟩:Ak)) } 2 (rpAsk_r (ljudge_j3 s x).rep (⟨2,x.rank⟩:Ak)) ((LedOk.ask (s:=(ljudge_j3 s x)) (ljudge_j3_ok ok))) (Nat.le_trans (rpAsk_len _ _) (by decide))) .nil)))) (fun hq1=>(.t hq1 .nil)) .nil)))))))
theorem ljudge_ok {s:LedS} {x:Nt} (ok:LedOk s):LedOk (ljudge_s s x):=by
 unfold ljudge_s
 simp only [Bool.cond_eq_ite]
 repeat (first | exact ok | exact lwrite_ok ok | exact ljudge_j1_ok ok | exact ljudge_j2_ok ok | exact ljudge_j3_ok ok | exact ljudge_j4_ok ok | split)
theorem LedOk.clear {s:LedS} (h:LedOk s):LedOk { s with log:=lClear_s s.log }:=⟨h.rep,h.trk,h.room,lClear_ok h.log,h.lroom⟩
theorem TrkOk.tick {s:TrkS} (h:TrkOk s):TrkOk (kTick_s s):=⟨by show (updL s.r s.pages s.pages.length).length<=256∧_∧(((updL s.r s.pages s.pages.length).length:Nat):Int)<=s.r.room; rw [updL_len]; exact h.pg,by show (rkT s.r s.ranks s.ranks.length).length<=8; rw [rkT_len]; exact h.rk⟩
theorem LedOk.tick {s:LedS} (h:LedOk s):LedOk { s with trk:=kTick_s s.trk }:=⟨h.rep,h.trk.tick,h.room,h.log,h.lroom⟩
theorem LedOk.tm {s:LedS} {t:Int} (h:LedOk s):LedOk { s with time:=t }:=⟨h.rep,h.trk,h.room,h.log,h.lroom⟩
def lapply_s (s:LedS) (x:Nt):LedS:=bif decide (x.kind=1) then (ljudge_s s x) else (bif decide (x.kind=2) then { s with trk:=(kTick_s s.trk),time:=IntKind.i64.wrap (s.time + 1) } else (bif decide (x.kind=3) then (lcame { s with rep:=(rpStep_s s.rep) } s.rep.j.kind (rpStep_r s.rep) (rpStep_r s.rep).length) else (bif decide (x.kind=4) then { s with log:=(lClear_s s.log) } else s)))
theorem lapply (s:LedS) (x:Nt) (ok:LedOk s):Sp P 204 [.pt 0 0,.ag [vi x.kind,vi x.vk,vi x.vf,vi x.index,vi x.home,vi x.rank]] (bLed s 0) (.tu []) (bLed (lapply_s s x) 0):=by
 generalize d0:lapply_s s x=yd0
 unfold lapply_s at d0
 rcases bft (decide (x.kind=1)) with q1 | q1
 ·rw [cpos q1] at d0
  subst d0
  exact so Tryz.f204 3 (ir 0 14) (.t q1 (.c (ir 0 14) (ljudge s x ok) .nil))
 ·rw [cneg q1] at d0
  rcases bft (decide (x.kind=2)) with q2 | q2
  ·rw [cpos q2] at d0
   subst d0
   exact so Tryz.f204 3 (ir 0 14) (.t q1 (.t q2 (.c (ir 8 4) (kTick s.trk ok.trk) .nil)))
  ·rw [cneg q2] at d0
   rcases bft (decide (x.kind=3)) with q3 | q3
   ·rw [cpos q3] at d0
    subst d0
    exact so Tryz.f204 4 (ir 0 14) (.t q1 (.t q2 (.t q3 (.c (ir 1 7) (rpJob s.rep) (.c (ir 1 7) (rpStep s.rep ok.rep) (.c (ir 0 14 ++ .id 16 :: []) (lcame_sp { s with rep:=(rpStep_s s.rep) } s.rep.j.kind (rpStep_r s.rep) ((LedOk.step (s:=s) ok)) (Nat.le_trans (rpStep_ok ok.rep).2 (by decide))) .nil))))))
   ·rw [cneg q3] at d0
    rcases bft (decide (x.kind=4)) with q4 | q4
    ·rw [cpos q4] at d0
     subst d0
     exact so Tryz.f204 3 (ir 0 14) (.t q1 (.t q2 (.t q3 (.t q4 (.c [.id 12,.id 13] (lClear s.log) .nil)))))
    ·rw [cneg q4] at d0
     subst d0
     exact so Tryz.f204 3 (ir 0 14) (.t q1 (.t q2 (.t q3 (.t q4 .nil))))
end Go.Proofs.YtfhiggfmkjmeiaaGreat
