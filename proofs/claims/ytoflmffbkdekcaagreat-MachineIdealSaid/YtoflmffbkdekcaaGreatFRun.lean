import Derived.Test.YtoflmffbkdekcaaGreatFNew
namespace Go.Proofs.YtoflmffbkdekcaaGreat
open Go Go.RowKit
set_option linter.unusedVariables false
set_option linter.unusedSimpArgs false
set_option maxRecDepth 100000
theorem rawRight_t {m:Int} (h:m=1 ∨ m=2):rawRight_v0 m=true:=by rcases h with rfl | rfl <;> rfl
def mNewM_s (c:Cfg):MchS:=(⟨(cNew_s c),fun _ _=>0,[],[],0,0⟩:MchS)
theorem mNewM (c:Cfg) (hcf:cfgRight_v0 c=true):Sp P 32 [.ag [vi c.ly.g.ranks,vi c.ly.g.spares,vi c.ly.g.banks,vi c.ly.g.rows,vi c.ly.g.cols,vi c.ly.way,vi c.ly.res,vi c.mode,vi c.rules.rank.limit,vi c.rules.rank.every,vi c.rules.page.limit,vi c.rules.page.every,vi c.rules.room,vi c.rules.heavy,vi c.log,vt c.back]] [] (.tu [.pt 0 0,vn 0]) ([.blk [.pt 16 0,.pt 1 0,.mp 30,.sl 31,.sl 32,vi (mNewM_s c).scrubs,vi (mNewM_s c).steps] 122] ++ bCtl (mNewM_s c).c 1 ++ bCode 25 ++ [.mp (.ar .u8 64 (nf (fun _=>0))) (mpC (mNewM_s c).ideal),.row eInj (mNewM_s c).inj,.row eSrv (mNewM_s c).srv]):=by
 have hc:=cfg_t hcf
 generalize d0:mNewM_s c=yd0
 unfold mNewM_s at d0
 subst d0
 exact so Tryz.f32 34 (.id 32 :: ir 10 15 ++ ir 2 8 ++ ir 25 7 ++ .nil :: .nil :: []) (.c [] (dvNew_sp c.ly.g c.mode ((ly_rt hc.1).1) (rawRight_t hc.2.1)) (.n (.c (ir 2 8) (cNew c (by first | assumption | omega)) (.n .nil))))
theorem mInject_ok {n:Nat} {s:MchS} {f:Flt} (h:MchOk n s):MchOk (n + 1) (mInject_s s f):=by
 have hd:CtlOk (n + 1) { s.c with d:={ s.c.d with d:=dInject_s s.c.d.d f } }:=⟨h.c.le,vInject_ok h.c.d,h.c.md,Nat.le_succ_of_le h.c.nl,Nat.le_succ_of_le h.c.dl⟩
 unfold mInject_s
 cases decide (dInject_v0 s.c.d.d f=0)
 ·exact ⟨hd,h.id,Nat.le_succ_of_le h.il,Nat.le_succ_of_le h.sl,h.ly⟩
 ·exact ⟨hd,h.id,by show (s.inj ++ [_]).length≤n + 1; rw [List.length_append]; have:=h.il; show s.inj.length + 1≤n + 1; omega,Nat.le_succ_of_le h.sl,h.ly⟩
theorem bifM {n:Nat} {c:Bool} {a b:MchS} (ha:MchOk n a) (hb:MchOk n b):MchOk n (bif c then a else b):=by cases c <;> assumption
theorem gDev (s:MchS) :Sp P 17 [.pt 0 0] ([.ro (.blk [.pt 16 0,.pt 1 0,.mp 30,.sl 31,.sl 32,vi s.scrubs,vi s.steps] 122)] ++ ros (bCtl s.c 1) ++ ros (bCode 25) ++ [.ro (.mp (.ar .u8 64 (nf (fun _=>0))) (mpC s.ideal)),.ro (.row eInj s.inj),.ro (.row eSrv s.srv)]) (.pt 16 0) ([.ro (.blk [.pt 16 0,.pt 1 0,.mp 30,.sl 31,.sl 32,vi s.scrubs,vi s.steps] 122)] ++ ros (bCtl s.c 1) ++ ros (bCode 25) ++ [.ro (.mp (.ar .u8 64 (nf (fun _=>0))) (mpC s.ideal)),.ro (.row eInj s.inj),.ro (.row eSrv s.srv)]) :=
 so Tryz.f17 3 (ir 0 33) .nil
theorem gIdeal (s:MchS) (n:Int) :Sp P 26 [.pt 0 0,vi n] ([.ro (.blk [.pt 16 0,.pt 1 0,.mp 30,.sl 31,.sl 32,vi s.scrubs,vi s.steps] 122)] ++ ros (bCtl s.c 1) ++ ros (bCode 25) ++ [.ro (.mp (.ar .u8 64 (nf (fun _=>0))) (mpC s.ideal)),.ro (.row eInj s.inj),.ro (.row eSrv s.srv)]) (.ar .u8 64 (nf (s.ideal n))) ([.ro (.blk [.pt 16 0,.pt 1 0,.mp 30,.sl 31,.sl 32,vi s.scrubs,vi s.steps] 122)] ++ ros (bCtl s.c 1) ++ ros (bCode 25) ++ [.ro (.mp (.ar .u8 64 (nf (fun _=>0))) (mpC s.ideal)),.ro (.row eInj s.inj),.ro (.row eSrv s.srv)]) :=
 so Tryz.f26 3 (ir 0 33) .nil
theorem bifE {α β:Type} {f:α→β} {c:Bool} {a b:α} {y:β} (ha:f a=y) (hb:f b=y):f (bif c then a else b)=y:=by cases c <;> assumption
theorem cput_c (s:CtlS) (i:Int) (l:Nat→Nat) (b:Bool):(cput_s s i l b).le.c=s.le.c:=by cases b <;> rfl
theorem cnote_c (s:CtlS) (x:Nt):(cnote_s s x).le.c=s.le.c:=lapply_c s.le x
theorem ctake_c (s:CtlS) (i h r:Int):(ctake_s s i h r).le.c=s.le.c:=lapply_c s.le _
theorem cread_c (s:CtlS) (i:Int) (b:Bool):(cread_s s i b).le.c=s.le.c:=by
 unfold cread_s
 exact bifE (f:=fun s:CtlS=>s.le.c) (bifE (f:=fun s:CtlS=>s.le.c) (bifE (f:=fun s:CtlS=>s.le.c) ((cput_c _ _ _ _).trans (ctake_c _ _ _ _)) (ctake_c _ _ _ _)) (ctake_c _ _ _ _)) rfl
theorem cMasked_c (s:CtlS) (i:Int) (l:List Nat) (m:Nat):(cMasked_s s i l m).le.c=s.le.c:=by
 unfold cMasked_s
 exact bifE (f:=fun s:CtlS=>s.le.c) (bifE (f:=fun s:CtlS=>s.le.c) rfl (bifE (f:=fun s:CtlS=>s.le.c) (cput_c _ _ _ _) (bifE (f:=fun s:CtlS=>s.le.c) ((cput_c _ _ _ _).trans (ctake_c _ _ _ _)) ((cput_c _ _ _ _).trans (ctake_c _ _ _ _))))) rfl
theorem cScrub_c (s:CtlS):(cScrub_s s).le.c=s.le.c:=cread_c _ _ _
theorem ccopy_j1_c (s:CtlS):(ccopy_j1 s).le.c=s.le.c:=by
 unfold ccopy_j1
 exact bifE (f:=fun s:CtlS=>s.le.c) ((cput_c _ _ _ _).trans (ctake_c _ _ _ _)) (cput_c _ _ _ _)
theorem cCopy_c (s:CtlS):(cCopy_s s).le.c=s.le.c:=by
 unfold cCopy_s
 exact bifE (f:=fun s:CtlS=>s.le.c) ((cnote_c _ _).trans (ccopy_j1_c s)) rfl
theorem cTick_c (s:CtlS):(cTick_s s).le.c=s.le.c:=by
 unfold cTick_s
 exact bifE (f:=fun s:CtlS=>s.le.c) rfl (cnote_c _ _)
theorem upZ_lt {c:Int→Nat→Nat} {k:Int} {r:Nat→Nat} (hc:∀ k j,c k j < 256) (hr:∀ j,r j < 256) (i:Int) (j:Nat):upZ c k r i j < 256:=by
 unfold upZ; split
 ·exact hr j
 ·exact hc i j
theorem mch_req {n:Nat} {s:MchS} {c:CtlS} {id:Int→Nat→Nat} {sv:List Srv} {st:Int} (h:MchOk n s) (hc:CtlOk (n + 3) c) (hl:c.le.c=s.c.le.c) (hid:∀ k j,id k j < 256) (hs:sv.length≤s.srv.length + 1):MchOk (n + 4) ⟨c,id,s.inj,sv,s.scrubs,st⟩ :=
 ⟨hc.mono (by omega),hid,Nat.le_trans h.il (by show n≤n + 4; omega),by have:=h.sl; show sv.length≤n + 4; omega,by show lyRight_v0 c.le.c.ly=true; rw [hl]; exact h.ly⟩
theorem appL {α:Type} (l:List α) (x:α):(l ++ [x]).length≤l.length + 1:=by rw [List.length_append]; exact Nat.le_refl _
theorem mRequest_ok {n:Nat} {s:MchS} {x:Stp} (h:MchOk n s) (hx:StpOk x):MchOk (n + 4) (mRequest_s s x):=by
 have hm:∀ m j,mgF (s.ideal x.line) x.data m j < 256:=fun m j=>mgF_lt (h.id _) hx.d m j
 have hB:B8 (arL x.data 64 0):=arL_B8 hx.d 64 0
 have r1:=fun (sv:List Srv) (hs:sv.length≤s.srv.length + 1)=>mch_req (c:=cread_s s.c x.line s.c.le.c.back) (st:=s.steps) h (cread_ok h.c) (cread_c _ _ _) h.id hs
 have r2:=fun (m:Nat) (id:Int→Nat→Nat) (hid:∀ k j,id k j < 256) (sv:List Srv) (hs:sv.length≤s.srv.length + 1)=>mch_req (c:=cMasked_s s.c x.line (arL x.data 64 0) m) (st:=s.steps) h (cMasked_ok h.c hB) (cMasked_c _ _ _ _) hid hs
 unfold mRequest_s
 exact bifM (bifM (r1 _ (Nat.le_succ _)) (r1 _ (appL _ _))) (bifM (bifM (r2 _ _ h.id _ (Nat.le_succ _)) (r2 _ _ (upZ_lt h.id (hm _)) _ (appL _ _))) (bifM (r2 _ _ h.id _ (Nat.le_succ _)) (r2 _ _ (upZ_lt h.id (hm _)) _ (appL _ _))))
theorem mch_ctl {n:Nat} {s:MchS} {c:CtlS} {a b:Int} (h:MchOk n s) (hc:CtlOk (n + 4) c) (hl:c.le.c=s.c.le.c):MchOk (n + 4) ⟨c,s.ideal,s.inj,s.srv,a,b⟩ :=
 ⟨hc,h.id,Nat.le_trans h.il (by omega),Nat.le_trans h.sl (by omega),by show lyRight_v0 c.le.c.ly=true; rw [hl]; exact h.ly⟩
theorem mDo_ok {n:Nat} {s:MchS} {x:Stp} (h:MchOk n s) (hx:StpOk x):MchOk (n + 4) (mDo_s s x):=by
 have h1:MchOk n { s with steps:=IntKind.i64.wrap (s.steps + 1) }:=⟨h.c,h.id,h.il,h.sl,h.ly⟩
 unfold mDo_s
 exact bifM (bifM (mch_ctl h (cScrub_ok h.c) (cScrub_c _)) (bifM (mch_ctl h (cCopy_ok h.c) (cCopy_c _)) (bifM (mch_ctl h (cTick_ok h.c) (cTick_c _)) (bifM (mch_ctl h ((cnote_ok h.c).mono (by omega)) (cnote_c _ _)) (bifM ((mInject_ok h1).mono (by omega)) (mRequest_ok h1 hx)))))) (h.mono (by omega))
def mAns (s:MchS) (x:Stp):Ans:=⟨mDo_v0 s x,mDo_v1 s x,mDo_v2 s x⟩
def mrS (s:MchS) (l:List Stp):Nat→MchS
 | 0=>s
 | i + 1=>mDo_s (mrS s l i) (l.getD i eStp0)
def mrA (s:MchS) (l:List Stp):Nat→List Ans
 | 0=>[]
 | i + 1=>mrA s l i ++ [mAns (mrS s l i) (l.getD i eStp0)]
theorem mrA_len (s:MchS) (l:List Stp):∀ i,(mrA s l i).length=i
 | 0=>rfl
 | i + 1=>by rw [mrA,List.length_append,mrA_len s l i]; rfl
theorem stp_at {l:List Stp} (h:∀ x ∈ l,StpOk x) {i:Nat} (hi:i < l.length):StpOk (l.getD i eStp0):=h _ (gDm eStp0 hi)
theorem mrS_ok {n:Nat} {s:MchS} {l:List Stp} (h:MchOk n s) (hl:∀ x ∈ l,StpOk x):∀ {i},i≤l.length→MchOk (n + 4 * i) (mrS s l i)
 | 0,_=>h
 | i + 1,hi=>(mDo_ok (mrS_ok h hl (Nat.le_of_succ_le hi)) (stp_at hl hi)).mono (by omega)
theorem mRun (s:MchS) (l:List Stp) (ok:MchOk 90000000 s) (hs:∀ x ∈ l,StpOk x) (hl:l.length≤1000):Sp P 25 [.pt 0 0,.sl 33] ([.blk [.pt 16 0,.pt 1 0,.mp 30,.sl 31,.sl 32,vi s.scrubs,vi s.steps] 122] ++ bCtl s.c 1 ++ ros (bCode 25) ++ [.mp (.ar .u8 64 (nf (fun _=>0))) (mpC s.ideal),.row eInj s.inj,.row eSrv s.srv,.ro (.row eStp l)]) (.sl 34) ([.blk [.pt 16 0,.pt 1 0,.mp 30,.sl 31,.sl 32,vi (mrS s l l.length).scrubs,vi (mrS s l l.length).steps] 122] ++ bCtl (mrS s l l.length).c 1 ++ ros (bCode 25) ++ [.mp (.ar .u8 64 (nf (fun _=>0))) (mpC (mrS s l l.length).ideal),.row eInj (mrS s l l.length).inj,.row eSrv (mrS s l l.length).srv,.ro (.row eStp l),.row eAns (mrA s l l.length)]) :=
 so Tryz.f25 6 (ir 0 34 ++ .id 35 :: []) (.lp l.length 36 [(35,.nil)] [(35,.id 38)] (fun i=>[(10,vn i),(5,.sl 35)]) (fun i=>[(0,.blk [.pt 16 0,.pt 1 0,.mp 30,.sl 31,.sl 32,vi (mrS s l i).scrubs,vi (mrS s l i).steps] 122)] ++ nb 1 (bCtl (mrS s l i).c 1) ++ [(25,.ro (.blk [.pt 26 0,.pt 27 0] 277)),(26,.ro (hC)),(27,.ro (.blk [.pt 28 0,.sl 29] 357)),(28,.ro (gF)),(29,.ro (.row eB gen)),(30,.mp (.ar .u8 64 (nf (fun _=>0))) (mpC (mrS s l i).ideal)),(31,.row eInj (mrS s l i).inj),(32,.row eSrv (mrS s l i).srv),(35,.row eAns (mrA s l i))]) (fun i hi=>(.t (show (decide (((i:Nat):Int) < ((l.length:Nat):Int)))=true from decide_eq_true (by omega)) (.ix (i:=i) (m:=l.length) (by omega) (.el (e:=eStp) (gDx (l:=l) (i:=i) eStp0 (by omega)) (.c (ir 0 33) (mDo (mrS s l i) (l.getD i eStp0) ((mrS_ok ok hs (Nat.le_of_lt hi)).mono (by omega)) (stp_at hs hi)) (.ap (e:=eAns) (l:=mrA s l i) (l':=[(⟨mDo_v0 (mrS s l i) (l.getD i eStp0),mDo_v1 (mrS s l i) (l.getD i eStp0),mDo_v2 (mrS s l i) (l.getD i eStp0)⟩:Ans)]) .row (.flat [vi (mDo_v0 (mrS s l i) (l.getD i eStp0)),vi (mDo_v1 (mrS s l i) (l.getD i eStp0)),.ar .u8 64 (nf (mDo_v2 (mrS s l i) (l.getD i eStp0)))] [(⟨mDo_v0 (mrS s l i) (l.getD i eStp0),mDo_v1 (mrS s l i) (l.getD i eStp0),mDo_v2 (mrS s l i) (l.getD i eStp0)⟩:Ans)] rfl) (by rw [mrA_len]; simp only [List.length_cons,List.length_nil]; omega) (.e 20 (aAdd (a:=((i:Nat):Int)) (b:=1) (c:=((i + 1:Nat):Int)) (by omega)) .nil))))))) (.t (show (decide (((l.length:Nat):Int) < ((l.length:Nat):Int)))=false from decide_eq_false (by omega)) .nil))
end Go.Proofs.YtoflmffbkdekcaaGreat
