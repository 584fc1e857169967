import Derived.Test.YtfhiggfmkjmeiaaGreatFBkt
import Derived.Test.YtfhiggfmkjmeiaaGreatFxX
set_option linter.unusedVariables false
set_option linter.unusedSimpArgs false
set_option linter.unusedSectionVars false
namespace Go.Proofs.YtfhiggfmkjmeiaaGreat
open Go Go.RowKit
set_option maxRecDepth 100000
abbrev ros (l:List B):List B:=l.map B.ro
structure Ly where
 g:Gm
 way:Int
 res:Int
structure Jb where
 kind:Int
 src:Int
 goal:Int
 next:Int
structure Ak where
 kind:Int
 which:Int
structure Ev where
 kind:Int
 src:Int
 goal:Int
structure Pg where
 k:Int
 b:Bk
structure Rls where
 rank:Rl
 page:Rl
 room:Int
 heavy:Int
structure Rec where
 seq:Int
 time:Int
 kind:Int
 index:Int
 info:Int
structure Cfg where
 ly:Ly
 mode:Int
 rules:Rls
 log:Int
 back:Bool
structure Nt where
 kind:Int
 vk:Int
 vf:Int
 index:Int
 home:Int
 rank:Int
structure Acc where
 write:Bool
 index:Int
 went:Int
 drop:Bool
 exp:Int
 mark:Bool
def eI:Enc Int:=⟨fun a=>[vi a],3,1,fun a=>⟨rfl,rfl,rfl⟩⟩
def eI0:Int:=0
def eT:Enc Bool:=⟨fun a=>[vt a],4,1,fun a=>⟨rfl,rfl,rfl⟩⟩
def eT0:Bool:=false
def eAk:Enc Ak:=⟨fun a=>[vi a.kind,vi a.which],335,2,fun a=>⟨rfl,rfl,rfl⟩⟩
def eAk0:Ak:=⟨0,0⟩
def eEv:Enc Ev:=⟨fun a=>[vi a.kind,vi a.src,vi a.goal],442,3,fun a=>⟨rfl,rfl,rfl⟩⟩
def eEv0:Ev:=⟨0,0,0⟩
def eBk:Enc Bk:=⟨fun a=>[vi a.level,vi a.age],71,2,fun a=>⟨rfl,rfl,rfl⟩⟩
def eBk0:Bk:=⟨0,0⟩
def ePg:Enc Pg:=⟨fun a=>[vi a.k,vi a.b.level,vi a.b.age],324,3,fun a=>⟨rfl,rfl,rfl⟩⟩
def ePg0:Pg:=⟨0,⟨0,0⟩⟩
def eRec:Enc Rec:=⟨fun a=>[vi a.seq,vi a.time,vi a.kind,vi a.index,vi a.info],192,5,fun a=>⟨rfl,rfl,rfl⟩⟩
def eRec0:Rec:=⟨0,0,0,0,0⟩
def eNt:Enc Nt:=⟨fun a=>[vi a.kind,vi a.vk,vi a.vf,vi a.index,vi a.home,vi a.rank],98,6,fun a=>⟨rfl,rfl,rfl⟩⟩
def eAcc:Enc Acc:=⟨fun a=>[vt a.write,vi a.index,vi a.went,vt a.drop,vi a.exp,vt a.mark],287,6,fun a=>⟨rfl,rfl,rfl⟩⟩
def eAcc0:Acc:=⟨false,0,0,false,0,false⟩
structure MapS where
 l:Ly
 lives:List Int
 dead:List Bool
 sp:List Int
 pages:Int
 rks:Int
structure RgS where
 l:List Ak
 at':Int
 n:Int
structure RepS where
 m:MapS
 j:Jb
 q:RgS
structure TrkS where
 r:Rls
 ranks:List Bk
 pages:List Pg
structure LogS where
 l:List Rec
 room:Int
 next:Int
 lost:Bool
structure LedS where
 c:Cfg
 rep:RepS
 trk:TrkS
 log:LogS
 time:Int
structure DramS where
 g:Gm
 mode:Int
 c:Int->Nat->Nat
 la:List FltN
 co:List FltN
structure DevS where
 d:DramS
 gh:Int->Nat->Nat
 mks:Int->Int
 l:List Acc
abbrev bMap (s:MapS) (b:Nat):List B:=[.blk [vi s.l.g.ranks,vi s.l.g.spares,vi s.l.g.banks,vi s.l.g.rows,vi s.l.g.cols,vi s.l.way,vi s.l.res,.sl (b + 1),.sl (b + 2),.sl (b + 3),vi s.pages,vi s.rks] 185,.row eI s.lives,.row eT s.dead,.row eI s.sp]
abbrev bRing (s:RgS) (b:Nat):List B:=[.blk [.sl (b + 1),vi s.at',vi s.n] 403,.row eAk s.l]
abbrev bRep (s:RepS) (b:Nat):List B:=[.blk [.pt (b + 1) 0,vi s.j.kind,vi s.j.src,vi s.j.goal,vi s.j.next,.pt (b + 5) 0] 181,.blk [vi s.m.l.g.ranks,vi s.m.l.g.spares,vi s.m.l.g.banks,vi s.m.l.g.rows,vi s.m.l.g.cols,vi s.m.l.way,vi s.m.l.res,.sl (b + 2),.sl (b + 3),.sl (b + 4),vi s.m.pages,vi s.m.rks] 185,.row eI s.m.lives,.row eT s.m.dead,.row eI s.m.sp,.blk [.sl (b + 6),vi s.q.at',vi s.q.n] 403,.row eAk s.q.l]
abbrev bTrk (s:TrkS) (b:Nat):List B:=[.blk [vi s.r.rank.limit,vi s.r.rank.every,vi s.r.page.limit,vi s.r.page.every,vi s.r.room,vi s.r.heavy,.sl (b + 1),.pt (b + 2) 0] 224,.row eBk s.ranks,.blk [.sl (b + 3),vi s.r.room,.fn (.func 238) [] []] 322,.row ePg s.pages]
abbrev bLog (s:LogS) (b:Nat):List B:=[.blk [.sl (b + 1),vi s.room,vi s.next,vt s.lost] 221,.row eRec s.l]
abbrev bLed (s:LedS) (b:Nat):List B:=[.blk [vi s.c.ly.g.ranks,vi s.c.ly.g.spares,vi s.c.ly.g.banks,vi s.c.ly.g.rows,vi s.c.ly.g.cols,vi s.c.ly.way,vi s.c.ly.res,vi s.c.mode,vi s.c.rules.rank.limit,vi s.c.rules.rank.every,vi s.c.rules.page.limit,vi s.c.rules.page.every,vi s.c.rules.room,vi s.c.rules.heavy,vi s.c.log,vt s.c.back,.pt (b + 1) 0,.pt (b + 8) 0,.pt (b + 12) 0,vi s.time] 178,.blk [.pt (b + 2) 0,vi s.rep.j.kind,vi s.rep.j.src,vi s.rep.j.goal,vi s.rep.j.next,.pt (b + 6) 0] 181,.blk [vi s.rep.m.l.g.ranks,vi s.rep.m.l.g.spares,vi s.rep.m.l.g.banks,vi s.rep.m.l.g.rows,vi s.rep.m.l.g.cols,vi s.rep.m.l.way,vi s.rep.m.l.res,.sl (b + 3),.sl (b + 4),.sl (b + 5),vi s.rep.m.pages,vi s.rep.m.rks] 185,.row eI s.rep.m.lives,.row eT s.rep.m.dead,.row eI s.rep.m.sp,.blk [.sl (b + 7),vi s.rep.q.at',vi s.rep.q.n] 403,.row eAk s.rep.q.l,.blk [vi s.trk.r.rank.limit,vi s.trk.r.rank.every,vi s.trk.r.page.limit,vi s.trk.r.page.every,vi s.trk.r.room,vi s.trk.r.heavy,.sl (b + 9),.pt (b + 10) 0] 224,.row eBk s.trk.ranks,.blk [.sl (b + 11),vi s.trk.r.room,.fn (.func 238) [] []] 322,.row ePg s.trk.pages,.blk [.sl (b + 13),vi s.log.room,vi s.log.next,vt s.log.lost] 221,.row eRec s.log.l]
abbrev bDram (s:DramS) (b:Nat):List B:=[.blk [vi s.g.ranks,vi s.g.spares,vi s.g.banks,vi s.g.rows,vi s.g.cols,vi s.mode,.mp (b + 1),.sl (b + 2),.sl (b + 3)] 208,.mp (.ar .u8 72 (nf (fun _=>0))) (mpB s.c),.row eF s.la,.row eF s.co]
abbrev bDev (s:DevS) (b:Nat):List B:=[.blk [.pt (b + 4) 0,.mp (b + 1),.mp (b + 2),.sl (b + 3)] 203,.mp (.ar .u8 72 (nf (fun _=>0))) (mpB s.gh),.mp (vn 0) (mpI s.mks),.row eAcc s.l,.blk [vi s.d.g.ranks,vi s.d.g.spares,vi s.d.g.banks,vi s.d.g.rows,vi s.d.g.cols,vi s.d.mode,.mp (b + 5),.sl (b + 6),.sl (b + 7)] 208,.mp (.ar .u8 72 (nf (fun _=>0))) (mpB s.d.c),.row eF s.d.la,.row eF s.d.co]
structure CtlS where
 le:LedS
 d:DevS
 cur:Int
 notes:List Nt
abbrev bCtl (s:CtlS) (b:Nat):List B:=[.blk [.pt (b + 1) 0,.pt (b + 15) 0,.pt (b + 24) 0,vi s.cur,.sl (b + 23)] 176,.blk [vi s.le.c.ly.g.ranks,vi s.le.c.ly.g.spares,vi s.le.c.ly.g.banks,vi s.le.c.ly.g.rows,vi s.le.c.ly.g.cols,vi s.le.c.ly.way,vi s.le.c.ly.res,vi s.le.c.mode,vi s.le.c.rules.rank.limit,vi s.le.c.rules.rank.every,vi s.le.c.rules.page.limit,vi s.le.c.rules.page.every,vi s.le.c.rules.room,vi s.le.c.rules.heavy,vi s.le.c.log,vt s.le.c.back,.pt (b + 2) 0,.pt (b + 9) 0,.pt (b + 13) 0,vi s.le.time] 178,.blk [.pt (b + 3) 0,vi s.le.rep.j.kind,vi s.le.rep.j.src,vi s.le.rep.j.goal,vi s.le.rep.j.next,.pt (b + 7) 0] 181,.blk [vi s.le.rep.m.l.g.ranks,vi s.le.rep.m.l.g.spares,vi s.le.rep.m.l.g.banks,vi s.le.rep.m.l.g.rows,vi s.le.rep.m.l.g.cols,vi s.le.rep.m.l.way,vi s.le.rep.m.l.res,.sl (b + 4),.sl (b + 5),.sl (b + 6),vi s.le.rep.m.pages,vi s.le.rep.m.rks] 185,.row eI s.le.rep.m.lives,.row eT s.le.rep.m.dead,.row eI s.le.rep.m.sp,.blk [.sl (b + 8),vi s.le.rep.q.at',vi s.le.rep.q.n] 403,.row eAk s.le.rep.q.l,.blk [vi s.le.trk.r.rank.limit,vi s.le.trk.r.rank.every,vi s.le.trk.r.page.limit,vi s.le.trk.r.page.every,vi s.le.trk.r.room,vi s.le.trk.r.heavy,.sl (b + 10),.pt (b + 11) 0] 224,.row eBk s.le.trk.ranks,.blk [.sl (b + 12),vi s.le.trk.r.room,.fn (.func 238) [] []] 322,.row ePg s.le.trk.pages,.blk [.sl (b + 14),vi s.le.log.room,vi s.le.log.next,vt s.le.log.lost] 221,.row eRec s.le.log.l,.blk [.pt (b + 19) 0,.mp (b + 16),.mp (b + 17),.sl (b + 18)] 203,.mp (.ar .u8 72 (nf (fun _=>0))) (mpB s.d.gh),.mp (vn 0) (mpI s.d.mks),.row eAcc s.d.l,.blk [vi s.d.d.g.ranks,vi s.d.d.g.spares,vi s.d.d.g.banks,vi s.d.d.g.rows,vi s.d.d.g.cols,vi s.d.d.mode,.mp (b + 20),.sl (b + 21),.sl (b + 22)] 208,.mp (.ar .u8 72 (nf (fun _=>0))) (mpB s.d.d.c),.row eF s.d.d.la,.row eF s.d.d.co,.row eNt s.notes]
structure Stp where
 kind:Int
 line:Int
 data:Nat->Nat
 mask:Nat
 f:Flt
structure Ans where
 e:Int
 n:Int
 line:Nat->Nat
structure Inj where
 f:Flt
 scrubs:Int
 access:Int
structure Srv where
 step:Stp
 ans:Ans
 want:Nat->Nat
 first:Int
 last:Int
structure MchS where
 c:CtlS
 ideal:Int->Nat->Nat
 inj:List Inj
 srv:List Srv
 scrubs:Int
 steps:Int
def eStp:Enc Stp:=⟨fun a=>[vi a.kind,vi a.line,.ar .u8 64 (nf a.data),vu a.mask,vi a.f.kind,vi a.f.rank,vi a.f.bank,vi a.f.row,vi a.f.col,vi a.f.chip,vi a.f.bit,vi a.f.value],50,75,fun a=>⟨rfl,rfl,rfl⟩⟩
def eStp0:Stp:=⟨0,0,(fun _=>0),0,⟨0,0,0,0,0,0,0,0⟩⟩
def eAns:Enc Ans:=⟨fun a=>[vi a.e,vi a.n,.ar .u8 64 (nf a.line)],68,66,fun a=>⟨rfl,rfl,rfl⟩⟩
def eInj:Enc Inj:=⟨fun a=>[vi a.f.kind,vi a.f.rank,vi a.f.bank,vi a.f.row,vi a.f.col,vi a.f.chip,vi a.f.bit,vi a.f.value,vi a.scrubs,vi a.access],249,10,fun a=>⟨rfl,rfl,rfl⟩⟩
def eSrv:Enc Srv:=⟨fun a=>[vi a.step.kind,vi a.step.line,.ar .u8 64 (nf a.step.data),vu a.step.mask,vi a.step.f.kind,vi a.step.f.rank,vi a.step.f.bank,vi a.step.f.row,vi a.step.f.col,vi a.step.f.chip,vi a.step.f.bit,vi a.step.f.value,vi a.ans.e,vi a.ans.n,.ar .u8 64 (nf a.ans.line),.ar .u8 64 (nf a.want),vi a.first,vi a.last],162,207,fun a=>⟨rfl,rfl,rfl⟩⟩
def eSrv0:Srv:=⟨⟨0,0,(fun _=>0),0,⟨0,0,0,0,0,0,0,0⟩⟩,⟨0,0,(fun _=>0)⟩,(fun _=>0),0,0⟩
theorem powB_t {n m:Int} (h:powB n m=true):1<=n∧n<=m:=by
 unfold powB at h
 simp only [Bool.and_eq_true,decide_eq_true_eq] at h
 exact ⟨h.1,h.2.1⟩
theorem wrap_ok {x:Int} (h1:-9223372036854775808<=x) (h2:x<=9223372036854775807):IntKind.i64.wrap x=x:=i64ok ⟨h1,h2⟩
theorem Gm.rt {g:Gm} (h:g.right=true):(1<=g.ranks∧g.ranks<=8)∧(0<=g.spares∧g.ranks + g.spares<=8)∧(1<=g.banks∧g.banks<=16)∧(1<=g.rows∧g.rows<=1024)∧(1<=g.cols∧g.cols<=64):=by
 unfold Gm.right at h
 simp only [Bool.and_eq_true,decide_eq_true_eq] at h
 obtain ⟨h1,h2,h3,h4,h5,h6,_⟩:=h
 have h1:=powB_t h1; have h4:=powB_t h4; have h5:=powB_t h5; have h6:=powB_t h6
 rw [wrap_ok (by omega) (by omega)] at h3
 exact ⟨h1,⟨h2,by omega⟩,h4,h5,h6⟩
def perRank_v0 (g:Gm):Int:=bif g.right then (IntKind.i64.wrap ((IntKind.i64.wrap (g.banks * g.rows)) * g.cols)) else 0
theorem perRank (g:Gm) :Sp P 52 [.ag [vi g.ranks,vi g.spares,vi g.banks,vi g.rows,vi g.cols]] [] (vi (perRank_v0 g)) []:=by
 generalize d0:perRank_v0 g=yd0
 unfold perRank_v0 at d0
 rcases bft g.right with q1 | q1
 ·rw [cpos q1] at d0
  subst d0
  exact so Tryz.f52 3 [] (.c [] (gright_sp g) (.g q1 .nil))
 ·rw [cneg q1] at d0
  subst d0
  exact so Tryz.f52 3 [] (.c [] (gright_sp g) (.g q1 .nil))
def gpages_v0 (g:Gm):Int:=bif g.right then (IntKind.i64.wrap ((IntKind.i64.wrap (g.ranks * g.banks)) * g.rows)) else 0
theorem gpages (g:Gm) :Sp P 148 [.ag [vi g.ranks,vi g.spares,vi g.banks,vi g.rows,vi g.cols]] [] (vi (gpages_v0 g)) []:=by
 generalize d0:gpages_v0 g=yd0
 unfold gpages_v0 at d0
 rcases bft g.right with q1 | q1
 ·rw [cpos q1] at d0
  subst d0
  exact so Tryz.f148 3 [] (.c [] (gright_sp g) (.g q1 .nil))
 ·rw [cneg q1] at d0
  subst d0
  exact so Tryz.f148 3 [] (.c [] (gright_sp g) (.g q1 .nil))
def interRight_v0 (g:Gm) (w:Int):Bool:=bif g.right then (bif decide (0<=w) then (decide (w < 4)) else false) else false
theorem interRight (g:Gm) (w:Int) :Sp P 205 [.ag [vi g.ranks,vi g.spares,vi g.banks,vi g.rows,vi g.cols],vi w] [] (vt (interRight_v0 g w)) []:=by
 generalize d0:interRight_v0 g w=yd0
 unfold interRight_v0 at d0
 rcases bft g.right with q1 | q1
 ·rw [cpos q1] at d0
  rcases bft (decide (0<=w)) with q2 | q2
  ·rw [cpos q2] at d0
   subst d0
   exact so Tryz.f205 3 [] (.c [] (gright_sp g) (.t2 q1 (.t q1 (.t2 q2 (.t q2 .nil)))))
  ·rw [cneg q2] at d0
   subst d0
   exact so Tryz.f205 3 [] (.c [] (gright_sp g) (.t2 q1 (.t q1 (.t2 q2 (.t q2 .nil)))))
 ·rw [cneg q1] at d0
  subst d0
  exact so Tryz.f205 3 [] (.c [] (gright_sp g) (.t2 q1 (.t q1 (.n2 (.n .nil)))))
def cbel_v0 (i:Int) (n:Int):Bool:=bif decide (0<=i) then (decide (i < n)) else false
theorem cbel (i:Int) (n:Int) :Sp P 226 [vi i,vi n] [] (vt (cbel_v0 i n)) []:=by
 generalize d0:cbel_v0 i n=yd0
 unfold cbel_v0 at d0
 rcases bft (decide (0<=i)) with q1 | q1
 ·rw [cpos q1] at d0
  subst d0
  exact so Tryz.f226 3 [] (.t4 q1 .nil)
 ·rw [cneg q1] at d0
  subst d0
  exact so Tryz.f226 3 [] (.t4 q1 .nil)
def rbel_v0 (i:Int) (n:Int):Bool:=bif decide (0<=i) then (decide (i < n)) else false
theorem rbel (i:Int) (n:Int) :Sp P 100 [vi i,vi n] [] (vt (rbel_v0 i n)) []:=by
 generalize d0:rbel_v0 i n=yd0
 unfold rbel_v0 at d0
 rcases bft (decide (0<=i)) with q1 | q1
 ·rw [cpos q1] at d0
  subst d0
  exact so Tryz.f100 3 [] (.t4 q1 .nil)
 ·rw [cneg q1] at d0
  subst d0
  exact so Tryz.f100 3 [] (.t4 q1 .nil)
def lyRight_v0 (l:Ly):Bool:=bif (interRight_v0 l.g l.way) then (bif decide (0<=l.res) then (bif decide (l.res<=64) then (decide (l.res < (gpages_v0 l.g))) else false) else false) else false
theorem lyRight (l:Ly) :Sp P 132 [.ag [vi l.g.ranks,vi l.g.spares,vi l.g.banks,vi l.g.rows,vi l.g.cols,vi l.way,vi l.res]] [] (vt (lyRight_v0 l)) []:=by
 generalize d0:lyRight_v0 l=yd0
 unfold lyRight_v0 at d0
 rcases bft (interRight_v0 l.g l.way) with q1 | q1
 ·rw [cpos q1] at d0
  rcases bft (decide (0<=l.res)) with q2 | q2
  ·rw [cpos q2] at d0
   rcases bft (decide (l.res<=64)) with q3 | q3
   ·rw [cpos q3] at d0
    subst d0
    exact so Tryz.f132 5 [] (.c [] (interRight l.g l.way) (.t4 q1 (.t4 q2 (.t4 q3 (.t q3 (.c [] (gpages l.g) (.t2 q3 .nil)))))))
   ·rw [cneg q3] at d0
    subst d0
    exact so Tryz.f132 4 [] (.c [] (interRight l.g l.way) (.t4 q1 (.t4 q2 (.t4 q3 (.t2 q3 (.t q3 .nil))))))
  ·rw [cneg q2] at d0
   subst d0
   exact so Tryz.f132 4 [] (.c [] (interRight l.g l.way) (.t4 q1 (.t4 q2 (.n4 (.n2 (.n .nil))))))
 ·rw [cneg q1] at d0
  subst d0
  exact so Tryz.f132 4 [] (.c [] (interRight l.g l.way) (.t4 q1 (.n8 (.n2 (.n .nil)))))
def lySeen_v0 (l:Ly):Int:=bif (lyRight_v0 l) then (IntKind.i64.wrap ((gpages_v0 l.g) - l.res)) else 0
theorem lySeen (l:Ly) :Sp P 96 [.ag [vi l.g.ranks,vi l.g.spares,vi l.g.banks,vi l.g.rows,vi l.g.cols,vi l.way,vi l.res]] [] (vi (lySeen_v0 l)) []:=by
 generalize d0:lySeen_v0 l=yd0
 unfold lySeen_v0 at d0
 rcases bft (lyRight_v0 l) with q1 | q1
 ·rw [cpos q1] at d0
  subst d0
  exact so Tryz.f96 4 [] (.c [] (lyRight l) (.g q1 (.c [] (gpages l.g) .nil)))
 ·rw [cneg q1] at d0
  subst d0
  exact so Tryz.f96 3 [] (.c [] (lyRight l) (.g q1 .nil))
theorem lyLines (l:Ly) :Sp P 32 [.ag [vi l.g.ranks,vi l.g.spares,vi l.g.banks,vi l.g.rows,vi l.g.cols,vi l.way,vi l.res]] [] (vi (IntKind.i64.wrap ((lySeen_v0 l) * l.g.cols))) [] :=
 so Tryz.f32 4 [] (.c [] (lySeen l) .nil)
def jbCount_v0 (j:Jb) (l:Ly):Int:=bif decide (j.kind=1) then l.g.cols else (bif decide (j.kind=2) then (perRank_v0 l.g) else 0)
theorem jbCount (j:Jb) (l:Ly) :Sp P 227 [.ag [vi j.kind,vi j.src,vi j.goal,vi j.next],.ag [vi l.g.ranks,vi l.g.spares,vi l.g.banks,vi l.g.rows,vi l.g.cols,vi l.way,vi l.res]] [] (vi (jbCount_v0 j l)) []:=by
 generalize d0:jbCount_v0 j l=yd0
 unfold jbCount_v0 at d0
 rcases bft (decide (j.kind=1)) with q1 | q1
 ·rw [cpos q1] at d0
  subst d0
  exact so Tryz.f227 4 [] (.t q1 .nil)
 ·rw [cneg q1] at d0
  rcases bft (decide (j.kind=2)) with q2 | q2
  ·rw [cpos q2] at d0
   subst d0
   exact so Tryz.f227 4 [] (.t q1 (.t q2 (.c [] (perRank l.g) .nil)))
  ·rw [cneg q2] at d0
   subst d0
   exact so Tryz.f227 4 [] (.t q1 (.t q2 .nil))
def jbDone_v0 (j:Jb) (l:Ly):Bool:=bif decide (j.kind=0) then false else (decide (j.next=(jbCount_v0 j l)))
theorem jbDone (j:Jb) (l:Ly) :Sp P 301 [.ag [vi j.kind,vi j.src,vi j.goal,vi j.next],.ag [vi l.g.ranks,vi l.g.spares,vi l.g.banks,vi l.g.rows,vi l.g.cols,vi l.way,vi l.res]] [] (vt (jbDone_v0 j l)) []:=by
 generalize d0:jbDone_v0 j l=yd0
 unfold jbDone_v0 at d0
 rcases bft (decide (j.kind=0)) with q1 | q1
 ·rw [cpos q1] at d0
  subst d0
  exact so Tryz.f301 4 [] (.g4 q1 (.g2 q1 (.g q1 .nil)))
 ·rw [cneg q1] at d0
  subst d0
  exact so Tryz.f301 5 [] (.g4 q1 (.g q1 (.c [] (jbCount j l) (.g2 q1 .nil))))
def gorder_v0 (g:Gm) (i:Int):Int:=bif decide (g.atE i=0) then (IntKind.i64.wrap ((IntKind.i64.wrap ((IntKind.i64.wrap ((IntKind.i64.wrap ((g.at i).bank * g.rows)) + (g.at i).row)) * g.cols)) + (g.at i).col)) else 0
theorem gorder (g:Gm) (i:Int) :Sp P 175 [.ag [vi g.ranks,vi g.spares,vi g.banks,vi g.rows,vi g.cols],vi i] [] (vi (gorder_v0 g i)) []:=by
 generalize d0:gorder_v0 g i=yd0
 unfold gorder_v0 at d0
 rcases bft (decide (g.atE i=0)) with q1 | q1
 ·rw [cpos q1] at d0
  subst d0
  exact so Tryz.f175 4 [] (.c [] (gat_sp g i) (.g q1 .nil))
 ·rw [cneg q1] at d0
  subst d0
  exact so Tryz.f175 4 [] (.c [] (gat_sp g i) (.g q1 .nil))
theorem mul_bd {a b A B:Int} (ha:0<=a∧a<=A) (hb:0<=b∧b<=B):0<=a * b∧a * b<=A * B :=
 ⟨Int.mul_nonneg ha.1 hb.1,Int.mul_le_mul ha.2 hb.2 hb.1 (by omega)⟩
theorem gpages_eq {g:Gm} (h:g.right=true):gpages_v0 g=g.ranks * g.banks * g.rows∧0<=g.ranks * g.banks * g.rows∧g.ranks * g.banks * g.rows<=131072:=by
 obtain ⟨h1,h2,h3,h4,h5⟩:=Gm.rt h
 have m1:=mul_bd (a:=g.ranks) (b:=g.banks) (A:=8) (B:=16) (by omega) (by omega)
 have m2:=mul_bd (a:=g.ranks * g.banks) (b:=g.rows) (A:=128) (B:=1024) (by omega) (by omega)
 refine ⟨?_,by omega,by omega⟩
 unfold gpages_v0
 rw [h,cond_true,wrap_ok (x:=g.ranks * g.banks) (by omega) (by omega),wrap_ok (by omega) (by omega)]
theorem mul_pos' {a b:Int} (ha:1<=a) (hb:1<=b):1<=a * b:=by have:=Int.mul_pos (a:=a) (b:=b) (by omega) (by omega); omega
theorem gpages_pos {g:Gm} (h:g.right=true):1<=gpages_v0 g:=by
 obtain ⟨h1,h2,h3,h4,h5⟩:=Gm.rt h
 rw [(gpages_eq h).1]
 exact mul_pos' (mul_pos' (by omega) (by omega)) (by omega)
def digits_r (n:Int) (a:Int) (b:Int) (c:Int):List Int:=(([] ++ [n.tmod ([a,b,c].getD 0 eI0)]) ++ [(IntKind.i64.wrap (n.tdiv ([a,b,c].getD 0 eI0))).tmod ([a,b,c].getD 1 eI0)]) ++ [(IntKind.i64.wrap ((IntKind.i64.wrap (n.tdiv ([a,b,c].getD 0 eI0))).tdiv ([a,b,c].getD 1 eI0))).tmod ([a,b,c].getD 2 eI0)]
theorem digits (n:Int) (a:Int) (b:Int) (c:Int) (ha:a ≠ 0) (hb:b ≠ 0) (hc:c ≠ 0):Sp P 261 [vi n,.sl 0] [.ro (.row eI [a,b,c])] (.sl 1) [.ro (.row eI [a,b,c]),.row eI (digits_r n a b c)] :=
 so Tryz.f261 8 [.id 0,.id 7] (.lu 3 (.y (.ix (i:=0) (m:=3) (show 0 < 3 by decide) (.el (e:=eI) (gDx (l:=[a,b,c]) (i:=0) eI0 (show 0 < 3 by decide)) (.p 17 (pRemI n ([a,b,c].getD 0 eI0) (by assumption)) (.ap (e:=eI) (l:=[]) (l':=[n.tmod ([a,b,c].getD 0 eI0)]) (.flat [] [] rfl) (.flat [vi (n.tmod ([a,b,c].getD 0 eI0))] [n.tmod ([a,b,c].getD 0 eI0)] rfl) (by simp only [List.length_append,List.length_cons,List.length_nil]; omega) (.p 22 (pQuoI n ([a,b,c].getD 0 eI0) (by assumption)) (.y (.ix (i:=1) (m:=3) (show 1 < 3 by decide) (.el (e:=eI) (gDx (l:=[a,b,c]) (i:=1) eI0 (show 1 < 3 by decide)) (.p 17 (pRemI (IntKind.i64.wrap (n.tdiv ([a,b,c].getD 0 eI0))) ([a,b,c].getD 1 eI0) (by assumption)) (.ap (e:=eI) (l:=[] ++ [n.tmod ([a,b,c].getD 0 eI0)]) (l':=[(IntKind.i64.wrap (n.tdiv ([a,b,c].getD 0 eI0))).tmod ([a,b,c].getD 1 eI0)]) .row (.flat [vi ((IntKind.i64.wrap (n.tdiv ([a,b,c].getD 0 eI0))).tmod ([a,b,c].getD 1 eI0))] [(IntKind.i64.wrap (n.tdiv ([a,b,c].getD 0 eI0))).tmod ([a,b,c].getD 1 eI0)] rfl) (by simp only [List.length_append,List.length_cons,List.length_nil]; omega) (.p 22 (pQuoI (IntKind.i64.wrap (n.tdiv ([a,b,c].getD 0 eI0))) ([a,b,c].getD 1 eI0) (by assumption)) (.y (.ix (i:=2) (m:=3) (show 2 < 3 by decide) (.el (e:=eI) (gDx (l:=[a,b,c]) (i:=2) eI0 (show 2 < 3 by decide)) (.p 17 (pRemI (IntKind.i64.wrap ((IntKind.i64.wrap (n.tdiv ([a,b,c].getD 0 eI0))).tdiv ([a,b,c].getD 1 eI0))) ([a,b,c].getD 2 eI0) (by assumption)) (.ap (e:=eI) (l:=([] ++ [n.tmod ([a,b,c].getD 0 eI0)]) ++ [(IntKind.i64.wrap (n.tdiv ([a,b,c].getD 0 eI0))).tmod ([a,b,c].getD 1 eI0)]) (l':=[(IntKind.i64.wrap ((IntKind.i64.wrap (n.tdiv ([a,b,c].getD 0 eI0))).tdiv ([a,b,c].getD 1 eI0))).tmod ([a,b,c].getD 2 eI0)]) .row (.flat [vi ((IntKind.i64.wrap ((IntKind.i64.wrap (n.tdiv ([a,b,c].getD 0 eI0))).tdiv ([a,b,c].getD 1 eI0))).tmod ([a,b,c].getD 2 eI0))] [(IntKind.i64.wrap ((IntKind.i64.wrap (n.tdiv ([a,b,c].getD 0 eI0))).tdiv ([a,b,c].getD 1 eI0))).tmod ([a,b,c].getD 2 eI0)] rfl) (by simp only [List.length_append,List.length_cons,List.length_nil]; omega) (.p 22 (pQuoI (IntKind.i64.wrap ((IntKind.i64.wrap (n.tdiv ([a,b,c].getD 0 eI0))).tdiv ([a,b,c].getD 1 eI0))) ([a,b,c].getD 2 eI0) (by assumption)) (.n .nil))))))))))))))))))))
theorem interRight_t {g:Gm} {w:Int} (h:interRight_v0 g w=true):g.right=true∧0<=w∧w < 4:=by
 unfold interRight_v0 at h
 revert h
 cases q:g.right <;> cases q2:decide (0<=w) <;> simp_all
def iPage_v0 (g:Gm) (w:Int) (n:Int):Int:=bif (interRight_v0 g w) then (bif decide (n < 0) then 0 else (bif decide ((gpages_v0 g)<=n) then 0 else (bif decide (w=0) then (bif decide (w=3) then ((g.ix (⟨(digits_r n g.rows g.banks g.ranks).getD 2 eI0,bits .xor .i64 ((digits_r n g.rows g.banks g.ranks).getD 1 eI0) (bits .and .i64 ((digits_r n g.rows g.banks g.ranks).getD 0 eI0) (IntKind.i64.wrap (g.banks - 1))),(digits_r n g.rows g.banks g.ranks).getD 0 eI0,0⟩:Pl)).fdiv (2 ^ 6)) else ((g.ix (⟨(digits_r n g.rows g.banks g.ranks).getD 2 eI0,(digits_r n g.rows g.banks g.ranks).getD 1 eI0,(digits_r n g.rows g.banks g.ranks).getD 0 eI0,0⟩:Pl)).fdiv (2 ^ 6))) else (bif decide (w=1) then (bif decide (w=3) then ((g.ix (⟨(digits_r n g.banks g.rows g.ranks).getD 2 eI0,bits .xor .i64 ((digits_r n g.banks g.rows g.ranks).getD 0 eI0) (bits .and .i64 ((digits_r n g.banks g.rows g.ranks).getD 1 eI0) (IntKind.i64.wrap (g.banks - 1))),(digits_r n g.banks g.rows g.ranks).getD 1 eI0,0⟩:Pl)).fdiv (2 ^ 6)) else ((g.ix (⟨(digits_r n g.banks g.rows g.ranks).getD 2 eI0,(digits_r n g.banks g.rows g.ranks).getD 0 eI0,(digits_r n g.banks g.rows g.ranks).getD 1 eI0,0⟩:Pl)).fdiv (2 ^ 6))) else (bif decide (w=3) then ((g.ix (⟨(digits_r n g.ranks g.banks g.rows).getD 0 eI0,bits .xor .i64 ((digits_r n g.ranks g.banks g.rows).getD 1 eI0) (bits .and .i64 ((digits_r n g.ranks g.banks g.rows).getD 2 eI0) (IntKind.i64.wrap (g.banks - 1))),(digits_r n g.ranks g.banks g.rows).getD 2 eI0,0⟩:Pl)).fdiv (2 ^ 6)) else ((g.ix (⟨(digits_r n g.ranks g.banks g.rows).getD 0 eI0,(digits_r n g.ranks g.banks g.rows).getD 1 eI0,(digits_r n g.ranks g.banks g.rows).getD 2 eI0,0⟩:Pl)).fdiv (2 ^ 6))))))) else 0
def iPage_v1 (g:Gm) (w:Int) (n:Int):Int:=bif (interRight_v0 g w) then (bif decide (n < 0) then 12 else (bif decide ((gpages_v0 g)<=n) then 12 else (bif decide (w=0) then (bif decide (w=3) then (g.ixE (⟨(digits_r n g.rows g.banks g.ranks).getD 2 eI0,bits .xor .i64 ((digits_r n g.rows g.banks g.ranks).getD 1 eI0) (bits .and .i64 ((digits_r n g.rows g.banks g.ranks).getD 0 eI0) (IntKind.i64.wrap (g.banks - 1))),(digits_r n g.rows g.banks g.ranks).getD 0 eI0,0⟩:Pl)) else (g.ixE (⟨(digits_r n g.rows g.banks g.ranks).getD 2 eI0,(digits_r n g.rows g.banks g.ranks).getD 1 eI0,(digits_r n g.rows g.banks g.ranks).getD 0 eI0,0⟩:Pl))) else (bif decide (w=1) then (bif decide (w=3) then (g.ixE (⟨(digits_r n g.banks g.rows g.ranks).getD 2 eI0,bits .xor .i64 ((digits_r n g.banks g.rows g.ranks).getD 0 eI0) (bits .and .i64 ((digits_r n g.banks g.rows g.ranks).getD 1 eI0) (IntKind.i64.wrap (g.banks - 1))),(digits_r n g.banks g.rows g.ranks).getD 1 eI0,0⟩:Pl)) else (g.ixE (⟨(digits_r n g.banks g.rows g.ranks).getD 2 eI0,(digits_r n g.banks g.rows g.ranks).getD 0 eI0,(digits_r n g.banks g.rows g.ranks).getD 1 eI0,0⟩:Pl))) else (bif decide (w=3) then (g.ixE (⟨(digits_r n g.ranks g.banks g.rows).getD 0 eI0,bits .xor .i64 ((digits_r n g.ranks g.banks g.rows).getD 1 eI0) (bits .and .i64 ((digits_r n g.ranks g.banks g.rows).getD 2 eI0) (IntKind.i64.wrap (g.banks - 1))),(digits_r n g.ranks g.banks g.rows).getD 2 eI0,0⟩:Pl)) else (g.ixE (⟨(digits_r n g.ranks g.banks g.rows).getD 0 eI0,(digits_r n g.ranks g.banks g.rows).getD 1 eI0,(digits_r n g.ranks g.banks g.rows).getD 2 eI0,0⟩:Pl))))))) else 12
theorem iPage (g:Gm) (w:Int) (n:Int) :Sp P 203 [.ag [vi g.ranks,vi g.spares,vi g.banks,vi g.rows,vi g.cols],vi w,vi n] [] (.tu [vi (iPage_v0 g w n),vi (iPage_v1 g w n)]) []:=by
 generalize d0:iPage_v0 g w n=yd0
 unfold iPage_v0 at d0
 generalize d1:iPage_v1 g w n=yd1
 unfold iPage_v1 at d1
 rcases bft (interRight_v0 g w) with q1 | q1
 ·rw [cpos q1] at d0
  rw [cpos q1] at d1
  have q1':=interRight_t q1
  rcases bft (decide (n < 0)) with q2 | q2
  ·rw [cpos q2] at d0
   rw [cpos q2] at d1
   subst d0 d1
   exact so Tryz.f203 3 [] (.c [] (interRight g w) (.g2 q1 (.g q1 (.t4 q2 (.t q2 (.y .nil))))))
  ·rw [cneg q2] at d0
   rw [cneg q2] at d1
   have q2':=of_decide_eq_false q2
   rcases bft (decide ((gpages_v0 g)<=n)) with q3 | q3
   ·rw [cpos q3] at d0
    rw [cpos q3] at d1
    subst d0 d1
    exact so Tryz.f203 3 [] (.c [] (interRight g w) (.g2 q1 (.g q1 (.t2 q2 (.t q2 (.c [] (gpages g) (.t2 q2 (.t q3 .nil))))))))
   ·rw [cneg q3] at d0
    rw [cneg q3] at d1
    have q3':=of_decide_eq_false q3
    rcases bft (decide (w=0)) with q4 | q4
    ·rw [cpos q4] at d0
     rw [cpos q4] at d1
     have q4':=of_decide_eq_true q4
     rcases bft (decide (w=3)) with q5 | q5
     ·rw [cpos q5] at d0
      rw [cpos q5] at d1
      have q5':=of_decide_eq_true q5
      subst d0 d1
      exact so Tryz.f203 9 [] (.c [] (interRight g w) (.g2 q1 (.g q1 (.t2 q2 (.t q2 (.c [] (gpages g) (.t2 q2 (.t q3 (.t q4 (.c [.sg 3 0 1 3] (digits n g.rows g.banks g.ranks (by have:=Gm.rt q1'.1; omega) (by have:=Gm.rt q1'.1; omega) (by have:=Gm.rt q1'.1; omega)) (.ix (i:=0) (m:=(digits_r n g.rows g.banks g.ranks).length) (show 0 < 3 by decide) (.el (e:=eI) (gDx (l:=(digits_r n g.rows g.banks g.ranks)) (i:=0) eI0 (show 0 < 3 by decide)) (.ix (i:=1) (m:=(digits_r n g.rows g.banks g.ranks).length) (show 1 < 3 by decide) (.el (e:=eI) (gDx (l:=(digits_r n g.rows g.banks g.ranks)) (i:=1) eI0 (show 1 < 3 by decide)) (.ix (i:=2) (m:=(digits_r n g.rows g.banks g.ranks).length) (show 2 < 3 by decide) (.el (e:=eI) (gDx (l:=(digits_r n g.rows g.banks g.ranks)) (i:=2) eI0 (show 2 < 3 by decide)) (.t q5 (.c [] (gindex_sp g (⟨(digits_r n g.rows g.banks g.ranks).getD 2 eI0,bits .xor .i64 ((digits_r n g.rows g.banks g.ranks).getD 1 eI0) (bits .and .i64 ((digits_r n g.rows g.banks g.ranks).getD 0 eI0) (IntKind.i64.wrap (g.banks - 1))),(digits_r n g.rows g.banks g.ranks).getD 0 eI0,0⟩:Pl)) .nil))))))))))))))))))
     ·rw [cneg q5] at d0
      rw [cneg q5] at d1
      have q5':=of_decide_eq_false q5
      subst d0 d1
      exact so Tryz.f203 9 [] (.c [] (interRight g w) (.g2 q1 (.g q1 (.t2 q2 (.t q2 (.c [] (gpages g) (.t2 q2 (.t q3 (.t q4 (.c [.sg 3 0 1 3] (digits n g.rows g.banks g.ranks (by have:=Gm.rt q1'.1; omega) (by have:=Gm.rt q1'.1; omega) (by have:=Gm.rt q1'.1; omega)) (.ix (i:=0) (m:=(digits_r n g.rows g.banks g.ranks).length) (show 0 < 3 by decide) (.el (e:=eI) (gDx (l:=(digits_r n g.rows g.banks g.ranks)) (i:=0) eI0 (show 0 < 3 by decide)) (.ix (i:=1) (m:=(digits_r n g.rows g.banks g.ranks).length) (show 1 < 3 by decide) (.el (e:=eI) (gDx (l:=(digits_r n g.rows g.banks g.ranks)) (i:=1) eI0 (show 1 < 3 by decide)) (.ix (i:=2) (m:=(digits_r n g.rows g.banks g.ranks).length) (show 2 < 3 by decide) (.el (e:=eI) (gDx (l:=(digits_r n g.rows g.banks g.ranks)) (i:=2) eI0 (show 2 < 3 by decide)) (.t q5 (.c [] (gindex_sp g (⟨(digits_r n g.rows g.banks g.ranks).getD 2 eI0,(digits_r n g.rows g.banks g.ranks).getD 1 eI0,(digits_r n g.rows g.banks g.ranks).getD 0 eI0,0⟩:Pl)) .nil))))))))))))))))))
    ·rw [cneg q4] at d0
     rw [cneg q4] at d1
     have q4':=of_decide_eq_false q4
     rcases bft (decide (w=1)) with q5 | q5
     ·rw [cpos q5] at d0
      rw [cpos q5] at d1
      have q5':=of_decide_eq_true q5
      rcases bft (decide (w=3)) with q6 | q6
      ·rw [cpos q6] at d0
       rw [cpos q6] at d1
       have q6':=of_decide_eq_true q6
       subst d0 d1
       exact so Tryz.f203 9 [] (.c [] (interRight g w) (.g2 q1 (.g q1 (.t2 q2 (.t q2 (.c [] (gpages g) (.t2 q2 (.t q3 (.t q4 (.t q5 (.c [.sg 3 0 1 3] (digits n g.banks g.rows g.ranks (by have:=Gm.rt q1'.1; omega) (by have:=Gm.rt q1'.1; omega) (by have:=Gm.rt q1'.1; omega)) (.ix (i:=0) (m:=(digits_r n g.banks g.rows g.ranks).length) (show 0 < 3 by decide) (.el (e:=eI) (gDx (l:=(digits_r n g.banks g.rows g.ranks)) (i:=0) eI0 (show 0 < 3 by decide)) (.ix (i:=1) (m:=(digits_r n g.banks g.rows g.ranks).length) (show 1 < 3 by decide) (.el (e:=eI) (gDx (l:=(digits_r n g.banks g.rows g.ranks)) (i:=1) eI0 (show 1 < 3 by decide)) (.ix (i:=2) (m:=(digits_r n g.banks g.rows g.ranks).length) (show 2 < 3 by decide) (.el (e:=eI) (gDx (l:=(digits_r n g.banks g.rows g.ranks)) (i:=2) eI0 (show 2 < 3 by decide)) (.t q6 (.c [] (gindex_sp g (⟨(digits_r n g.banks g.rows g.ranks).getD 2 eI0,bits .xor .i64 ((digits_r n g.banks g.rows g.ranks).getD 0 eI0) (bits .and .i64 ((digits_r n g.banks g.rows g.ranks).getD 1 eI0) (IntKind.i64.wrap (g.banks - 1))),(digits_r n g.banks g.rows g.ranks).getD 1 eI0,0⟩:Pl)) .nil)))))))))))))))))))
      ·rw [cneg q6] at d0
       rw [cneg q6] at d1
       have q6':=of_decide_eq_false q6
       subst d0 d1
       exact so Tryz.f203 9 [] (.c [] (interRight g w) (.g2 q1 (.g q1 (.t2 q2 (.t q2 (.c [] (gpages g) (.t2 q2 (.t q3 (.t q4 (.t q5 (.c [.sg 3 0 1 3] (digits n g.banks g.rows g.ranks (by have:=Gm.rt q1'.1; omega) (by have:=Gm.rt q1'.1; omega) (by have:=Gm.rt q1'.1; omega)) (.ix (i:=0) (m:=(digits_r n g.banks g.rows g.ranks).length) (show 0 < 3 by decide) (.el (e:=eI) (gDx (l:=(digits_r n g.banks g.rows g.ranks)) (i:=0) eI0 (show 0 < 3 by decide)) (.ix (i:=1) (m:=(digits_r n g.banks g.rows g.ranks).length) (show 1 < 3 by decide) (.el (e:=eI) (gDx (l:=(digits_r n g.banks g.rows g.ranks)) (i:=1) eI0 (show 1 < 3 by decide)) (.ix (i:=2) (m:=(digits_r n g.banks g.rows g.ranks).length) (show 2 < 3 by decide) (.el (e:=eI) (gDx (l:=(digits_r n g.banks g.rows g.ranks)) (i:=2) eI0 (show 2 < 3 by decide)) (.t q6 (.c [] (gindex_sp g (⟨(digits_r n g.banks g.rows g.ranks).getD 2 eI0,(digits_r n g.banks g.rows g.ranks).getD 0 eI0,(digits_r n g.banks g.rows g.ranks).getD 1 eI0,0⟩:Pl)) .nil)))))))))))))))))))
     ·rw [cneg q5] at d0
      rw [cneg q5] at d1
      have q5':=of_decide_eq_false q5
      rcases bft (decide (w=3)) with q6 | q6
      ·rw [cpos q6] at d0
       rw [cpos q6] at d1
       have q6':=of_decide_eq_true q6
       subst d0 d1
       exact so Tryz.f203 9 [] (.c [] (interRight g w) (.g2 q1 (.g q1 (.t2 q2 (.t q2 (.c [] (gpages g) (.t2 q2 (.t q3 (.t q4 (.t q5 (.c [.sg 3 0 1 3] (digits n g.ranks g.banks g.rows (by have:=Gm.rt q1'.1; omega) (by have:=Gm.rt q1'.1; omega) (by have:=Gm.rt q1'.1; omega)) (.ix (i:=0) (m:=(digits_r n g.ranks g.banks g.rows).length) (show 0 < 3 by decide) (.el (e:=eI) (gDx (l:=(digits_r n g.ranks g.banks g.rows)) (i:=0) eI0 (show 0 < 3 by decide)) (.ix (i:=1) (m:=(digits_r n g.ranks g.banks g.rows).length) (show 1 < 3 by decide) (.el (e:=eI) (gDx (l:=(digits_r n g.ranks g.banks g.rows)) (i:=1) eI0 (show 1 < 3 by decide)) (.ix (i:=2) (m:=(digits_r n g.ranks g.banks g.rows).length) (show 2 < 3 by decide) (.el (e:=eI) (gDx (l:=(digits_r n g.ranks g.banks g.rows)) (i:=2) eI0 (show 2 < 3 by decide)) (.t q6 (.c [] (gindex_sp g (⟨(digits_r n g.ranks g.banks g.rows).getD 0 eI0,bits .xor .i64 ((digits_r n g.ranks g.banks g.rows).getD 1 eI0) (bits .and .i64 ((digits_r n g.ranks g.banks g.rows).getD 2 eI0) (IntKind.i64.wrap (g.banks - 1))),(digits_r n g.ranks g.banks g.rows).getD 2 eI0,0⟩:Pl)) .nil)))))))))))))))))))
      ·rw [cneg q6] at d0
       rw [cneg q6] at d1
       have q6':=of_decide_eq_false q6
       subst d0 d1
       exact so Tryz.f203 9 [] (.c [] (interRight g w) (.g2 q1 (.g q1 (.t2 q2 (.t q2 (.c [] (gpages g) (.t2 q2 (.t q3 (.t q4 (.t q5 (.c [.sg 3 0 1 3] (digits n g.ranks g.banks g.rows (by have:=Gm.rt q1'.1; omega) (by have:=Gm.rt q1'.1; omega) (by have:=Gm.rt q1'.1; omega)) (.ix (i:=0) (m:=(digits_r n g.ranks g.banks g.rows).length) (show 0 < 3 by decide) (.el (e:=eI) (gDx (l:=(digits_r n g.ranks g.banks g.rows)) (i:=0) eI0 (show 0 < 3 by decide)) (.ix (i:=1) (m:=(digits_r n g.ranks g.banks g.rows).length) (show 1 < 3 by decide) (.el (e:=eI) (gDx (l:=(digits_r n g.ranks g.banks g.rows)) (i:=1) eI0 (show 1 < 3 by decide)) (.ix (i:=2) (m:=(digits_r n g.ranks g.banks g.rows).length) (show 2 < 3 by decide) (.el (e:=eI) (gDx (l:=(digits_r n g.ranks g.banks g.rows)) (i:=2) eI0 (show 2 < 3 by decide)) (.t q6 (.c [] (gindex_sp g (⟨(digits_r n g.ranks g.banks g.rows).getD 0 eI0,(digits_r n g.ranks g.banks g.rows).getD 1 eI0,(digits_r n g.ranks g.banks g.rows).getD 2 eI0,0⟩:Pl)) .nil)))))))))))))))))))
 ·rw [cneg q1] at d0
  rw [cneg q1] at d1
  subst d0 d1
  exact so Tryz.f203 3 [] (.c [] (interRight g w) (.g2 q1 (.g q1 (.y4 (.y2 .nil)))))
end Go.Proofs.YtfhiggfmkjmeiaaGreat
