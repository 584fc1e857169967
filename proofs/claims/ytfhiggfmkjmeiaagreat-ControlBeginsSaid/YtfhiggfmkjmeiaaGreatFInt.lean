import Derived.Test.YtfhiggfmkjmeiaaGreatFBkt
import Derived.Test.YtfhiggfmkjmeiaaGreatFxX
set_option linter.all false
namespace Go.Proofs.YtfhiggfmkjmeiaaGreat
open Go Go.RowKit
set_option maxRecDepth 100000
abbrev ros (l:List B):List B:=l.map B.ro
structure Ly where
 g:Gm
 way:Int
 res:Int
structure Jb where
 kind:Int
 src:Int
 goal:Int
 next:Int
structure Ak where
 kind:Int
 which:Int
structure Ev where
 kind:Int
 src:Int
 goal:Int
structure Pg where
 k:Int
 b:Bk
structure Rls where
 rank:Rl
 page:Rl
 room:Int
 heavy:Int
structure Rec where
 seq:Int
 time:Int
 kind:Int
 index:Int
 info:Int
structure Cfg where
 ly:Ly
 mode:Int
 rules:Rls
 log:Int
 back:Bool
structure Nt where
 kind:Int
 vk:Int
 vf:Int
 index:Int
 home:Int
 rank:Int
structure Acc where
 write:Bool
 index:Int
 went:Int
 drop:Bool
 exp:Int
 mark:Bool
def eI:Enc Int:=⟨fun a=>[vi a],3,1,fun a=>⟨rfl,rfl,rfl⟩⟩
def eI0:Int:=0
def eT:Enc Bool:=⟨fun a=>[vt a],4,1,fun a=>⟨rfl,rfl,rfl⟩⟩
def eT0:Bool:=false
def eAk:Enc Ak:=⟨fun a=>[vi a.kind,vi a.which],335,2,fun a=>⟨rfl,rfl,rfl⟩⟩
def Tv:Ak:=⟨0,0⟩
def eEv:Enc Ev:=⟨fun a=>[vi a.kind,vi a.src,vi a.goal],442,3,fun a=>⟨rfl,rfl,rfl⟩⟩
def Qb:Ev:=⟨0,0,0⟩
def eBk:Enc Bk:=⟨fun a=>[vi a.level,vi a.age],71,2,fun a=>⟨rfl,rfl,rfl⟩⟩
def Mk:Bk:=⟨0,0⟩
def ePg:Enc Pg:=⟨fun a=>[vi a.k,vi a.b.level,vi a.b.age],324,3,fun a=>⟨rfl,rfl,rfl⟩⟩
def Ee:Pg:=⟨0,⟨0,0⟩⟩
def Kt:Enc Rec:=⟨fun a=>[vi a.seq,vi a.time,vi a.kind,vi a.index,vi a.info],192,5,fun a=>⟨rfl,rfl,rfl⟩⟩
def Pr:Rec:=⟨0,0,0,0,0⟩
def eNt:Enc Nt:=⟨fun a=>[vi a.kind,vi a.vk,vi a.vf,vi a.index,vi a.home,vi a.rank],98,6,fun a=>⟨rfl,rfl,rfl⟩⟩
def Abc:Enc Acc:=⟨fun a=>[vt a.write,vi a.index,vi a.went,vt a.drop,vi a.exp,vt a.mark],287,6,fun a=>⟨rfl,rfl,rfl⟩⟩
structure MapS where
 l:Ly
 lives:List Int
 dead:List Bool
 sp:List Int
 pages:Int
 rks:Int
structure RgS where
 l:List Ak
 at':Int
 n:Int
structure RepS where
 m:MapS
 j:Jb
 q:RgS
structure TrkS where
 r:Rls
 ranks:List Bk
 pages:List Pg
structure LogS where
 l:List Rec
 room:Int
 next:Int
 lost:Bool
structure LedS where
 c:Cfg
 rep:RepS
 trk:TrkS
 log:LogS
 time:Int
structure DramS where
 g:Gm
 mode:Int
 c:Int->Nat->Nat
 la:List FltN
 co:List FltN
structure DevS where
 d:DramS
 gh:Int->Nat->Nat
 mks:Int->Int
 l:List Acc
abbrev Ge (s:MapS) (b:Nat):List B:=[.blk [vi s.l.g.ranks,vi s.l.g.spares,vi s.l.g.banks,vi s.l.g.rows,vi s.l.g.cols,vi s.l.way,vi s.l.res,.sl (b + 1),.sl (b + 2),.sl (b + 3),vi s.pages,vi s.rks] 185,.row eI s.lives,.row eT s.dead,.row eI s.sp]
abbrev Md (s:RgS) (b:Nat):List B:=[.blk [.sl (b + 1),vi s.at',vi s.n] 403,.row eAk s.l]
abbrev Kp (s:RepS) (b:Nat):List B:=[.blk [.pt (b + 1) 0,vi s.j.kind,vi s.j.src,vi s.j.goal,vi s.j.next,.pt (b + 5) 0] 181,.blk [vi s.m.l.g.ranks,vi s.m.l.g.spares,vi s.m.l.g.banks,vi s.m.l.g.rows,vi s.m.l.g.cols,vi s.m.l.way,vi s.m.l.res,.sl (b + 2),.sl (b + 3),.sl (b + 4),vi s.m.pages,vi s.m.rks] 185,.row eI s.m.lives,.row eT s.m.dead,.row eI s.m.sp,.blk [.sl (b + 6),vi s.q.at',vi s.q.n] 403,.row eAk s.q.l]
abbrev Th (s:TrkS) (b:Nat):List B:=[.blk [vi s.r.rank.limit,vi s.r.rank.every,vi s.r.page.limit,vi s.r.page.every,vi s.r.room,vi s.r.heavy,.sl (b + 1),.pt (b + 2) 0] 224,.row eBk s.ranks,.blk [.sl (b + 3),vi s.r.room,.fn (.func 238) [] []] 322,.row ePg s.pages]
abbrev Vj (s:LogS) (b:Nat):List B:=[.blk [.sl (b + 1),vi s.room,vi s.next,vt s.lost] 221,.row Kt s.l]
abbrev Mb (s:LedS) (b:Nat):List B:=[.blk [vi s.c.ly.g.ranks,vi s.c.ly.g.spares,vi s.c.ly.g.banks,vi s.c.ly.g.rows,vi s.c.ly.g.cols,vi s.c.ly.way,vi s.c.ly.res,vi s.c.mode,vi s.c.rules.rank.limit,vi s.c.rules.rank.every,vi s.c.rules.page.limit,vi s.c.rules.page.every,vi s.c.rules.room,vi s.c.rules.heavy,vi s.c.log,vt s.c.back,.pt (b + 1) 0,.pt (b + 8) 0,.pt (b + 12) 0,vi s.time] 178,.blk [.pt (b + 2) 0,vi s.rep.j.kind,vi s.rep.j.src,vi s.rep.j.goal,vi s.rep.j.next,.pt (b + 6) 0] 181,.blk [vi s.rep.m.l.g.ranks,vi s.rep.m.l.g.spares,vi s.rep.m.l.g.banks,vi s.rep.m.l.g.rows,vi s.rep.m.l.g.cols,vi s.rep.m.l.way,vi s.rep.m.l.res,.sl (b + 3),.sl (b + 4),.sl (b + 5),vi s.rep.m.pages,vi s.rep.m.rks] 185,.row eI s.rep.m.lives,.row eT s.rep.m.dead,.row eI s.rep.m.sp,.blk [.sl (b + 7),vi s.rep.q.at',vi s.rep.q.n] 403,.row eAk s.rep.q.l,.blk [vi s.trk.r.rank.limit,vi s.trk.r.rank.every,vi s.trk.r.page.limit,vi s.trk.r.page.every,vi s.trk.r.room,vi s.trk.r.heavy,.sl (b + 9),.pt (b + 10) 0] 224,.row eBk s.trk.ranks,.blk [.sl (b + 11),vi s.trk.r.room,.fn (.func 238) [] []] 322,.row ePg s.trk.pages,.blk [.sl (b + 13),vi s.log.room,vi s.log.next,vt s.log.lost] 221,.row Kt s.log.l]
abbrev Jk (s:DramS) (b:Nat):List B:=[.blk [vi s.g.ranks,vi s.g.spares,vi s.g.banks,vi s.g.rows,vi s.g.cols,vi s.mode,.mp (b + 1),.sl (b + 2),.sl (b + 3)] 208,.mp (.ar .u8 72 (nf (fun _=>0))) (mpB s.c),.row eF s.la,.row eF s.co]
abbrev L6 (s:DevS) (b:Nat):List B:=[.blk [.pt (b + 4) 0,.mp (b + 1),.mp (b + 2),.sl (b + 3)] 203,.mp (.ar .u8 72 (nf (fun _=>0))) (mpB s.gh),.mp (vn 0) (mpI s.mks),.row Abc s.l,.blk [vi s.d.g.ranks,vi s.d.g.spares,vi s.d.g.banks,vi s.d.g.rows,vi s.d.g.cols,vi s.d.mode,.mp (b + 5),.sl (b + 6),.sl (b + 7)] 208,.mp (.ar .u8 72 (nf (fun _=>0))) (mpB s.d.c),.row eF s.d.la,.row eF s.d.co]
structure CtlS where
 le:LedS
 d:DevS
 cur:Int
 notes:List Nt
abbrev Ct (s:CtlS) (b:Nat):List B:=[.blk [.pt (b + 1) 0,.pt (b + 15) 0,.pt (b + 24) 0,vi s.cur,.sl (b + 23)] 176,.blk [vi s.le.c.ly.g.ranks,vi s.le.c.ly.g.spares,vi s.le.c.ly.g.banks,vi s.le.c.ly.g.rows,vi s.le.c.ly.g.cols,vi s.le.c.ly.way,vi s.le.c.ly.res,vi s.le.c.mode,vi s.le.c.rules.rank.limit,vi s.le.c.rules.rank.every,vi s.le.c.rules.page.limit,vi s.le.c.rules.page.every,vi s.le.c.rules.room,vi s.le.c.rules.heavy,vi s.le.c.log,vt s.le.c.back,.pt (b + 2) 0,.pt (b + 9) 0,.pt (b + 13) 0,vi s.le.time] 178,.blk [.pt (b + 3) 0,vi s.le.rep.j.kind,vi s.le.rep.j.src,vi s.le.rep.j.goal,vi s.le.rep.j.next,.pt (b + 7) 0] 181,.blk [vi s.le.rep.m.l.g.ranks,vi s.le.rep.m.l.g.spares,vi s.le.rep.m.l.g.banks,vi s.le.rep.m.l.g.rows,vi s.le.rep.m.l.g.cols,vi s.le.rep.m.l.way,vi s.le.rep.m.l.res,.sl (b + 4),.sl (b + 5),.sl (b + 6),vi s.le.rep.m.pages,vi s.le.rep.m.rks] 185,.row eI s.le.rep.m.lives,.row eT s.le.rep.m.dead,.row eI s.le.rep.m.sp,.blk [.sl (b + 8),vi s.le.rep.q.at',vi s.le.rep.q.n] 403,.row eAk s.le.rep.q.l,.blk [vi s.le.trk.r.rank.limit,vi s.le.trk.r.rank.every,vi s.le.trk.r.page.limit,vi s.le.trk.r.page.every,vi s.le.trk.r.room,vi s.le.trk.r.heavy,.sl (b + 10),.pt (b + 11) 0] 224,.row eBk s.le.trk.ranks,.blk [.sl (b + 12),vi s.le.trk.r.room,.fn (.func 238) [] []] 322,.row ePg s.le.trk.pages,.blk [.sl (b + 14),vi s.le.log.room,vi s.le.log.next,vt s.le.log.lost] 221,.row Kt s.le.log.l,.blk [.pt (b + 19) 0,.mp (b + 16),.mp (b + 17),.sl (b + 18)] 203,.mp (.ar .u8 72 (nf (fun _=>0))) (mpB s.d.gh),.mp (vn 0) (mpI s.d.mks),.row Abc s.d.l,.blk [vi s.d.d.g.ranks,vi s.d.d.g.spares,vi s.d.d.g.banks,vi s.d.d.g.rows,vi s.d.d.g.cols,vi s.d.d.mode,.mp (b + 20),.sl (b + 21),.sl (b + 22)] 208,.mp (.ar .u8 72 (nf (fun _=>0))) (mpB s.d.d.c),.row eF s.d.d.la,.row eF s.d.d.co,.row eNt s.notes]
structure Stp where
 kind:Int
 line:Int
 data:Nat->Nat
 mask:Nat
 f:Flt
structure Ans where
 e:Int
 n:Int
 line:Nat->Nat
structure Inj where
 f:Flt
 scrubs:Int
 access:Int
structure Srv where
 step:Stp
 ans:Ans
 want:Nat->Nat
 first:Int
 last:Int
structure MchS where
 c:CtlS
 ideal:Int->Nat->Nat
 inj:List Inj
 srv:List Srv
 scrubs:Int
 steps:Int
def Aa:Inj:=⟨⟨0,0,0,0,0,0,0,0⟩,0,0⟩
theorem A0y {n m:Int} (h:H9 n m=true):1<=n/\n<=m:=by
 unfold H9 at h
 simp only [bq,decide_eq_true_eq] at h
 exact ⟨h.1,h.2.1⟩
theorem D1 {x:Int} (h1:-9223372036854775808<=x) (h2:x<=9223372036854775807):IntKind.i64.wrap x=x:=Qk ⟨h1,h2⟩
theorem Gm.rt {g:Gm} (h:g.right=true):(1<=g.ranks/\g.ranks<=8)/\(0<=g.spares/\g.ranks + g.spares<=8)/\(1<=g.banks/\g.banks<=16)/\(1<=g.rows/\g.rows<=1024)/\(1<=g.cols/\g.cols<=64):=by
 unfold Gm.right at h
 simp only [bq,decide_eq_true_eq] at h
 obtain ⟨h1,h2,h3,h4,h5,h6,_⟩:=h
 have h1:=A0y h1; have h4:=A0y h4; have h5:=A0y h5; have h6:=A0y h6
 rw [D1 (by omega) (by omega)] at h3
 exact ⟨h1,⟨h2,by omega⟩,h4,h5,h6⟩
def Cd (g:Gm):Int:=bif g.right then (IntKind.i64.wrap ((IntKind.i64.wrap (g.banks * g.rows)) * g.cols)) else 0
theorem Yc (g:Gm) :Sp P 52 [.ag [vi g.ranks,vi g.spares,vi g.banks,vi g.rows,vi g.cols]] [] (vi (Cd g)) []:=by
 generalize d0:Cd g=yd0
 unfold Cd at d0
 rcases bft g.right with q1 | q1
 ·rw [A2 q1] at d0
  subst d0
  exact so Tryz.f52 3 [] (.c [] (Fb g) (.g q1 .nil))
 ·rw [A1 q1] at d0
  subst d0
  exact so Tryz.f52 3 [] (.c [] (Fb g) (.g q1 .nil))
def A9 (g:Gm):Int:=bif g.right then (IntKind.i64.wrap ((IntKind.i64.wrap (g.ranks * g.banks)) * g.rows)) else 0
theorem Fu (g:Gm) :Sp P 148 [.ag [vi g.ranks,vi g.spares,vi g.banks,vi g.rows,vi g.cols]] [] (vi (A9 g)) []:=by
 generalize d0:A9 g=yd0
 unfold A9 at d0
 rcases bft g.right with q1 | q1
 ·rw [A2 q1] at d0
  subst d0
  exact so Tryz.f148 3 [] (.c [] (Fb g) (.g q1 .nil))
 ·rw [A1 q1] at d0
  subst d0
  exact so Tryz.f148 3 [] (.c [] (Fb g) (.g q1 .nil))
def B7 (g:Gm) (w:Int):Bool:=bif g.right then (bif decide (0<=w) then (decide (w < 4)) else false) else false
theorem Bj (g:Gm) (w:Int) :Sp P 205 [.ag [vi g.ranks,vi g.spares,vi g.banks,vi g.rows,vi g.cols],vi w] [] (vt (B7 g w)) []:=by
 generalize d0:B7 g w=yd0
 unfold B7 at d0
 rcases bft g.right with q1 | q1
 ·rw [A2 q1] at d0
  rcases bft (decide (0<=w)) with q2 | q2
  ·rw [A2 q2] at d0
   subst d0
   exact so Tryz.f205 3 [] (.c [] (Fb g) (.t2 q1 (.t q1 (.t2 q2 (.t q2 .nil)))))
  ·rw [A1 q2] at d0
   subst d0
   exact so Tryz.f205 3 [] (.c [] (Fb g) (.t2 q1 (.t q1 (.t2 q2 (.t q2 .nil)))))
 ·rw [A1 q1] at d0
  subst d0
  exact so Tryz.f205 3 [] (.c [] (Fb g) (.t2 q1 (.t q1 (.n2 (.n .nil)))))
def Dz (i:Int) (n:Int):Bool:=bif decide (0<=i) then (decide (i < n)) else false
theorem Me (i:Int) (n:Int) :Sp P 226 [vi i,vi n] [] (vt (Dz i n)) []:=by
 generalize d0:Dz i n=yd0
 unfold Dz at d0
 rcases bft (decide (0<=i)) with q1 | q1
 ·rw [A2 q1] at d0
  subst d0
  exact so Tryz.f226 3 [] (.t4 q1 .nil)
 ·rw [A1 q1] at d0
  subst d0
  exact so Tryz.f226 3 [] (.t4 q1 .nil)
def Bl (i:Int) (n:Int):Bool:=bif decide (0<=i) then (decide (i < n)) else false
theorem K2 (i:Int) (n:Int) :Sp P 100 [vi i,vi n] [] (vt (Bl i n)) []:=by
 generalize d0:Bl i n=yd0
 unfold Bl at d0
 rcases bft (decide (0<=i)) with q1 | q1
 ·rw [A2 q1] at d0
  subst d0
  exact so Tryz.f100 3 [] (.t4 q1 .nil)
 ·rw [A1 q1] at d0
  subst d0
  exact so Tryz.f100 3 [] (.t4 q1 .nil)
def Bc (l:Ly):Bool:=bif (B7 l.g l.way) then (bif decide (0<=l.res) then (bif decide (l.res<=64) then (decide (l.res < (A9 l.g))) else false) else false) else false
theorem Nf (l:Ly) :Sp P 132 [.ag [vi l.g.ranks,vi l.g.spares,vi l.g.banks,vi l.g.rows,vi l.g.cols,vi l.way,vi l.res]] [] (vt (Bc l)) []:=by
 generalize d0:Bc l=yd0
 unfold Bc at d0
 rcases bft (B7 l.g l.way) with q1 | q1
 ·rw [A2 q1] at d0
  rcases bft (decide (0<=l.res)) with q2 | q2
  ·rw [A2 q2] at d0
   rcases bft (decide (l.res<=64)) with q3 | q3
   ·rw [A2 q3] at d0
    subst d0
    exact so Tryz.f132 5 [] (.c [] (Bj l.g l.way) (.t4 q1 (.t4 q2 (.t4 q3 (.t q3 (.c [] (Fu l.g) (.t2 q3 .nil)))))))
   ·rw [A1 q3] at d0
    subst d0
    exact so Tryz.f132 4 [] (.c [] (Bj l.g l.way) (.t4 q1 (.t4 q2 (.t4 q3 (.t2 q3 (.t q3 .nil))))))
  ·rw [A1 q2] at d0
   subst d0
   exact so Tryz.f132 4 [] (.c [] (Bj l.g l.way) (.t4 q1 (.t4 q2 (.n4 (.n2 (.n .nil))))))
 ·rw [A1 q1] at d0
  subst d0
  exact so Tryz.f132 4 [] (.c [] (Bj l.g l.way) (.t4 q1 (.n8 (.n2 (.n .nil)))))
def A0 (l:Ly):Int:=bif (Bc l) then (IntKind.i64.wrap ((A9 l.g) - l.res)) else 0
theorem Nr (l:Ly) :Sp P 96 [.ag [vi l.g.ranks,vi l.g.spares,vi l.g.banks,vi l.g.rows,vi l.g.cols,vi l.way,vi l.res]] [] (vi (A0 l)) []:=by
 generalize d0:A0 l=yd0
 unfold A0 at d0
 rcases bft (Bc l) with q1 | q1
 ·rw [A2 q1] at d0
  subst d0
  exact so Tryz.f96 4 [] (.c [] (Nf l) (.g q1 (.c [] (Fu l.g) .nil)))
 ·rw [A1 q1] at d0
  subst d0
  exact so Tryz.f96 3 [] (.c [] (Nf l) (.g q1 .nil))
theorem Ue (l:Ly) :Sp P 32 [.ag [vi l.g.ranks,vi l.g.spares,vi l.g.banks,vi l.g.rows,vi l.g.cols,vi l.way,vi l.res]] [] (vi (IntKind.i64.wrap ((A0 l) * l.g.cols))) [] :=
 so Tryz.f32 4 [] (.c [] (Nr l) .nil)
def A6 (j:Jb) (l:Ly):Int:=bif decide (j.kind=1) then l.g.cols else (bif decide (j.kind=2) then (Cd l.g) else 0)
theorem Jp (j:Jb) (l:Ly) :Sp P 227 [.ag [vi j.kind,vi j.src,vi j.goal,vi j.next],.ag [vi l.g.ranks,vi l.g.spares,vi l.g.banks,vi l.g.rows,vi l.g.cols,vi l.way,vi l.res]] [] (vi (A6 j l)) []:=by
 generalize d0:A6 j l=yd0
 unfold A6 at d0
 rcases bft (decide (j.kind=1)) with q1 | q1
 ·rw [A2 q1] at d0
  subst d0
  exact so Tryz.f227 4 [] (.t q1 .nil)
 ·rw [A1 q1] at d0
  rcases bft (decide (j.kind=2)) with q2 | q2
  ·rw [A2 q2] at d0
   subst d0
   exact so Tryz.f227 4 [] (.t q1 (.t q2 (.c [] (Yc l.g) .nil)))
  ·rw [A1 q2] at d0
   subst d0
   exact so Tryz.f227 4 [] (.t q1 (.t q2 .nil))
def Fc (j:Jb) (l:Ly):Bool:=bif decide (j.kind=0) then false else (decide (j.next=(A6 j l)))
theorem Amr (j:Jb) (l:Ly) :Sp P 301 [.ag [vi j.kind,vi j.src,vi j.goal,vi j.next],.ag [vi l.g.ranks,vi l.g.spares,vi l.g.banks,vi l.g.rows,vi l.g.cols,vi l.way,vi l.res]] [] (vt (Fc j l)) []:=by
 generalize d0:Fc j l=yd0
 unfold Fc at d0
 rcases bft (decide (j.kind=0)) with q1 | q1
 ·rw [A2 q1] at d0
  subst d0
  exact so Tryz.f301 4 [] (.g4 q1 (.g2 q1 (.g q1 .nil)))
 ·rw [A1 q1] at d0
  subst d0
  exact so Tryz.f301 5 [] (.g4 q1 (.g q1 (.c [] (Jp j l) (.g2 q1 .nil))))
def B6 (g:Gm) (i:Int):Int:=bif decide (g.atE i=0) then (IntKind.i64.wrap ((IntKind.i64.wrap ((IntKind.i64.wrap ((IntKind.i64.wrap ((g.at i).bank * g.rows)) + (g.at i).row)) * g.cols)) + (g.at i).col)) else 0
theorem A5d (g:Gm) (i:Int) :Sp P 175 [.ag [vi g.ranks,vi g.spares,vi g.banks,vi g.rows,vi g.cols],vi i] [] (vi (B6 g i)) []:=by
 generalize d0:B6 g i=yd0
 unfold B6 at d0
 rcases bft (decide (g.atE i=0)) with q1 | q1
 ·rw [A2 q1] at d0
  subst d0
  exact so Tryz.f175 4 [] (.c [] (Hg g i) (.g q1 .nil))
 ·rw [A1 q1] at d0
  subst d0
  exact so Tryz.f175 4 [] (.c [] (Hg g i) (.g q1 .nil))
theorem Il {a b A B:Int} (ha:0<=a/\a<=A) (hb:0<=b/\b<=B):0<=a * b/\a * b<=A * B :=
 ⟨Int.mul_nonneg ha.1 hb.1,Int.mul_le_mul ha.2 hb.2 hb.1 (by omega)⟩
theorem J7 {g:Gm} (h:g.right=true):A9 g=g.ranks * g.banks * g.rows/\0<=g.ranks * g.banks * g.rows/\g.ranks * g.banks * g.rows<=131072:=by
 obtain ⟨h1,h2,h3,h4,h5⟩:=Gm.rt h
 have m1:=Il (a:=g.ranks) (b:=g.banks) (A:=8) (B:=16) (by omega) (by omega)
 have m2:=Il (a:=g.ranks * g.banks) (b:=g.rows) (A:=128) (B:=1024) (by omega) (by omega)
 refine ⟨?_,by omega,by omega⟩
 unfold A9
 rw [h,cond_true,D1 (x:=g.ranks * g.banks) (by omega) (by omega),D1 (by omega) (by omega)]
theorem A0i {a b:Int} (ha:1<=a) (hb:1<=b):1<=a * b:=by have:=Int.mul_pos (a:=a) (b:=b) (by omega) (by omega); omega
theorem Abz {g:Gm} (h:g.right=true):1<=A9 g:=by
 obtain ⟨h1,h2,h3,h4,h5⟩:=Gm.rt h
 rw [(J7 h).1]
 exact A0i (A0i (by omega) (by omega)) (by omega)
def A3 (n:Int) (a:Int) (b:Int) (c:Int):List Int:=(([] ++ [n.tmod ([a,b,c].getD 0 eI0)]) ++ [(IntKind.i64.wrap (n.tdiv ([a,b,c].getD 0 eI0))).tmod ([a,b,c].getD 1 eI0)]) ++ [(IntKind.i64.wrap ((IntKind.i64.wrap (n.tdiv ([a,b,c].getD 0 eI0))).tdiv ([a,b,c].getD 1 eI0))).tmod ([a,b,c].getD 2 eI0)]
theorem Vr (n:Int) (a:Int) (b:Int) (c:Int) (ha:a ≠ 0) (hb:b ≠ 0) (hc:c ≠ 0):Sp P 261 [vi n,.sl 0] [.ro (.row eI [a,b,c])] (.sl 1) [.ro (.row eI [a,b,c]),.row eI (A3 n a b c)] :=
 so Tryz.f261 8 [.id 0,.id 7] (.lu 3 (.y (.ix (i:=0) (m:=3) (show 0 < 3 by decide) (.el (e:=eI) (gDx (l:=[a,b,c]) (i:=0) eI0 (show 0 < 3 by decide)) (.p 17 (Qu n ([a,b,c].getD 0 eI0) (by assumption)) (.ap (e:=eI) (l:=[]) (l':=[n.tmod ([a,b,c].getD 0 eI0)]) (.flat [] [] rfl) (.flat [vi (n.tmod ([a,b,c].getD 0 eI0))] [n.tmod ([a,b,c].getD 0 eI0)] rfl) (by simp only [List.length_append,List.length_cons,List.length_nil]; omega) (.p 22 (Xi n ([a,b,c].getD 0 eI0) (by assumption)) (.y (.ix (i:=1) (m:=3) (show 1 < 3 by decide) (.el (e:=eI) (gDx (l:=[a,b,c]) (i:=1) eI0 (show 1 < 3 by decide)) (.p 17 (Qu (IntKind.i64.wrap (n.tdiv ([a,b,c].getD 0 eI0))) ([a,b,c].getD 1 eI0) (by assumption)) (.ap (e:=eI) (l:=[] ++ [n.tmod ([a,b,c].getD 0 eI0)]) (l':=[(IntKind.i64.wrap (n.tdiv ([a,b,c].getD 0 eI0))).tmod ([a,b,c].getD 1 eI0)]) .row (.flat [vi ((IntKind.i64.wrap (n.tdiv ([a,b,c].getD 0 eI0))).tmod ([a,b,c].getD 1 eI0))] [(IntKind.i64.wrap (n.tdiv ([a,b,c].getD 0 eI0))).tmod ([a,b,c].getD 1 eI0)] rfl) (by simp only [List.length_append,List.length_cons,List.length_nil]; omega) (.p 22 (Xi (IntKind.i64.wrap (n.tdiv ([a,b,c].getD 0 eI0))) ([a,b,c].getD 1 eI0) (by assumption)) (.y (.ix (i:=2) (m:=3) (show 2 < 3 by decide) (.el (e:=eI) (gDx (l:=[a,b,c]) (i:=2) eI0 (show 2 < 3 by decide)) (.p 17 (Qu (IntKind.i64.wrap ((IntKind.i64.wrap (n.tdiv ([a,b,c].getD 0 eI0))).tdiv ([a,b,c].getD 1 eI0))) ([a,b,c].getD 2 eI0) (by assumption)) (.ap (e:=eI) (l:=([] ++ [n.tmod ([a,b,c].getD 0 eI0)]) ++ [(IntKind.i64.wrap (n.tdiv ([a,b,c].getD 0 eI0))).tmod ([a,b,c].getD 1 eI0)]) (l':=[(IntKind.i64.wrap ((IntKind.i64.wrap (n.tdiv ([a,b,c].getD 0 eI0))).tdiv ([a,b,c].getD 1 eI0))).tmod ([a,b,c].getD 2 eI0)]) .row (.flat [vi ((IntKind.i64.wrap ((IntKind.i64.wrap (n.tdiv ([a,b,c].getD 0 eI0))).tdiv ([a,b,c].getD 1 eI0))).tmod ([a,b,c].getD 2 eI0))] [(IntKind.i64.wrap ((IntKind.i64.wrap (n.tdiv ([a,b,c].getD 0 eI0))).tdiv ([a,b,c].getD 1 eI0))).tmod ([a,b,c].getD 2 eI0)] rfl) (by simp only [List.length_append,List.length_cons,List.length_nil]; omega) (.p 22 (Xi (IntKind.i64.wrap ((IntKind.i64.wrap (n.tdiv ([a,b,c].getD 0 eI0))).tdiv ([a,b,c].getD 1 eI0))) ([a,b,c].getD 2 eI0) (by assumption)) (.n .nil))))))))))))))))))))
theorem U9 {g:Gm} {w:Int} (h:B7 g w=true):g.right=true/\0<=w/\w < 4:=by
 unfold B7 at h
 revert h
 cases q:g.right <;> cases q2:decide (0<=w) <;> simp_all
def Ea (g:Gm) (w:Int) (n:Int):Int:=bif (B7 g w) then (bif decide (n < 0) then 0 else (bif decide ((A9 g)<=n) then 0 else (bif decide (w=0) then (bif decide (w=3) then ((g.ix (⟨(A3 n g.rows g.banks g.ranks).getD 2 eI0,bits .xor .i64 ((A3 n g.rows g.banks g.ranks).getD 1 eI0) (bits .and .i64 ((A3 n g.rows g.banks g.ranks).getD 0 eI0) (IntKind.i64.wrap (g.banks - 1))),(A3 n g.rows g.banks g.ranks).getD 0 eI0,0⟩:Pl)).fdiv (2 ^ 6)) else ((g.ix (⟨(A3 n g.rows g.banks g.ranks).getD 2 eI0,(A3 n g.rows g.banks g.ranks).getD 1 eI0,(A3 n g.rows g.banks g.ranks).getD 0 eI0,0⟩:Pl)).fdiv (2 ^ 6))) else (bif decide (w=1) then (bif decide (w=3) then ((g.ix (⟨(A3 n g.banks g.rows g.ranks).getD 2 eI0,bits .xor .i64 ((A3 n g.banks g.rows g.ranks).getD 0 eI0) (bits .and .i64 ((A3 n g.banks g.rows g.ranks).getD 1 eI0) (IntKind.i64.wrap (g.banks - 1))),(A3 n g.banks g.rows g.ranks).getD 1 eI0,0⟩:Pl)).fdiv (2 ^ 6)) else ((g.ix (⟨(A3 n g.banks g.rows g.ranks).getD 2 eI0,(A3 n g.banks g.rows g.ranks).getD 0 eI0,(A3 n g.banks g.rows g.ranks).getD 1 eI0,0⟩:Pl)).fdiv (2 ^ 6))) else (bif decide (w=3) then ((g.ix (⟨(A3 n g.ranks g.banks g.rows).getD 0 eI0,bits .xor .i64 ((A3 n g.ranks g.banks g.rows).getD 1 eI0) (bits .and .i64 ((A3 n g.ranks g.banks g.rows).getD 2 eI0) (IntKind.i64.wrap (g.banks - 1))),(A3 n g.ranks g.banks g.rows).getD 2 eI0,0⟩:Pl)).fdiv (2 ^ 6)) else ((g.ix (⟨(A3 n g.ranks g.banks g.rows).getD 0 eI0,(A3 n g.ranks g.banks g.rows).getD 1 eI0,(A3 n g.ranks g.banks g.rows).getD 2 eI0,0⟩:Pl)).fdiv (2 ^ 6))))))) else 0
def Iq (g:Gm) (w:Int) (n:Int):Int:=bif (B7 g w) then (bif decide (n < 0) then 12 else (bif decide ((A9 g)<=n) then 12 else (bif decide (w=0) then (bif decide (w=3) then (g.ixE (⟨(A3 n g.rows g.banks g.ranks).getD 2 eI0,bits .xor .i64 ((A3 n g.rows g.banks g.ranks).getD 1 eI0) (bits .and .i64 ((A3 n g.rows g.banks g.ranks).getD 0 eI0) (IntKind.i64.wrap (g.banks - 1))),(A3 n g.rows g.banks g.ranks).getD 0 eI0,0⟩:Pl)) else (g.ixE (⟨(A3 n g.rows g.banks g.ranks).getD 2 eI0,(A3 n g.rows g.banks g.ranks).getD 1 eI0,(A3 n g.rows g.banks g.ranks).getD 0 eI0,0⟩:Pl))) else (bif decide (w=1) then (bif decide (w=3) then (g.ixE (⟨(A3 n g.banks g.rows g.ranks).getD 2 eI0,bits .xor .i64 ((A3 n g.banks g.rows g.ranks).getD 0 eI0) (bits .and .i64 ((A3 n g.banks g.rows g.ranks).getD 1 eI0) (IntKind.i64.wrap (g.banks - 1))),(A3 n g.banks g.rows g.ranks).getD 1 eI0,0⟩:Pl)) else (g.ixE (⟨(A3 n g.banks g.rows g.ranks).getD 2 eI0,(A3 n g.banks g.rows g.ranks).getD 0 eI0,(A3 n g.banks g.rows g.ranks).getD 1 eI0,0⟩:Pl))) else (bif decide (w=3) then (g.ixE (⟨(A3 n g.ranks g.banks g.rows).getD 0 eI0,bits .xor .i64 ((A3 n g.ranks g.banks g.rows).getD 1 eI0) (bits .and .i64 ((A3 n g.ranks g.banks g.rows).getD 2 eI0) (IntKind.i64.wrap (g.banks - 1))),(A3 n g.ranks g.banks g.rows).getD 2 eI0,0⟩:Pl)) else (g.ixE (⟨(A3 n g.ranks g.banks g.rows).getD 0 eI0,(A3 n g.ranks g.banks g.rows).getD 1 eI0,(A3 n g.ranks g.banks g.rows).getD 2 eI0,0⟩:Pl))))))) else 12
theorem Afg (g:Gm) (w:Int) (n:Int) :Sp P 203 [.ag [vi g.ranks,vi g.spares,vi g.banks,vi g.rows,vi g.cols],vi w,vi n] [] (.tu [vi (Ea g w n),vi (Iq g w n)]) []:=by
 generalize d0:Ea g w n=yd0
 unfold Ea at d0
 generalize d1:Iq g w n=yd1
 unfold Iq at d1
 rcases bft (B7 g w) with q1 | q1
 ·rw [A2 q1] at d0 d1
  have q1':=U9 q1
  rcases bft (decide (n < 0)) with q2 | q2
  ·rw [A2 q2] at d0 d1
   subst d0 d1
   exact so Tryz.f203 3 [] (.c [] (Bj g w) (.g2 q1 (.g q1 (.t4 q2 (.t q2 (.y .nil))))))
  ·rw [A1 q2] at d0 d1
   have q2':=ofq q2
   rcases bft (decide ((A9 g)<=n)) with q3 | q3
   ·rw [A2 q3] at d0 d1
    subst d0 d1
    exact so Tryz.f203 3 [] (.c [] (Bj g w) (.g2 q1 (.g q1 (.t2 q2 (.t q2 (.c [] (Fu g) (.t2 q2 (.t q3 .nil))))))))
   ·rw [A1 q3] at d0 d1
    have q3':=ofq q3
    rcases bft (decide (w=0)) with q4 | q4
    ·rw [A2 q4] at d0 d1
     have q4':=otq q4
     rcases bft (decide (w=3)) with q5 | q5
     ·rw [A2 q5] at d0 d1
      have q5':=otq q5
      subst d0 d1
      exact so Tryz.f203 9 [] (.c [] (Bj g w) (.g2 q1 (.g q1 (.t2 q2 (.t q2 (.c [] (Fu g) (.t2 q2 (.t q3 (.t q4 (.c [.sg 3 0 1 3] (Vr n g.rows g.banks g.ranks (by have:=Gm.rt q1'.1; omega) (by have:=Gm.rt q1'.1; omega) (by have:=Gm.rt q1'.1; omega)) (.ix (i:=0) (m:=(A3 n g.rows g.banks g.ranks).length) (show 0 < 3 by decide) (.el (e:=eI) (gDx (l:=(A3 n g.rows g.banks g.ranks)) (i:=0) eI0 (show 0 < 3 by decide)) (.ix (i:=1) (m:=(A3 n g.rows g.banks g.ranks).length) (show 1 < 3 by decide) (.el (e:=eI) (gDx (l:=(A3 n g.rows g.banks g.ranks)) (i:=1) eI0 (show 1 < 3 by decide)) (.ix (i:=2) (m:=(A3 n g.rows g.banks g.ranks).length) (show 2 < 3 by decide) (.el (e:=eI) (gDx (l:=(A3 n g.rows g.banks g.ranks)) (i:=2) eI0 (show 2 < 3 by decide)) (.t q5 (.c [] (Hb g (⟨(A3 n g.rows g.banks g.ranks).getD 2 eI0,bits .xor .i64 ((A3 n g.rows g.banks g.ranks).getD 1 eI0) (bits .and .i64 ((A3 n g.rows g.banks g.ranks).getD 0 eI0) (IntKind.i64.wrap (g.banks - 1))),(A3 n g.rows g.banks g.ranks).getD 0 eI0,0⟩:Pl)) .nil))))))))))))))))))
     ·rw [A1 q5] at d0 d1
      have q5':=ofq q5
      subst d0 d1
      exact so Tryz.f203 9 [] (.c [] (Bj g w) (.g2 q1 (.g q1 (.t2 q2 (.t q2 (.c [] (Fu g) (.t2 q2 (.t q3 (.t q4 (.c [.sg 3 0 1 3] (Vr n g.rows g.banks g.ranks (by have:=Gm.rt q1'.1; omega) (by have:=Gm.rt q1'.1; omega) (by have:=Gm.rt q1'.1; omega)) (.ix (i:=0) (m:=(A3 n g.rows g.banks g.ranks).length) (show 0 < 3 by decide) (.el (e:=eI) (gDx (l:=(A3 n g.rows g.banks g.ranks)) (i:=0) eI0 (show 0 < 3 by decide)) (.ix (i:=1) (m:=(A3 n g.rows g.banks g.ranks).length) (show 1 < 3 by decide) (.el (e:=eI) (gDx (l:=(A3 n g.rows g.banks g.ranks)) (i:=1) eI0 (show 1 < 3 by decide)) (.ix (i:=2) (m:=(A3 n g.rows g.banks g.ranks).length) (show 2 < 3 by decide) (.el (e:=eI) (gDx (l:=(A3 n g.rows g.banks g.ranks)) (i:=2) eI0 (show 2 < 3 by decide)) (.t q5 (.c [] (Hb g (⟨(A3 n g.rows g.banks g.ranks).getD 2 eI0,(A3 n g.rows g.banks g.ranks).getD 1 eI0,(A3 n g.rows g.banks g.ranks).getD 0 eI0,0⟩:Pl)) .nil))))))))))))))))))
    ·rw [A1 q4] at d0 d1
     have q4':=ofq q4
     rcases bft (decide (w=1)) with q5 | q5
     ·rw [A2 q5] at d0 d1
      have q5':=otq q5
      rcases bft (decide (w=3)) with q6 | q6
      ·rw [A2 q6] at d0 d1
       have q6':=otq q6
       subst d0 d1
       exact so Tryz.f203 9 [] (.c [] (Bj g w) (.g2 q1 (.g q1 (.t2 q2 (.t q2 (.c [] (Fu g) (.t2 q2 (.t q3 (.t q4 (.t q5 (.c [.sg 3 0 1 3] (Vr n g.banks g.rows g.ranks (by have:=Gm.rt q1'.1; omega) (by have:=Gm.rt q1'.1; omega) (by have:=Gm.rt q1'.1; omega)) (.ix (i:=0) (m:=(A3 n g.banks g.rows g.ranks).length) (show 0 < 3 by decide) (.el (e:=eI) (gDx (l:=(A3 n g.banks g.rows g.ranks)) (i:=0) eI0 (show 0 < 3 by decide)) (.ix (i:=1) (m:=(A3 n g.banks g.rows g.ranks).length) (show 1 < 3 by decide) (.el (e:=eI) (gDx (l:=(A3 n g.banks g.rows g.ranks)) (i:=1) eI0 (show 1 < 3 by decide)) (.ix (i:=2) (m:=(A3 n g.banks g.rows g.ranks).length) (show 2 < 3 by decide) (.el (e:=eI) (gDx (l:=(A3 n g.banks g.rows g.ranks)) (i:=2) eI0 (show 2 < 3 by decide)) (.t q6 (.c [] (Hb g (⟨(A3 n g.banks g.rows g.ranks).getD 2 eI0,bits .xor .i64 ((A3 n g.banks g.rows g.ranks).getD 0 eI0) (bits .and .i64 ((A3 n g.banks g.rows g.ranks).getD 1 eI0) (IntKind.i64.wrap (g.banks - 1))),(A3 n g.banks g.rows g.ranks).getD 1 eI0,0⟩:Pl)) .nil)))))))))))))))))))
      ·rw [A1 q6] at d0 d1
       have q6':=ofq q6
       subst d0 d1
       exact so Tryz.f203 9 [] (.c [] (Bj g w) (.g2 q1 (.g q1 (.t2 q2 (.t q2 (.c [] (Fu g) (.t2 q2 (.t q3 (.t q4 (.t q5 (.c [.sg 3 0 1 3] (Vr n g.banks g.rows g.ranks (by have:=Gm.rt q1'.1; omega) (by have:=Gm.rt q1'.1; omega) (by have:=Gm.rt q1'.1; omega)) (.ix (i:=0) (m:=(A3 n g.banks g.rows g.ranks).length) (show 0 < 3 by decide) (.el (e:=eI) (gDx (l:=(A3 n g.banks g.rows g.ranks)) (i:=0) eI0 (show 0 < 3 by decide)) (.ix (i:=1) (m:=(A3 n g.banks g.rows g.ranks).length) (show 1 < 3 by decide) (.el (e:=eI) (gDx (l:=(A3 n g.banks g.rows g.ranks)) (i:=1) eI0 (show 1 < 3 by decide)) (.ix (i:=2) (m:=(A3 n g.banks g.rows g.ranks).length) (show 2 < 3 by decide) (.el (e:=eI) (gDx (l:=(A3 n g.banks g.rows g.ranks)) (i:=2) eI0 (show 2 < 3 by decide)) (.t q6 (.c [] (Hb g (⟨(A3 n g.banks g.rows g.ranks).getD 2 eI0,(A3 n g.banks g.rows g.ranks).getD 0 eI0,(A3 n g.banks g.rows g.ranks).getD 1 eI0,0⟩:Pl)) .nil)))))))))))))))))))
     ·rw [A1 q5] at d0 d1
      have q5':=ofq q5
      rcases bft (decide (w=3)) with q6 | q6
      ·rw [A2 q6] at d0 d1
       have q6':=otq q6
       subst d0 d1
       exact so Tryz.f203 9 [] (.c [] (Bj g w) (.g2 q1 (.g q1 (.t2 q2 (.t q2 (.c [] (Fu g) (.t2 q2 (.t q3 (.t q4 (.t q5 (.c [.sg 3 0 1 3] (Vr n g.ranks g.banks g.rows (by have:=Gm.rt q1'.1; omega) (by have:=Gm.rt q1'.1; omega) (by have:=Gm.rt q1'.1; omega)) (.ix (i:=0) (m:=(A3 n g.ranks g.banks g.rows).length) (show 0 < 3 by decide) (.el (e:=eI) (gDx (l:=(A3 n g.ranks g.banks g.rows)) (i:=0) eI0 (show 0 < 3 by decide)) (.ix (i:=1) (m:=(A3 n g.ranks g.banks g.rows).length) (show 1 < 3 by decide) (.el (e:=eI) (gDx (l:=(A3 n g.ranks g.banks g.rows)) (i:=1) eI0 (show 1 < 3 by decide)) (.ix (i:=2) (m:=(A3 n g.ranks g.banks g.rows).length) (show 2 < 3 by decide) (.el (e:=eI) (gDx (l:=(A3 n g.ranks g.banks g.rows)) (i:=2) eI0 (show 2 < 3 by decide)) (.t q6 (.c [] (Hb g (⟨(A3 n g.ranks g.banks g.rows).getD 0 eI0,bits .xor .i64 ((A3 n g.ranks g.banks g.rows).getD 1 eI0) (bits .and .i64 ((A3 n g.ranks g.banks g.rows).getD 2 eI0) (IntKind.i64.wrap (g.banks - 1))),(A3 n g.ranks g.banks g.rows).getD 2 eI0,0⟩:Pl)) .nil)))))))))))))))))))
      ·rw [A1 q6] at d0 d1
       have q6':=ofq q6
       subst d0 d1
       exact so Tryz.f203 9 [] (.c [] (Bj g w) (.g2 q1 (.g q1 (.t2 q2 (.t q2 (.c [] (Fu g) (.t2 q2 (.t q3 (.t q4 (.t q5 (.c [.sg 3 0 1 3] (Vr n g.ranks g.banks g.rows (by have:=Gm.rt q1'.1; omega) (by have:=Gm.rt q1'.1; omega) (by have:=Gm.rt q1'.1; omega)) (.ix (i:=0) (m:=(A3 n g.ranks g.banks g.rows).length) (show 0 < 3 by decide) (.el (e:=eI) (gDx (l:=(A3 n g.ranks g.banks g.rows)) (i:=0) eI0 (show 0 < 3 by decide)) (.ix (i:=1) (m:=(A3 n g.ranks g.banks g.rows).length) (show 1 < 3 by decide) (.el (e:=eI) (gDx (l:=(A3 n g.ranks g.banks g.rows)) (i:=1) eI0 (show 1 < 3 by decide)) (.ix (i:=2) (m:=(A3 n g.ranks g.banks g.rows).length) (show 2 < 3 by decide) (.el (e:=eI) (gDx (l:=(A3 n g.ranks g.banks g.rows)) (i:=2) eI0 (show 2 < 3 by decide)) (.t q6 (.c [] (Hb g (⟨(A3 n g.ranks g.banks g.rows).getD 0 eI0,(A3 n g.ranks g.banks g.rows).getD 1 eI0,(A3 n g.ranks g.banks g.rows).getD 2 eI0,0⟩:Pl)) .nil)))))))))))))))))))
 ·rw [A1 q1] at d0 d1
  subst d0 d1
  exact so Tryz.f203 3 [] (.c [] (Bj g w) (.g2 q1 (.g q1 (.y4 (.y2 .nil)))))
