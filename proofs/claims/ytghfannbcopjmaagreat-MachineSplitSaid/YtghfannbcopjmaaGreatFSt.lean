import Derived.Test.YtghfannbcopjmaaGreatFBkt
import Derived.Test.YtghfannbcopjmaaGreatFxX
namespace Go.Proofs.YtghfannbcopjmaaGreat
open Go Go.RowKit
set_option linter.unusedVariables false
set_option linter.unusedSimpArgs false
set_option maxRecDepth 100000
abbrev ros (l : List B) : List B := l.map B.ro
structure Ly where
 g : Gm
 way : Int
 res : Int
structure Jb where
 kind : Int
 src : Int
 goal : Int
 next : Int
structure Ak where
 kind : Int
 which : Int
structure Ev where
 kind : Int
 src : Int
 goal : Int
structure Pg where
 k : Int
 b : Bk
structure Rls where
 rank : Rl
 page : Rl
 room : Int
 heavy : Int
structure Rec where
 seq : Int
 time : Int
 kind : Int
 index : Int
 info : Int
structure Cfg where
 ly : Ly
 mode : Int
 rules : Rls
 log : Int
 back : Bool
structure Nt where
 kind : Int
 vk : Int
 vf : Int
 index : Int
 home : Int
 rank : Int
structure Acc where
 write : Bool
 index : Int
 went : Int
 drop : Bool
 exp : Int
 mark : Bool
def eI : Enc Int := ⟨fun a => [vi a], 3, 1, fun a => ⟨rfl, rfl, rfl⟩⟩
def eI0 : Int := 0
def eT : Enc Bool := ⟨fun a => [vt a], 4, 1, fun a => ⟨rfl, rfl, rfl⟩⟩
def eT0 : Bool := false
def eAk : Enc Ak := ⟨fun a => [vi a.kind, vi a.which], 315, 2, fun a => ⟨rfl, rfl, rfl⟩⟩
def eAk0 : Ak := ⟨0, 0⟩
def eEv : Enc Ev := ⟨fun a => [vi a.kind, vi a.src, vi a.goal], 372, 3, fun a => ⟨rfl, rfl, rfl⟩⟩
def eEv0 : Ev := ⟨0, 0, 0⟩
def eBk : Enc Bk := ⟨fun a => [vi a.level, vi a.age], 123, 2, fun a => ⟨rfl, rfl, rfl⟩⟩
def eBk0 : Bk := ⟨0, 0⟩
def ePg : Enc Pg := ⟨fun a => [vi a.k, vi a.b.level, vi a.b.age], 307, 3, fun a => ⟨rfl, rfl, rfl⟩⟩
def ePg0 : Pg := ⟨0, ⟨0, 0⟩⟩
def eRec : Enc Rec := ⟨fun a => [vi a.seq, vi a.time, vi a.kind, vi a.index, vi a.info], 121, 5, fun a => ⟨rfl, rfl, rfl⟩⟩
def eRec0 : Rec := ⟨0, 0, 0, 0, 0⟩
def eNt : Enc Nt := ⟨fun a => [vi a.kind, vi a.vk, vi a.vf, vi a.index, vi a.home, vi a.rank], 180, 6, fun a => ⟨rfl, rfl, rfl⟩⟩
def eAcc : Enc Acc := ⟨fun a => [vt a.write, vi a.index, vi a.went, vt a.drop, vi a.exp, vt a.mark], 138, 6, fun a => ⟨rfl, rfl, rfl⟩⟩
structure MapS where
 l : Ly
 lives : List Int
 dead : List Bool
 sp : List Int
 pages : Int
 rks : Int
structure RgS where
 l : List Ak
 at' : Int
 n : Int
structure RepS where
 m : MapS
 j : Jb
 q : RgS
structure TrkS where
 r : Rls
 ranks : List Bk
 pages : List Pg
structure LogS where
 l : List Rec
 room : Int
 next : Int
 lost : Bool
structure LedS where
 c : Cfg
 rep : RepS
 trk : TrkS
 log : LogS
 time : Int
structure DramS where
 g : Gm
 mode : Int
 c : Int → Nat → Nat
 la : List FltN
 co : List FltN
structure DevS where
 d : DramS
 gh : Int → Nat → Nat
 mks : Int → Int
 l : List Acc
abbrev bMap (s : MapS) (b : Nat) : List B := [.blk [vi s.l.g.ranks, vi s.l.g.spares, vi s.l.g.banks, vi s.l.g.rows, vi s.l.g.cols, vi s.l.way, vi s.l.res, .sl (b + 1), .sl (b + 2), .sl (b + 3), vi s.pages, vi s.rks] 229, .row eI s.lives, .row eT s.dead, .row eI s.sp]
abbrev bRing (s : RgS) (b : Nat) : List B := [.blk [.sl (b + 1), vi s.at', vi s.n] 377, .row eAk s.l]
abbrev bRep (s : RepS) (b : Nat) : List B := [.blk [.pt (b + 1) 0, vi s.j.kind, vi s.j.src, vi s.j.goal, vi s.j.next, .pt (b + 5) 0] 222, .blk [vi s.m.l.g.ranks, vi s.m.l.g.spares, vi s.m.l.g.banks, vi s.m.l.g.rows, vi s.m.l.g.cols, vi s.m.l.way, vi s.m.l.res, .sl (b + 2), .sl (b + 3), .sl (b + 4), vi s.m.pages, vi s.m.rks] 229, .row eI s.m.lives, .row eT s.m.dead, .row eI s.m.sp, .blk [.sl (b + 6), vi s.q.at', vi s.q.n] 377, .row eAk s.q.l]
abbrev bTrk (s : TrkS) (b : Nat) : List B := [.blk [vi s.r.rank.limit, vi s.r.rank.every, vi s.r.page.limit, vi s.r.page.every, vi s.r.room, vi s.r.heavy, .sl (b + 1), .pt (b + 2) 0] 244, .row eBk s.ranks, .blk [.sl (b + 3), vi s.r.room, .fn (.func 197) [] []] 305, .row ePg s.pages]
abbrev bLog (s : LogS) (b : Nat) : List B := [.blk [.sl (b + 1), vi s.room, vi s.next, vt s.lost] 162, .row eRec s.l]
abbrev bLed (s : LedS) (b : Nat) : List B := [.blk [vi s.c.ly.g.ranks, vi s.c.ly.g.spares, vi s.c.ly.g.banks, vi s.c.ly.g.rows, vi s.c.ly.g.cols, vi s.c.ly.way, vi s.c.ly.res, vi s.c.mode, vi s.c.rules.rank.limit, vi s.c.rules.rank.every, vi s.c.rules.page.limit, vi s.c.rules.page.every, vi s.c.rules.room, vi s.c.rules.heavy, vi s.c.log, vt s.c.back, .pt (b + 1) 0, .pt (b + 8) 0, .pt (b + 12) 0, vi s.time] 160, .blk [.pt (b + 2) 0, vi s.rep.j.kind, vi s.rep.j.src, vi s.rep.j.goal, vi s.rep.j.next, .pt (b + 6) 0] 222, .blk [vi s.rep.m.l.g.ranks, vi s.rep.m.l.g.spares, vi s.rep.m.l.g.banks, vi s.rep.m.l.g.rows, vi s.rep.m.l.g.cols, vi s.rep.m.l.way, vi s.rep.m.l.res, .sl (b + 3), .sl (b + 4), .sl (b + 5), vi s.rep.m.pages, vi s.rep.m.rks] 229, .row eI s.rep.m.lives, .row eT s.rep.m.dead, .row eI s.rep.m.sp, .blk [.sl (b + 7), vi s.rep.q.at', vi s.rep.q.n] 377, .row eAk s.rep.q.l, .blk [vi s.trk.r.rank.limit, vi s.trk.r.rank.every, vi s.trk.r.page.limit, vi s.trk.r.page.every, vi s.trk.r.room, vi s.trk.r.heavy, .sl (b + 9), .pt (b + 10) 0] 244, .row eBk s.trk.ranks, .blk [.sl (b + 11), vi s.trk.r.room, .fn (.func 197) [] []] 305, .row ePg s.trk.pages, .blk [.sl (b + 13), vi s.log.room, vi s.log.next, vt s.log.lost] 162, .row eRec s.log.l]
abbrev bDram (s : DramS) (b : Nat) : List B := [.blk [vi s.g.ranks, vi s.g.spares, vi s.g.banks, vi s.g.rows, vi s.g.cols, vi s.mode, .mp (b + 1), .sl (b + 2), .sl (b + 3)] 203, .mp (.ar .u8 72 (nf (fun _ => 0))) (mpB s.c), .row eF s.la, .row eF s.co]
abbrev bDev (s : DevS) (b : Nat) : List B := [.blk [.pt (b + 4) 0, .mp (b + 1), .mp (b + 2), .sl (b + 3)] 119, .mp (.ar .u8 72 (nf (fun _ => 0))) (mpB s.gh), .mp (vn 0) (mpI s.mks), .row eAcc s.l, .blk [vi s.d.g.ranks, vi s.d.g.spares, vi s.d.g.banks, vi s.d.g.rows, vi s.d.g.cols, vi s.d.mode, .mp (b + 5), .sl (b + 6), .sl (b + 7)] 203, .mp (.ar .u8 72 (nf (fun _ => 0))) (mpB s.d.c), .row eF s.d.la, .row eF s.d.co]
structure CtlS where
 le : LedS
 d : DevS
 cur : Int
 notes : List Nt
abbrev bCtl (s : CtlS) (b : Nat) : List B := [.blk [.pt (b + 1) 0, .pt (b + 15) 0, .pt (b + 24) 0, vi s.cur, .sl (b + 23)] 130, .blk [vi s.le.c.ly.g.ranks, vi s.le.c.ly.g.spares, vi s.le.c.ly.g.banks, vi s.le.c.ly.g.rows, vi s.le.c.ly.g.cols, vi s.le.c.ly.way, vi s.le.c.ly.res, vi s.le.c.mode, vi s.le.c.rules.rank.limit, vi s.le.c.rules.rank.every, vi s.le.c.rules.page.limit, vi s.le.c.rules.page.every, vi s.le.c.rules.room, vi s.le.c.rules.heavy, vi s.le.c.log, vt s.le.c.back, .pt (b + 2) 0, .pt (b + 9) 0, .pt (b + 13) 0, vi s.le.time] 160, .blk [.pt (b + 3) 0, vi s.le.rep.j.kind, vi s.le.rep.j.src, vi s.le.rep.j.goal, vi s.le.rep.j.next, .pt (b + 7) 0] 222, .blk [vi s.le.rep.m.l.g.ranks, vi s.le.rep.m.l.g.spares, vi s.le.rep.m.l.g.banks, vi s.le.rep.m.l.g.rows, vi s.le.rep.m.l.g.cols, vi s.le.rep.m.l.way, vi s.le.rep.m.l.res, .sl (b + 4), .sl (b + 5), .sl (b + 6), vi s.le.rep.m.pages, vi s.le.rep.m.rks] 229, .row eI s.le.rep.m.lives, .row eT s.le.rep.m.dead, .row eI s.le.rep.m.sp, .blk [.sl (b + 8), vi s.le.rep.q.at', vi s.le.rep.q.n] 377, .row eAk s.le.rep.q.l, .blk [vi s.le.trk.r.rank.limit, vi s.le.trk.r.rank.every, vi s.le.trk.r.page.limit, vi s.le.trk.r.page.every, vi s.le.trk.r.room, vi s.le.trk.r.heavy, .sl (b + 10), .pt (b + 11) 0] 244, .row eBk s.le.trk.ranks, .blk [.sl (b + 12), vi s.le.trk.r.room, .fn (.func 197) [] []] 305, .row ePg s.le.trk.pages, .blk [.sl (b + 14), vi s.le.log.room, vi s.le.log.next, vt s.le.log.lost] 162, .row eRec s.le.log.l, .blk [.pt (b + 19) 0, .mp (b + 16), .mp (b + 17), .sl (b + 18)] 119, .mp (.ar .u8 72 (nf (fun _ => 0))) (mpB s.d.gh), .mp (vn 0) (mpI s.d.mks), .row eAcc s.d.l, .blk [vi s.d.d.g.ranks, vi s.d.d.g.spares, vi s.d.d.g.banks, vi s.d.d.g.rows, vi s.d.d.g.cols, vi s.d.d.mode, .mp (b + 20), .sl (b + 21), .sl (b + 22)] 203, .mp (.ar .u8 72 (nf (fun _ => 0))) (mpB s.d.d.c), .row eF s.d.d.la, .row eF s.d.d.co, .row eNt s.notes]
structure Stp where
 kind : Int
 line : Int
 data : Nat → Nat
 mask : Nat
 f : Flt
structure Ans where
 e : Int
 n : Int
 line : Nat → Nat
structure Inj where
 f : Flt
 scrubs : Int
 access : Int
structure Srv where
 step : Stp
 ans : Ans
 want : Nat → Nat
 first : Int
 last : Int
structure MchS where
 c : CtlS
 ideal : Int → Nat → Nat
 inj : List Inj
 srv : List Srv
 scrubs : Int
 steps : Int
def eStp : Enc Stp := ⟨fun a => [vi a.kind, vi a.line, .ar .u8 64 (nf a.data), vu a.mask, vi a.f.kind, vi a.f.rank, vi a.f.bank, vi a.f.row, vi a.f.col, vi a.f.chip, vi a.f.bit, vi a.f.value], 44, 75, fun a => ⟨rfl, rfl, rfl⟩⟩
def eStp0 : Stp := ⟨0, 0, (fun _ => 0), 0, ⟨0, 0, 0, 0, 0, 0, 0, 0⟩⟩
def eAns : Enc Ans := ⟨fun a => [vi a.e, vi a.n, .ar .u8 64 (nf a.line)], 47, 66, fun a => ⟨rfl, rfl, rfl⟩⟩
def eAns0 : Ans := ⟨0, 0, (fun _ => 0)⟩
def eInj : Enc Inj := ⟨fun a => [vi a.f.kind, vi a.f.rank, vi a.f.bank, vi a.f.row, vi a.f.col, vi a.f.chip, vi a.f.bit, vi a.f.value, vi a.scrubs, vi a.access], 90, 10, fun a => ⟨rfl, rfl, rfl⟩⟩
def eSrv : Enc Srv := ⟨fun a => [vi a.step.kind, vi a.step.line, .ar .u8 64 (nf a.step.data), vu a.step.mask, vi a.step.f.kind, vi a.step.f.rank, vi a.step.f.bank, vi a.step.f.row, vi a.step.f.col, vi a.step.f.chip, vi a.step.f.bit, vi a.step.f.value, vi a.ans.e, vi a.ans.n, .ar .u8 64 (nf a.ans.line), .ar .u8 64 (nf a.want), vi a.first, vi a.last], 97, 207, fun a => ⟨rfl, rfl, rfl⟩⟩
end Go.Proofs.YtghfannbcopjmaaGreat
