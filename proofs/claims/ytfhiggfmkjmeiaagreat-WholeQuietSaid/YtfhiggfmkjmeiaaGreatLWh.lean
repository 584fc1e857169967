import Derived.Test.YtfhiggfmkjmeiaaGreatLOp
import Derived.Test.YtfhiggfmkjmeiaaGreatLBg
set_option linter.all false
namespace Go.Proofs.YtfhiggfmkjmeiaaGreat
open Go Go.RowKit
theorem Xo {c:Cfg} {s:CtlS} (dk:DevOk s.d) (i:Int) (j:Nat):vD c s i j < 256:=Zb (fun j=>Iv dk j) j
theorem Qr {c:Cfg} {l:List Stp} (h:A8 c=true) (hl:∀ x ∈ l,StpOk x) (hn:l.length<=1000):MchOk 8400000 (mrS (Ac c) l l.length):=(Wb (Kx h) hl (Nat.le_refl _)).mono (by omega)
theorem Ay9 {c:Cfg} {l:List Stp} (hl:∀ x ∈ l,StpOk x):SrvIn (mrS (Ac c) l l.length):=Ag4 (Aip c) hl _ (Nat.le_refl _)
theorem B0d (c:Cfg) (l:List Stp) (i:Nat):MExt (Ac c) (mrS (Ac c) l i):=by
 have h:=Ag5 (Ac c) l 0 i
 rw [Nat.zero_add] at h; exact h
theorem B0c (c:Cfg) (l:List Stp) (i:Nat):(mrS (Ac c) l i).c.d.d.mode=c.mode:=(B0d c l i).d.m.trans (Ab4 c).m
theorem Auy {c:Cfg} {l:List Stp} (h:A8 c=true) (hl:∀ x ∈ l,StpOk x):AccIn (mrS (Ac c) l l.length).c.d.l:=Anw (Kx h) hl (A7b h) _ (Nat.le_refl _)
