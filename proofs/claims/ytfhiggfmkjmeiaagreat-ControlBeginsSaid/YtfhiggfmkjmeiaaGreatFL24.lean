import Derived.Test.YtfhiggfmkjmeiaaGreatFRun
set_option linter.all false
namespace Go.Proofs.YtfhiggfmkjmeiaaGreat
open Go Go.RowKit
set_option maxRecDepth 100000
def A85 (v:Nat):Nat->Nat->Int
 | 0=>fun _=>0
 | i + 1=>upI (A85 v i) i (v:Int)
theorem A86 (v:Nat):∀ i j,A85 v i j=if j < i then (v:Int) else 0
 | 0,j=>rfl
 | i + 1,j=>by
   show upI (A85 v i) i _ j=_
   unfold upI
   rw [A86 v i j]
   split
   ·rename_i e; rw [if_pos (by omega)]
   ·rename_i e
    by_cases hj:j < i
    ·rw [if_pos hj,if_pos (by omega)]
    ·rw [if_neg hj,if_neg (by omega)]
theorem Alu (v:Nat) :Sp P 91 [vb v] [] (.ar .u8 64 (A85 v 64)) [] :=
 so Tryz.f91 4 [] (.lp 64 3 [] [] (fun i=>[(5,vn i)]) (fun i=>[(2,.blk [.ar .u8 64 (A85 v i)] 43)]) (fun i hi=>(.t (sQT ((i:Int) < 64) (by omega)) (.ix (i:=i) (m:=64) (by omega) (.lt (i:=i) (n:=64) (by omega) (.e 11 (Ck (a:=(i:Int)) (b:=1) (c:=((i + 1:Nat):Int)) (by omega)) .nil))))) (.n .nil))
theorem fill (v:Nat):Sp P 91 [vb v] [] (.ar .u8 64 (nf (fun _=>v))) []:=(Alu v).resE (K4 fun j hj=>by rw [A86,if_pos hj]; rfl) rfl rfl rfl
theorem Kx {c:Cfg} (h:A8 c=true):MchOk 8388608 (Ac c):=by
 have hc:=Ho h
 have hg:=Gm.rt (C0 hc.1).1
 have hn:CtlOk 8388608 (Lh c):=(Acv (Aeb h) (by show c.ly.g.cols.toNat<=64; omega) (by show c.ly.g.rows.toNat<=1024; omega) (by show c.ly.g.banks.toNat<=16; omega) (cRk c)).mono (by unfold cRk; omega)
 refine ⟨hn,fun _ _=>(by decide:(0:Nat) < 256),Nat.zero_le _,Nat.zero_le _,?_⟩
 show Bc (Lh c).le.c.ly=true
 have h1:∀ s r b w k,(nwC s r b w k).le.c=s.le.c:=fun s r b w k=>by induction k with | zero=>rfl | succ k ih=>exact (Sx _ _ _ _).trans ih
 have h2:∀ s r b C w,(nwW s r b C w).le.c=s.le.c:=fun s r b C w=>by induction w with | zero=>rfl | succ w ih=>exact (h1 _ _ _ _ _).trans ih
 have h3:∀ s r W C b,(nwB s r W C b).le.c=s.le.c:=fun s r W C b=>by induction b with | zero=>rfl | succ b ih=>exact (h2 _ _ _ _ _).trans ih
 have h4:∀ s B W C r,(nwR s B W C r).le.c=s.le.c:=fun s B W C r=>by induction r with | zero=>rfl | succ r ih=>exact (h3 _ _ _ _ _).trans ih
 rw [show (Lh c).le.c=(Mh c).le.c from h4 _ _ _ _ _]
 exact hc.1
