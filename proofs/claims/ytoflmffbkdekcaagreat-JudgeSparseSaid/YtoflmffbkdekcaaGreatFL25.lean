import Derived.Test.YtoflmffbkdekcaaGreatFSpr
import Derived.Test.YtoflmffbkdekcaaGreatFRun
namespace Go.Proofs.YtoflmffbkdekcaaGreat
open Go Go.RowKit
set_option linter.unusedVariables false
set_option linter.unusedSimpArgs false
set_option maxRecDepth 100000
def small25_v0 (c:Cfg):Bool:=bif (cfgRight_v0 c) then (bif (refG_v0 c.ly.g) then (decide (IntKind.i64.wrap ((IntKind.i64.wrap ((IntKind.i64.wrap ((IntKind.i64.wrap (c.ly.g.ranks + c.ly.g.spares)) * c.ly.g.banks)) * c.ly.g.rows)) * c.ly.g.cols)≤100)) else false) else false
theorem small25 (c:Cfg) :Sp P 84 [.ag [vi c.ly.g.ranks,vi c.ly.g.spares,vi c.ly.g.banks,vi c.ly.g.rows,vi c.ly.g.cols,vi c.ly.way,vi c.ly.res,vi c.mode,vi c.rules.rank.limit,vi c.rules.rank.every,vi c.rules.page.limit,vi c.rules.page.every,vi c.rules.room,vi c.rules.heavy,vi c.log,vt c.back]] [] (vt (small25_v0 c)) []:=by
 generalize d0:small25_v0 c=yd0
 unfold small25_v0 at d0
 rcases bft (cfgRight_v0 c) with q1 | q1
 ·rw [cpos q1] at d0
  rcases bft (refG_v0 c.ly.g) with q2 | q2
  ·rw [cpos q2] at d0
   subst d0
   exact so Tryz.f84 4 [] (.c [] (cfgRight c) (.t q1 (.t q1 (.c [] (refG c.ly.g) (.t q1 (.t q2 (.t q2 (.t q2 (.t q2 (.t q2 (.t q2 (.t q2 (.t q2 (.t q2 (.t q2 (.t q2 (.t q2 (.t q2 (.t q2 (.t q2 (.t q2 .nil)))))))))))))))))))))
  ·rw [cneg q2] at d0
   subst d0
   exact so Tryz.f84 4 [] (.c [] (cfgRight c) (.t q1 (.t q1 (.c [] (refG c.ly.g) (.t q1 (.t q2 (.t q2 (.t q2 (.t q2 (.t q2 (.t q2 (.t q2 (.t q2 (.t q2 (.t q2 (.t q2 (.t q2 (.t q2 (.t q2 (.t q2 (.t q2 .nil)))))))))))))))))))))
 ·rw [cneg q1] at d0
  subst d0
  exact so Tryz.f84 4 [] (.c [] (cfgRight c) (.t q1 (.t q1 (.t q1 (.n (.n (.n (.n (.n (.n (.n (.n (.n (.n (.n (.n (.n (.n (.n (.n .nil))))))))))))))))))))
def pl25 (c:Cfg) (n:Nat) (k:Int):Bool:=bif small25_v0 c then !(decide (k < ((n:Nat):Int))) else false
theorem pl25_t {c:Cfg} {n:Nat} {k:Int} (h:pl25 c n k=true):small25_v0 c=true∧decide (k < ((n:Nat):Int))=false:=by
 unfold pl25 at h; revert h; cases small25_v0 c <;> cases decide (k < ((n:Nat):Int)) <;> simp
theorem pl25_f {c:Cfg} {n:Nat} {k:Int} (h:pl25 c n k=false) (q:small25_v0 c=true):decide (k < ((n:Nat):Int))=true:=by
 unfold pl25 at h; rw [q] at h; revert h; cases decide (k < ((n:Nat):Int)) <;> simp
theorem small25_t {c:Cfg} (h:small25_v0 c=true):cfgRight_v0 c=true:=by
 unfold small25_v0 at h
 revert h; cases cfgRight_v0 c <;> simp
theorem pl25_c {c:Cfg} {n:Nat} {k:Int} (h:pl25 c n k=true):cfgRight_v0 c=true:=small25_t (pl25_t h).1
def mPl (c:Cfg) (l:List Stp):MchS:=mrS (mNewM_s c) l l.length
theorem mPl_ok {c:Cfg} {l:List Stp} (h:cfgRight_v0 c=true) (hl:∀ x ∈ l,StpOk x) (hn:l.length≤1000):MchOk 8400000 (mPl c l):=(mrS_ok (mNewM_ok h) hl (Nat.le_refl _)).mono (by omega)
theorem played_no (c:Cfg) (l:List Stp) (k:Int) (hp:pl25 c l.length k=false):Sp P 42 [.ag [vi c.ly.g.ranks,vi c.ly.g.spares,vi c.ly.g.banks,vi c.ly.g.rows,vi c.ly.g.cols,vi c.ly.way,vi c.ly.res,vi c.mode,vi c.rules.rank.limit,vi c.rules.rank.every,vi c.rules.page.limit,vi c.rules.page.every,vi c.rules.room,vi c.rules.heavy,vi c.log,vt c.back],.sl 0,vi k] [.ro (.row eStp l)] (.tu [nilP,vt false]) [.ro (.row eStp l)]:=by
 rcases bft (small25_v0 c) with q1 | q1
 ·exact so Tryz.f42 3 [.id 0] (.c [] (small25 c) (.g q1 (.g q1 (.g q1 (.g q1 (.g q1 (.t (show (decide (k < ((l.length:Nat):Int)))=true from (pl25_f hp q1)) .nil)))))))
 ·exact so Tryz.f42 3 [.id 0] (.c [] (small25 c) (.g q1 (.g q1 (.g q1 (.g q1 (.g q1 (.y .nil)))))))
theorem played_raw (c:Cfg) (l:List Stp) (k:Int) (hp:pl25 c l.length k=true) (hk:k≤1000) (hs:∀ x ∈ l,StpOk x):Sp P 42 [.ag [vi c.ly.g.ranks,vi c.ly.g.spares,vi c.ly.g.banks,vi c.ly.g.rows,vi c.ly.g.cols,vi c.ly.way,vi c.ly.res,vi c.mode,vi c.rules.rank.limit,vi c.rules.rank.every,vi c.rules.page.limit,vi c.rules.page.every,vi c.rules.room,vi c.rules.heavy,vi c.log,vt c.back],.sl 0,vi k] [.ro (.row eStp l)] (.tu [.pt 1 0,vt true]) ([.ro (.row eStp l),.blk [.pt 17 0,.pt 2 0,.mp 31,.sl 32,.sl 33,vi (mrS (mNewM_s c) l l.length).scrubs,vi (mrS (mNewM_s c) l l.length).steps] 122] ++ bCtl (mrS (mNewM_s c) l l.length).c 2 ++ bCode 26 ++ [.mp (.ar .u8 64 (nf (fun _=>0))) (mpC (mrS (mNewM_s c) l l.length).ideal),.row eInj (mrS (mNewM_s c) l l.length).inj,.row eSrv (mrS (mNewM_s c) l l.length).srv]) :=
 so Tryz.f42 37 (.id 0 :: ir 3 33) (.c [] (small25 c) (.t (congrArg (!·) (show (small25_v0 c)=true from (pl25_t hp).1)) (.t (congrArg (!·) (show (small25_v0 c)=true from (pl25_t hp).1)) (.t (congrArg (!·) (show (small25_v0 c)=true from (pl25_t hp).1)) (.t (congrArg (!·) (show (small25_v0 c)=true from (pl25_t hp).1)) (.t (congrArg (!·) (show (small25_v0 c)=true from (pl25_t hp).1)) (.t (show (decide (k < ((l.length:Nat):Int)))=false from (pl25_t hp).2) (.c [] (mNewM c (pl25_c hp)) (.n (.n (.n (.n (.c (ir 3 33 ++ .id 0 :: []) (mRun (mNewM_s c) l ((mNewM_ok (pl25_c hp)).mono (by omega)) hs (by have:=of_decide_eq_false (pl25_t hp).2; omega)) .nil)))))))))))))
def cfg25:Cfg:=(⟨(⟨(⟨1,0,1,1,2⟩:Gm),0,0⟩:Ly),1,(⟨(⟨2,2⟩:Rl),(⟨2,2⟩:Rl),1,1⟩:Rls),1,false⟩:Cfg)
def stp25:Stp:=(⟨1,0,fun _=>0,0,(⟨0,0,0,0,0,0,0,0⟩:Flt)⟩:Stp)
theorem stp25_ok:StpOk stp25:=⟨fun _=>(by decide:(0:Nat) < 256),(by decide:(0:Nat) < 18446744073709551616)⟩
theorem ms25:∀ i,((mDo_s (mNewM_s cfg25) stp25).srv.getD i eSrv0).step.mask < 18446744073709551616:=by
 have h:(mDo_s (mNewM_s cfg25) stp25).srv.length=1∧((mDo_s (mNewM_s cfg25) stp25).srv.getD 0 eSrv0).step.mask < 18446744073709551616:=by decide +kernel
 intro i
 match i with
 | 0=>exact h.2
 | i + 1=>rw [List.getD_eq_getElem?_getD,List.getElem?_eq_none (by omega)]; decide
theorem an25_1:(jCalm_v0 (mDo_s (mNewM_s cfg25) stp25))=true:=by decide +kernel
theorem an25_2:(jWatched_v0 (mDo_s (mNewM_s cfg25) stp25))=true:=by decide +kernel
theorem an25_3:(sparse2_v0 (mDo_s (mNewM_s cfg25) stp25))=true:=by decide +kernel
theorem an25_4:(jFaithful_v0 (mDo_s (mNewM_s cfg25) stp25))=true:=by decide +kernel
theorem an25_5:(jHonest_v0 (mDo_s (mNewM_s cfg25) stp25))=true:=by decide +kernel
theorem an25_6:(jEarned_v0 (mDo_s (mNewM_s cfg25) stp25))=true:=by decide +kernel
theorem an25_7:((decide ((jAt_r (mDo_s (mNewM_s cfg25) stp25) 0 9).exp=0)) && (((jAt_r (mDo_s (mNewM_s cfg25) stp25) 0 9).astray == false) && (((jAt_r (mDo_s (mNewM_s cfg25) stp25) 0 9).drop == false) && (((jAt_r (mDo_s (mNewM_s cfg25) stp25) 0 9).tell == true) && true))))=true:=by decide +kernel
theorem an25_8:(jTouched_v0 (mDo_s (mNewM_s cfg25) stp25) 2 0)=true:=by decide +kernel
def anc25_v0 :Bool:=!(jTouched_v0 (mDo_s (mNewM_s cfg25) stp25) 2 1)
theorem anc25  :Sp P 41 [] [] (vt (anc25_v0)) [] :=
 so Tryz.f41 37 [] (.c [] (mNewM cfg25 (by decide +kernel)) (.n (.n (.n (.n (.c (ir 2 33) (mDo (mNewM_s cfg25) stp25 (MchOk.mono (mNewM_ok (by decide +kernel)) (by decide)) stp25_ok) (.c (ir 2 33) (jAt (mDo_s (mNewM_s cfg25) stp25) 0 9 (by decide +kernel)) (.c (ir 2 33) (jCalm (mDo_s (mNewM_s cfg25) stp25) (by decide +kernel)) (.t (show (jCalm_v0 (mDo_s (mNewM_s cfg25) stp25))=true from an25_1) (.t (show (jCalm_v0 (mDo_s (mNewM_s cfg25) stp25))=true from an25_1) (.c (ir 2 33) (jWatched (mDo_s (mNewM_s cfg25) stp25) (by decide +kernel)) (.t (show (jCalm_v0 (mDo_s (mNewM_s cfg25) stp25))=true from an25_1) (.t (show (jWatched_v0 (mDo_s (mNewM_s cfg25) stp25))=true from an25_2) (.t (show (jWatched_v0 (mDo_s (mNewM_s cfg25) stp25))=true from an25_2) (.c (ir 2 33) (sparse2 (mDo_s (mNewM_s cfg25) stp25) (by decide +kernel) (by decide +kernel)) (.t (show (jWatched_v0 (mDo_s (mNewM_s cfg25) stp25))=true from an25_2) (.t (show (sparse2_v0 (mDo_s (mNewM_s cfg25) stp25))=true from an25_3) (.t (show (sparse2_v0 (mDo_s (mNewM_s cfg25) stp25))=true from an25_3) (.c (ir 2 33) (jFaithful (mDo_s (mNewM_s cfg25) stp25) (by decide +kernel)) (.t (show (sparse2_v0 (mDo_s (mNewM_s cfg25) stp25))=true from an25_3) (.t (show (jFaithful_v0 (mDo_s (mNewM_s cfg25) stp25))=true from an25_4) (.t (show (jFaithful_v0 (mDo_s (mNewM_s cfg25) stp25))=true from an25_4) (.c (ir 2 33) (jHonest (mDo_s (mNewM_s cfg25) stp25) (by decide +kernel) (by decide +kernel)) (.t (show (jFaithful_v0 (mDo_s (mNewM_s cfg25) stp25))=true from an25_4) (.t (show (jHonest_v0 (mDo_s (mNewM_s cfg25) stp25))=true from an25_5) (.t (show (jHonest_v0 (mDo_s (mNewM_s cfg25) stp25))=true from an25_5) (.c (ir 2 33) (jEarned (mDo_s (mNewM_s cfg25) stp25) (by decide +kernel) (by decide +kernel) ms25) (.t (show (jHonest_v0 (mDo_s (mNewM_s cfg25) stp25))=true from an25_5) (.t (show (jEarned_v0 (mDo_s (mNewM_s cfg25) stp25))=true from an25_6) (.t (show (jEarned_v0 (mDo_s (mNewM_s cfg25) stp25))=true from an25_6) (.t (show (jEarned_v0 (mDo_s (mNewM_s cfg25) stp25))=true from an25_6) (.t (show (jEarned_v0 (mDo_s (mNewM_s cfg25) stp25))=true from an25_6) (.t (show ((decide ((jAt_r (mDo_s (mNewM_s cfg25) stp25) 0 9).exp=0)) && (((jAt_r (mDo_s (mNewM_s cfg25) stp25) 0 9).astray == false) && (((jAt_r (mDo_s (mNewM_s cfg25) stp25) 0 9).drop == false) && (((jAt_r (mDo_s (mNewM_s cfg25) stp25) 0 9).tell == true) && true))))=true from an25_7) (.t (show ((decide ((jAt_r (mDo_s (mNewM_s cfg25) stp25) 0 9).exp=0)) && (((jAt_r (mDo_s (mNewM_s cfg25) stp25) 0 9).astray == false) && (((jAt_r (mDo_s (mNewM_s cfg25) stp25) 0 9).drop == false) && (((jAt_r (mDo_s (mNewM_s cfg25) stp25) 0 9).tell == true) && true))))=true from an25_7) (.c (ir 2 33) (jTouched (mDo_s (mNewM_s cfg25) stp25) 2 0 (by decide +kernel)) (.t (show ((decide ((jAt_r (mDo_s (mNewM_s cfg25) stp25) 0 9).exp=0)) && (((jAt_r (mDo_s (mNewM_s cfg25) stp25) 0 9).astray == false) && (((jAt_r (mDo_s (mNewM_s cfg25) stp25) 0 9).drop == false) && (((jAt_r (mDo_s (mNewM_s cfg25) stp25) 0 9).tell == true) && true))))=true from an25_7) (.t (show (jTouched_v0 (mDo_s (mNewM_s cfg25) stp25) 2 0)=true from an25_8) (.t (show (jTouched_v0 (mDo_s (mNewM_s cfg25) stp25) 2 0)=true from an25_8) (.c (ir 2 33) (jTouched (mDo_s (mNewM_s cfg25) stp25) 2 1 (by decide +kernel)) (.t (show (jTouched_v0 (mDo_s (mNewM_s cfg25) stp25) 2 0)=true from an25_8) (.t (show (jTouched_v0 (mDo_s (mNewM_s cfg25) stp25) 2 0)=true from an25_8) .nil)))))))))))))))))))))))))))))))))))))))))
theorem anc25_t:Sp P 41 [] [] (vt true) []:=by
 have h:=anc25
 rw [show anc25_v0=true by decide +kernel] at h
 exact h
end Go.Proofs.YtoflmffbkdekcaaGreat
