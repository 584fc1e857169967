import Derived.Test.YtoflmffbkdekcaaGreatFR24
import Derived.Test.YtoflmffbkdekcaaGreatLMi
namespace Go.Proofs.YtoflmffbkdekcaaGreat
open Go Go.RowKit
set_option linter.unusedVariables false
set_option linter.unusedSimpArgs false
set_option maxRecDepth 100000
def mideal_v0 (c:Cfg) (l:List Stp) (n:Int):Bool:=bif (right24_v0 c) then (bif decide (40 < ((l.length:Nat):Int)) then true else (smI c l n (Ln c.ly).toNat)) else true
theorem mideal (c:Cfg) (l:List Stp) (n:Int) (hs:∀ x ∈ l,StpOk x):Sp P 4 [.ag [vi c.ly.g.ranks,vi c.ly.g.spares,vi c.ly.g.banks,vi c.ly.g.rows,vi c.ly.g.cols,vi c.ly.way,vi c.ly.res,vi c.mode,vi c.rules.rank.limit,vi c.rules.rank.every,vi c.rules.page.limit,vi c.rules.page.every,vi c.rules.room,vi c.rules.heavy,vi c.log,vt c.back],.sl 0,vi n] [.ro (.row eStp l)] (vt (mideal_v0 c l n)) [.ro (.row eStp l)]:=by
 generalize d0:mideal_v0 c l n=yd0
 unfold mideal_v0 at d0
 rcases bft (right24_v0 c) with q1 | q1
 ·rw [cpos q1] at d0
  rcases bft (decide (40 < ((l.length:Nat):Int))) with q2 | q2
  ·rw [cpos q2] at d0
   subst d0
   exact so Tryz.f4 3 [.id 0] (.c [] (anc24_t) (.n (.c [] (right24 c) (.g q1 (.g q1 (.g q1 (.g q1 (.t q2 .nil))))))))
  ·rw [cneg q2] at d0
   have q2':=of_decide_eq_false q2
   subst d0
   exact so Tryz.f4 73 [.id 0] (.c [] (anc24_t) (.n (.c [] (right24 c) (.g q1 (.g q1 (.g q1 (.g q1 (.t q2 (.c [] (built24 c (right24_t q1)) (.c [] (built24 (oCf c) (oCfg (right24_t q1))) (.n (.n (.n (.n (.c (ir 4 33 ++ .id 0 :: []) (mRun (mNewM_s c) l ((mNewM_ok (right24_t q1)).mono (by decide)) hs ((by have:=of_decide_eq_false q2; omega))) (.lp l.length 71 [] [] (fun i=>[(55,vn i)]) (fun i=>[(37,.blk [.pt 53 0,.pt 38 0,.mp 67,.sl 68,.sl 69,vi (bI c l i).scrubs,vi (bI c l i).steps] 122)] ++ nb 38 (bCtl (bI c l i).c 38) ++ [(62,.blk [.pt 63 0,.pt 64 0] 277),(63,hC),(64,.blk [.pt 65 0,.sl 66] 357),(65,gF),(66,.row eB gen),(67,.mp (.ar .u8 64 (nf (fun _=>0))) (mpC (bI c l i).ideal)),(68,.row eInj (bI c l i).inj),(69,.row eSrv (bI c l i).srv)]) (fun i hi=>(.t (show (decide (((i:Nat):Int) < ((l.length:Nat):Int)))=true from decide_eq_true (by omega)) (.ix (i:=i) (m:=l.length) (by omega) (.el (e:=eStp) (gDx (l:=l) (i:=i) eStp0 (by omega)) (.cs 1000016 (decide ((l.getD i eStp0).kind=2)) 72 [] [] (fun z=>[(66,vt (bif z then true else (decide ((l.getD i eStp0).kind=3))))]) (fun z=>[]) (fun hq1=>(.t hq1 (.t hq1 (.t hq1 (.t hq1 .nil))))) (fun hq1=>(.t hq1 (.t hq1 (.t hq1 (.t hq1 .nil))))) (.cs 0 (bif (decide ((l.getD i eStp0).kind=2)) then true else (decide ((l.getD i eStp0).kind=3))) 72 [] [] (fun z=>[]) (fun z=>[(37,.blk [.pt 53 0,.pt 38 0,.mp 67,.sl 68,.sl 69,vi (bif z then (mDo_s (bI c l i) (l.getD i eStp0)) else (bI c l i)).scrubs,vi (bif z then (mDo_s (bI c l i) (l.getD i eStp0)) else (bI c l i)).steps] 122)] ++ nb 38 (bCtl (bif z then (mDo_s (bI c l i) (l.getD i eStp0)) else (bI c l i)).c 38) ++ [(62,.blk [.pt 63 0,.pt 64 0] 277),(63,hC),(64,.blk [.pt 65 0,.sl 66] 357),(65,gF),(66,.row eB gen),(67,.mp (.ar .u8 64 (nf (fun _=>0))) (mpC (bif z then (mDo_s (bI c l i) (l.getD i eStp0)) else (bI c l i)).ideal)),(68,.row eInj (bif z then (mDo_s (bI c l i) (l.getD i eStp0)) else (bI c l i)).inj),(69,.row eSrv (bif z then (mDo_s (bI c l i) (l.getD i eStp0)) else (bI c l i)).srv)]) (fun hq1=>(.t hq1 (.c (ir 37 33) (mDo (bI c l i) (l.getD i eStp0) ((bI_all (right24_t q1) hs i (Nat.le_of_lt hi)).ok.mono (by have:=of_decide_eq_false q2; omega)) (stp_at hs hi)) .nil))) (fun hq1=>(.t hq1 .nil)) (.e 70 (aAdd (a:=((i:Nat):Int)) (b:=1) (c:=((i + 1:Nat):Int)) (by omega)) .nil))))))) (.t (show (decide (((l.length:Nat):Int) < ((l.length:Nat):Int)))=false from decide_eq_false (by omega)) (.c (ir 4 33) (gIdeal (mrS (mNewM_s c) l l.length) n) (.c (ir 37 33) (gIdeal (bI c l l.length) n) (.c [] (lyLines c.ly) (.lp (Ln c.ly).toNat 71 [] [] (fun i=>[(81,vn i),(12,vt (smI c l n i))]) (fun i=>[(37,.blk [.pt 53 0,.pt 38 0,.mp 67,.sl 68,.sl 69,vi (bR c l i).scrubs,vi (bR c l i).steps] 122)] ++ nb 38 (bCtl (bR c l i).c 38) ++ [(62,.blk [.pt 63 0,.pt 64 0] 277),(63,hC),(64,.blk [.pt 65 0,.sl 66] 357),(65,gF),(66,.row eB gen),(67,.mp (.ar .u8 64 (nf (fun _=>0))) (mpC (bR c l i).ideal)),(68,.row eInj (bR c l i).inj),(69,.row eSrv (bR c l i).srv)]) (fun i hi=>(.t (show (decide (((i:Nat):Int) < IntKind.i64.wrap ((lySeen_v0 c.ly) * c.ly.g.cols)))=true from decide_eq_true (ln_lt hi)) (.cs 1000023 (smI c l n i) 71 [] [] (fun z=>[(12,vt (bif z then (eqA (nf ((mrS (mNewM_s c) l l.length).ideal ((i:Nat):Int))) (nf ((bR c l i).ideal ((i:Nat):Int))) 64 0) else false))]) (fun z=>[]) (fun hq1=>(.t hq1 (.t hq1 (.t hq1 (.c (ir 4 33) (gIdeal (mrS (mNewM_s c) l l.length) ((i:Nat):Int)) (.t hq1 (.t hq1 (.t hq1 (.c (ir 37 33) (gIdeal (bR c l i) ((i:Nat):Int)) (.t hq1 (.t hq1 .nil))))))))))) (fun hq1=>(.t hq1 (.t hq1 (.t hq1 (.t hq1 (.t hq1 (.t hq1 (.t hq1 (.t hq1 .nil))))))))) (.c (ir 37 33) (mDo (bR c l i) (rdS i) ((bR_all (right24_t q1) hs i (Nat.le_of_lt hi)).ok.mono (by have:=of_decide_eq_false q2; have:=Ln_le (cfg_t (right24_t q1)).1; omega)) (rdS_ok i)) (.c (ir 4 33) (gIdeal (mrS (mNewM_s c) l l.length) ((i:Nat):Int)) (.t (congrArg (!·) (show ((decide ((mDo_v0 (bR c l i) (rdS i))=0)) && ((decide ((mDo_v1 (bR c l i) (rdS i))=0)) && ((eqA (nf (mDo_v2 (bR c l i) (rdS i))) (nf ((mrS (mNewM_s c) l l.length).ideal ((i:Nat):Int))) 64 0) && true)))=true from (rd_tx (right24_t q1) hs hi))) (.e 104 (aAdd (a:=((i:Nat):Int)) (b:=1) (c:=((i + 1:Nat):Int)) (by have:=Ln_le (cfg_t (right24_t q1)).1; omega)) .nil))))))) (.t (show (decide ((((Ln c.ly).toNat:Nat):Int) < IntKind.i64.wrap ((lySeen_v0 c.ly) * c.ly.g.cols)))=false from decide_eq_false (ln_end c.ly)) .nil))))))))))))))))))))))
 ·rw [cneg q1] at d0
  subst d0
  exact so Tryz.f4 3 [.id 0] (.c [] (anc24_t) (.n (.c [] (right24 c) (.g q1 (.g q1 (.g q1 (.g q1 (.y .nil))))))))
theorem mideal_t {c:Cfg} {l:List Stp} {n:Int} (hs:∀ x ∈ l,StpOk x):mideal_v0 c l n=true:=by
 unfold mideal_v0
 cases h:right24_v0 c with
 | false=>rfl
 | true =>
  rw [cond_true,smI_t (right24_t h) hs n _ (Nat.le_refl _)]
  cases decide (40 < ((l.length:Nat):Int)) <;> rfl
end Go.Proofs.YtoflmffbkdekcaaGreat
