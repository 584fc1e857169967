import Derived.Test.YtfhiggfmkjmeiaaGreatFInt
import Derived.Test.YtfhiggfmkjmeiaaGreatFDev
import Derived.Test.YtfhiggfmkjmeiaaGreatFLed
set_option linter.unusedVariables false
set_option linter.unusedSimpArgs false
set_option linter.unusedSectionVars false
namespace Go.Proofs.YtfhiggfmkjmeiaaGreat
open Go Go.RowKit
set_option maxRecDepth 100000
abbrev bCode (b:Nat):List B:=[.blk [.pt (b + 1) 0,.pt (b + 2) 0] 314,hC,.blk [.pt (b + 3) 0,.sl (b + 4)] 368,gF,.row eB gen]
def enc_v0 (m:Int) (l:Nat->Nat) (n:Int) (b:Bool):Nat->Nat:=bif decide (m=1) then (encB l n b 8) else (encC l n b 2)
theorem enc (m:Int) (l:Nat->Nat) (n:Int) (b:Bool) (hm:m=1 ∨ m=2) (hl:∀ j,l j < 256):Sp P 191 [.pt 0 0,vi m,.ar .u8 64 (nf l),vi n,vt b] (ros (bCode 0)) (.ar .u8 72 (nf (enc_v0 m l n b))) (ros (bCode 0)):=by
 rcases hm with rfl | rfl
 ·simp only [enc_v0,show decide ((1:Int)=1)=true from rfl,cond_true]; exact Eq.mp (by kernel_rfl) (encode_1 l n b hl)
 ·simp only [enc_v0,show decide ((2:Int)=1)=false from rfl,cond_false]; exact Eq.mp (by kernel_rfl) (encode_2 l n b hl)
def dec_v0 (m:Int) (r:Nat->Nat) (n:Int):Nat->Nat:=bif decide (m=1) then (dlB r n) else (dlC r n)
def dec_v1 (m:Int) (r:Nat->Nat) (n:Int):Nat:=bif decide (m=1) then (jk (kB r n) (kB r n).length) else (jk (kC r n) (kC r n).length)
def dec_v2 (m:Int) (r:Nat->Nat) (n:Int):Nat:=bif decide (m=1) then (jfix (kB r n)) else (jfix (kC r n))
theorem dec (m:Int) (r:Nat->Nat) (n:Int) (hm:m=1 ∨ m=2) (hr:∀ j,r j < 256):Sp P 198 [.pt 0 0,vi m,.ar .u8 72 (nf r),vi n] (ros (bCode 0)) (.tu [.ar .u8 64 (nf (dec_v0 m r n)),.ag [vn (dec_v1 m r n),vn (dec_v2 m r n)]]) (ros (bCode 0)):=by
 rcases hm with rfl | rfl
 ·simp only [dec_v0,dec_v1,dec_v2,show decide ((1:Int)=1)=true from rfl,cond_true]; exact Eq.mp (by kernel_rfl) (cdec_1 r n hr)
 ·simp only [dec_v0,dec_v1,dec_v2,show decide ((2:Int)=1)=false from rfl,cond_false]; exact Eq.mp (by kernel_rfl) (cdec_2 r n hr)
theorem enc_lt {m:Int} {l:Nat->Nat} {n:Int} {b:Bool} (hl:∀ j,l j < 256) (j:Nat):enc_v0 m l n b j < 256:=by
 unfold enc_v0
 cases decide (m=1)
 ·exact encC_lt hl n b 2 j
 ·exact encB_lt l n b 8 j
theorem dec_lt {m:Int} {r:Nat->Nat} {n:Int} (hr:∀ j,r j < 256) (j:Nat):dec_v0 m r n j < 256:=by
 have h0:∀ j,(fun _=>0:Nat->Nat) j < 256:=fun _=>(by decide:(0:Nat) < 256)
 have hx:∀ o j,chX (wordR r o 36) n j < 256:=fun o j=>rsfix_lt (wordR_B8 hr o 36) (viF_lt n false) j
 unfold dec_v0 dlC dlB dcB dcC
 cases decide (m=1)
 ·simp only [cond_false]
  cases decide (2<=((jk (kC r n) (kC r n).length:Nat):Int))
  ·exact putN_lt (putN_lt h0 (hx _) _ _) (hx _) _ _ j
  ·exact h0 j
 ·simp only [cond_true]
  cases decide (2<=((jk (kB r n) (kB r n).length:Nat):Int))
  ·exact fwF_lt (fun k=>bitX (wordR r (9 * k) 9) n) j
  ·exact h0 j
def lnOf (l:List Nat):Nat->Nat:=fun j=>l.getD j 0
theorem lnOf_lt {l:List Nat} (h:B8 l) (j:Nat):lnOf l j < 256:=h j
theorem lineOf (l:List Nat) (hl:l.length=64):Sp P 38 [.sl 0] [.ro (.row eB l)] (.tu [.ar .u8 64 (nf (lnOf l)),vn 0]) [.ro (.row eB l)] :=
 so Tryz.f38 3 [.id 0] (.t (congrArg (!·) (show (decide (((l.length:Nat):Int)=64))=true from decide_eq_true (by omega))) (.sl (i:=0) (n:=64) (m:=l.length) (by omega) (.ld (ldN hl) (by rw [← ldN hl,List.drop_zero,List.length_take,eB.csLen,hl]; rfl) rfl .nil)))
def number3_v0 (x:Int) (y:Int) (z:Int) (a:Int) (b:Int) (c:Int):Int:=IntKind.i64.wrap ((IntKind.i64.wrap ((IntKind.i64.wrap ((IntKind.i64.wrap ((IntKind.i64.wrap ((IntKind.i64.wrap (0 * ([a,b,c].getD 2 eI0))) + ([x,y,z].getD 2 eI0))) * ([a,b,c].getD 1 eI0))) + ([x,y,z].getD 1 eI0))) * ([a,b,c].getD 0 eI0))) + ([x,y,z].getD 0 eI0))
theorem number3 (x:Int) (y:Int) (z:Int) (a:Int) (b:Int) (c:Int) :Sp P 260 [.sl 0,.sl 1] [.ro (.row eI [x,y,z]),.ro (.row eI [a,b,c])] (vi (number3_v0 x y z a b c)) [.ro (.row eI [x,y,z]),.ro (.row eI [a,b,c])] :=
 so Tryz.f260 3 [.id 0,.id 1] (.lu 3 (.y (.ix (i:=2) (m:=3) (show 2 < 3 by decide) (.el (e:=eI) (gDx (l:=[a,b,c]) (i:=2) eI0 (show 2 < 3 by decide)) (.ix (i:=2) (m:=3) (show 2 < 3 by decide) (.el (e:=eI) (gDx (l:=[x,y,z]) (i:=2) eI0 (show 2 < 3 by decide)) (.y (.ix (i:=1) (m:=3) (show 1 < 3 by decide) (.el (e:=eI) (gDx (l:=[a,b,c]) (i:=1) eI0 (show 1 < 3 by decide)) (.ix (i:=1) (m:=3) (show 1 < 3 by decide) (.el (e:=eI) (gDx (l:=[x,y,z]) (i:=1) eI0 (show 1 < 3 by decide)) (.y (.ix (i:=0) (m:=3) (show 0 < 3 by decide) (.el (e:=eI) (gDx (l:=[a,b,c]) (i:=0) eI0 (show 0 < 3 by decide)) (.ix (i:=0) (m:=3) (show 0 < 3 by decide) (.el (e:=eI) (gDx (l:=[x,y,z]) (i:=0) eI0 (show 0 < 3 by decide)) (.n .nil)))))))))))))))))
def iBack_v0 (g:Gm) (w:Int) (n:Int):Int:=bif (interRight_v0 g w) then (bif decide (n < 0) then 0 else (bif decide (131072<=n) then 0 else (bif decide (g.atE (IntKind.i64.wrap (n * 2 ^ 6))=0) then (bif decide (g.ranks<=(g.at (IntKind.i64.wrap (n * 2 ^ 6))).rank) then 0 else (bif decide (w=3) then (bif decide (w=0) then (number3_v0 (g.at (IntKind.i64.wrap (n * 2 ^ 6))).row (bits .xor .i64 (g.at (IntKind.i64.wrap (n * 2 ^ 6))).bank (bits .and .i64 (g.at (IntKind.i64.wrap (n * 2 ^ 6))).row (IntKind.i64.wrap (g.banks - 1)))) (g.at (IntKind.i64.wrap (n * 2 ^ 6))).rank g.rows g.banks g.ranks) else (bif decide (w=1) then (number3_v0 (bits .xor .i64 (g.at (IntKind.i64.wrap (n * 2 ^ 6))).bank (bits .and .i64 (g.at (IntKind.i64.wrap (n * 2 ^ 6))).row (IntKind.i64.wrap (g.banks - 1)))) (g.at (IntKind.i64.wrap (n * 2 ^ 6))).row (g.at (IntKind.i64.wrap (n * 2 ^ 6))).rank g.banks g.rows g.ranks) else (number3_v0 (g.at (IntKind.i64.wrap (n * 2 ^ 6))).rank (bits .xor .i64 (g.at (IntKind.i64.wrap (n * 2 ^ 6))).bank (bits .and .i64 (g.at (IntKind.i64.wrap (n * 2 ^ 6))).row (IntKind.i64.wrap (g.banks - 1)))) (g.at (IntKind.i64.wrap (n * 2 ^ 6))).row g.ranks g.banks g.rows))) else (bif decide (w=0) then (number3_v0 (g.at (IntKind.i64.wrap (n * 2 ^ 6))).row (g.at (IntKind.i64.wrap (n * 2 ^ 6))).bank (g.at (IntKind.i64.wrap (n * 2 ^ 6))).rank g.rows g.banks g.ranks) else (bif decide (w=1) then (number3_v0 (g.at (IntKind.i64.wrap (n * 2 ^ 6))).bank (g.at (IntKind.i64.wrap (n * 2 ^ 6))).row (g.at (IntKind.i64.wrap (n * 2 ^ 6))).rank g.banks g.rows g.ranks) else (number3_v0 (g.at (IntKind.i64.wrap (n * 2 ^ 6))).rank (g.at (IntKind.i64.wrap (n * 2 ^ 6))).bank (g.at (IntKind.i64.wrap (n * 2 ^ 6))).row g.ranks g.banks g.rows))))) else 0))) else 0
def iBack_v1 (g:Gm) (w:Int) (n:Int):Nat:=bif (interRight_v0 g w) then (bif decide (n < 0) then 12 else (bif decide (131072<=n) then 12 else (bif decide (g.atE (IntKind.i64.wrap (n * 2 ^ 6))=0) then (bif decide (g.ranks<=(g.at (IntKind.i64.wrap (n * 2 ^ 6))).rank) then 12 else 0) else 12))) else 12
theorem iBack (g : Gm) (w : Int) (n : Int)  : Sp P 202 [.ag [vi g.ranks, vi g.spares, vi g.banks, vi g.rows, vi g.cols], vi w, vi n] [] (.tu [vi (iBack_v0 g w n), vn (iBack_v1 g w n)]) [] := by
 generalize d0:iBack_v0 g w n=yd0
 unfold iBack_v0 at d0
 generalize d1:iBack_v1 g w n=yd1
 unfold iBack_v1 at d1
 rcases bft (interRight_v0 g w) with q1 | q1
 ·rw [cpos q1] at d0
  rw [cpos q1] at d1
  have q1':=interRight_t q1
  rcases bft (decide (n < 0)) with q2 | q2
  ·rw [cpos q2] at d0
   rw [cpos q2] at d1
   subst d0 d1
   exact so Tryz.f202 3 [] (.c [] (interRight g w) (.g2 q1 (.g q1 (.t2 q2 (.t q2 (.y .nil))))))
  ·rw [cneg q2] at d0
   rw [cneg q2] at d1
   rcases bft (decide (131072<=n)) with q3 | q3
   ·rw [cpos q3] at d0
    rw [cpos q3] at d1
    subst d0 d1
    exact so Tryz.f202 3 [] (.c [] (interRight g w) (.g2 q1 (.g q1 (.t2 q2 (.t q2 (.t q3 .nil))))))
   ·rw [cneg q3] at d0
    rw [cneg q3] at d1
    rcases bft (decide (g.atE (IntKind.i64.wrap (n * 2 ^ 6))=0)) with q4 | q4
    ·rw [cpos q4] at d0
     rw [cpos q4] at d1
     rcases bft (decide (g.ranks<=(g.at (IntKind.i64.wrap (n * 2 ^ 6))).rank)) with q5 | q5
     ·rw [cpos q5] at d0
      rw [cpos q5] at d1
      subst d0 d1
      exact so Tryz.f202 4 [] (.c [] (interRight g w) (.g2 q1 (.g q1 (.t2 q2 (.t q2 (.t q3 (.c [] (gat_sp g (IntKind.i64.wrap (n * 2 ^ 6))) (.g4 q4 (.g2 q4 (.t q5 .nil))))))))))
     ·rw [cneg q5] at d0
      rw [cneg q5] at d1
      rcases bft (decide (w=3)) with q6 | q6
      ·rw [cpos q6] at d0
       rcases bft (decide (w=0)) with q7 | q7
       ·rw [cpos q7] at d0
        subst d0 d1
        exact so Tryz.f202 6 [] (.c [] (interRight g w) (.g2 q1 (.g q1 (.t2 q2 (.t q2 (.t q3 (.c [] (gat_sp g (IntKind.i64.wrap (n * 2 ^ 6))) (.g4 q4 (.g2 q4 (.t q5 (.t q6 (.t q7 (.c [.sg 3 0 1 3,.sg 4 0 1 3] (number3 (g.at (IntKind.i64.wrap (n * 2 ^ 6))).row (bits .xor .i64 (g.at (IntKind.i64.wrap (n * 2 ^ 6))).bank (bits .and .i64 (g.at (IntKind.i64.wrap (n * 2 ^ 6))).row (IntKind.i64.wrap (g.banks - 1)))) (g.at (IntKind.i64.wrap (n * 2 ^ 6))).rank g.rows g.banks g.ranks) .nil)))))))))))))
       ·rw [cneg q7] at d0
        rcases bft (decide (w=1)) with q8 | q8
        ·rw [cpos q8] at d0
         subst d0 d1
         exact so Tryz.f202 6 [] (.c [] (interRight g w) (.g2 q1 (.g q1 (.t2 q2 (.t q2 (.t q3 (.c [] (gat_sp g (IntKind.i64.wrap (n * 2 ^ 6))) (.g4 q4 (.g2 q4 (.t q5 (.t q6 (.t q7 (.t q8 (.c [.sg 3 0 1 3,.sg 4 0 1 3] (number3 (bits .xor .i64 (g.at (IntKind.i64.wrap (n * 2 ^ 6))).bank (bits .and .i64 (g.at (IntKind.i64.wrap (n * 2 ^ 6))).row (IntKind.i64.wrap (g.banks - 1)))) (g.at (IntKind.i64.wrap (n * 2 ^ 6))).row (g.at (IntKind.i64.wrap (n * 2 ^ 6))).rank g.banks g.rows g.ranks) .nil))))))))))))))
        ·rw [cneg q8] at d0
         subst d0 d1
         exact so Tryz.f202 6 [] (.c [] (interRight g w) (.g2 q1 (.g q1 (.t2 q2 (.t q2 (.t q3 (.c [] (gat_sp g (IntKind.i64.wrap (n * 2 ^ 6))) (.g4 q4 (.g2 q4 (.t q5 (.t q6 (.t q7 (.t q8 (.c [.sg 3 0 1 3,.sg 4 0 1 3] (number3 (g.at (IntKind.i64.wrap (n * 2 ^ 6))).rank (bits .xor .i64 (g.at (IntKind.i64.wrap (n * 2 ^ 6))).bank (bits .and .i64 (g.at (IntKind.i64.wrap (n * 2 ^ 6))).row (IntKind.i64.wrap (g.banks - 1)))) (g.at (IntKind.i64.wrap (n * 2 ^ 6))).row g.ranks g.banks g.rows) .nil))))))))))))))
      ·rw [cneg q6] at d0
       rcases bft (decide (w=0)) with q7 | q7
       ·rw [cpos q7] at d0
        subst d0 d1
        exact so Tryz.f202 6 [] (.c [] (interRight g w) (.g2 q1 (.g q1 (.t2 q2 (.t q2 (.t q3 (.c [] (gat_sp g (IntKind.i64.wrap (n * 2 ^ 6))) (.g4 q4 (.g2 q4 (.t q5 (.t q6 (.t q7 (.c [.sg 3 0 1 3,.sg 4 0 1 3] (number3 (g.at (IntKind.i64.wrap (n * 2 ^ 6))).row (g.at (IntKind.i64.wrap (n * 2 ^ 6))).bank (g.at (IntKind.i64.wrap (n * 2 ^ 6))).rank g.rows g.banks g.ranks) .nil)))))))))))))
       ·rw [cneg q7] at d0
        rcases bft (decide (w=1)) with q8 | q8
        ·rw [cpos q8] at d0
         subst d0 d1
         exact so Tryz.f202 6 [] (.c [] (interRight g w) (.g2 q1 (.g q1 (.t2 q2 (.t q2 (.t q3 (.c [] (gat_sp g (IntKind.i64.wrap (n * 2 ^ 6))) (.g4 q4 (.g2 q4 (.t q5 (.t q6 (.t q7 (.t q8 (.c [.sg 3 0 1 3,.sg 4 0 1 3] (number3 (g.at (IntKind.i64.wrap (n * 2 ^ 6))).bank (g.at (IntKind.i64.wrap (n * 2 ^ 6))).row (g.at (IntKind.i64.wrap (n * 2 ^ 6))).rank g.banks g.rows g.ranks) .nil))))))))))))))
        ·rw [cneg q8] at d0
         subst d0 d1
         exact so Tryz.f202 6 [] (.c [] (interRight g w) (.g2 q1 (.g q1 (.t2 q2 (.t q2 (.t q3 (.c [] (gat_sp g (IntKind.i64.wrap (n * 2 ^ 6))) (.g4 q4 (.g2 q4 (.t q5 (.t q6 (.t q7 (.t q8 (.c [.sg 3 0 1 3,.sg 4 0 1 3] (number3 (g.at (IntKind.i64.wrap (n * 2 ^ 6))).rank (g.at (IntKind.i64.wrap (n * 2 ^ 6))).bank (g.at (IntKind.i64.wrap (n * 2 ^ 6))).row g.ranks g.banks g.rows) .nil))))))))))))))
    ·rw [cneg q4] at d0
     rw [cneg q4] at d1
     subst d0 d1
     exact so Tryz.f202 4 [] (.c [] (interRight g w) (.g2 q1 (.g q1 (.t2 q2 (.t q2 (.t q3 (.c [] (gat_sp g (IntKind.i64.wrap (n * 2 ^ 6))) (.g4 q4 (.g2 q4 (.y .nil))))))))))
 ·rw [cneg q1] at d0
  rw [cneg q1] at d1
  subst d0 d1
  exact so Tryz.f202 3 [] (.c [] (interRight g w) (.g2 q1 (.g q1 (.y4 .nil))))
structure CtlOk (n:Nat) (s:CtlS):Prop where
 le:LedOk s.le
 d:DevOk s.d
 md:s.le.c.mode=1 ∨ s.le.c.mode=2
 nl:s.notes.length<=n
 dl:s.d.l.length<=n
theorem CtlOk.mono {n m:Nat} {s:CtlS} (h:CtlOk n s) (hm:n<=m):CtlOk m s:=⟨h.le,h.d,h.md,Nat.le_trans h.nl hm,Nat.le_trans h.dl hm⟩
theorem levent_c (s:LedS) (k:Int) (v:Ev):(levent_s s k v).c=s.c:=by
 unfold levent_s
 simp only [Bool.cond_eq_ite]
 repeat (first | rfl | split)
theorem lcame_c (s:LedS) (k:Int) (l:List Ev):∀ i,(lcame s k l i).c=s.c
 | 0=>rfl
 | i + 1=>by rw [lcame,levent_c,lcame_c s k l i]
theorem ljudge_j1_c (s:LedS) (x:Nt):(ljudge_j1 s x).c=s.c:=by unfold ljudge_j1; cases kNote_v1 _ _ _ _ <;> first | rfl | exact lcame_c _ _ _ _
theorem ljudge_j2_c (s:LedS) (x:Nt):(ljudge_j2 s x).c=s.c:=by unfold ljudge_j2; cases kNote_v0 _ _ _ _ <;> first | exact ljudge_j1_c s x | exact (lcame_c _ _ _ _).trans (ljudge_j1_c s x)
theorem ljudge_j3_c (s:LedS) (x:Nt):(ljudge_j3 s x).c=s.c:=by unfold ljudge_j3; cases kNote_v1 _ _ _ _ <;> first | rfl | exact lcame_c _ _ _ _
theorem ljudge_j4_c (s:LedS) (x:Nt):(ljudge_j4 s x).c=s.c:=by unfold ljudge_j4; cases kNote_v0 _ _ _ _ <;> first | exact ljudge_j3_c s x | exact (lcame_c _ _ _ _).trans (ljudge_j3_c s x)
theorem ljudge_c (s:LedS) (x:Nt):(ljudge_s s x).c=s.c:=by
 unfold ljudge_s
 simp only [Bool.cond_eq_ite]
 repeat (first | rfl | exact ljudge_j2_c s x | exact ljudge_j4_c s x | split)
theorem lapply_c (s:LedS) (x:Nt):(lapply_s s x).c=s.c:=by
 unfold lapply_s
 simp only [Bool.cond_eq_ite]
 repeat (first | rfl | exact ljudge_c s x | exact lcame_c _ _ _ _ | split)
theorem lapply_ok {s:LedS} {x:Nt} (ok:LedOk s):LedOk (lapply_s s x):=by
 unfold lapply_s
 simp only [Bool.cond_eq_ite]
 repeat (first | exact ok | exact ljudge_ok ok | exact lcame_ok (LedOk.step ok) _ | exact LedOk.clear ok | exact LedOk.tm (s:={ s with trk:=kTick_s s.trk }) (LedOk.tick ok) | split)
def cnote_s (s:CtlS) (x:Nt):CtlS:=(⟨(lapply_s s.le x),s.d,s.cur,s.notes ++ [x]⟩:CtlS)
theorem cnote (s:CtlS) (x:Nt) (ok:CtlOk 100000000 s):Sp P 131 [.pt 0 0,.ag [vi x.kind,vi x.vk,vi x.vf,vi x.index,vi x.home,vi x.rank]] (bCtl s 0 ++ ros (bCode 24)) (.tu []) (bCtl (cnote_s s x) 0 ++ ros (bCode 24)) :=
 so Tryz.f131 7 (ir 0 23 ++ .id 32 :: ir 24 5) (.ap (e:=eNt) (l:=s.notes) (l':=[x]) .row (.flat [vi x.kind,vi x.vk,vi x.vf,vi x.index,vi x.home,vi x.rank] [x] rfl) (by have:=ok.nl; simp only [List.length_cons,List.length_nil]; omega) (.c (ir 1 14) (lapply s.le x ok.le) .nil))
def cput_s (s:CtlS) (i:Int) (l:Nat->Nat) (b:Bool):CtlS:=bif b then { s with d:=(vput_s s.d i (enc_v0 s.le.c.mode l i b) 1) } else { s with d:=(vput_s s.d i (enc_v0 s.le.c.mode l i b) 0) }
theorem cput (s:CtlS) (i:Int) (l:Nat->Nat) (b:Bool) (ok:CtlOk 100000000 s) (hl:∀ j,l j < 256):Sp P 120 [.pt 0 0,vi i,.ar .u8 64 (nf l),vt b] (bCtl s 0 ++ ros (bCode 24)) (.tu []) (bCtl (cput_s s i l b) 0 ++ ros (bCode 24)):=by
 generalize d0:cput_s s i l b=yd0
 unfold cput_s at d0
 rcases bft b with q1 | q1
 ·rw [cpos q1] at d0
  subst d0
  exact so Tryz.f120 7 (ir 0 29) (.c (ir 24 5) (enc s.le.c.mode l i b ok.md hl) (.t q1 (.c (ir 15 8) (vMark s.d i (enc_v0 s.le.c.mode l i b) ok.d ok.dl) .nil)))
 ·rw [cneg q1] at d0
  subst d0
  exact so Tryz.f120 7 (ir 0 29) (.c (ir 24 5) (enc s.le.c.mode l i b ok.md hl) (.t q1 (.c (ir 15 8) (vWrite s.d i (enc_v0 s.le.c.mode l i b) ok.d ok.dl) .nil)))
theorem vput_len (s:DevS) (i:Int) (r:Nat->Nat) (m:Int):(vput_s s i r m).l.length<=s.l.length + 1:=by
 unfold vput_s
 simp only [Bool.cond_eq_ite]
 split
 ·show (s.l ++ [_]).length<=_; rw [List.length_append]; exact Nat.le_refl _
 ·exact Nat.le_succ _
theorem vRead_len (s:DevS) (i:Int):(vRead_s s i).l.length<=s.l.length + 1:=by
 unfold vRead_s
 simp only [Bool.cond_eq_ite]
 repeat (first | exact Nat.le_succ _ | (show (s.l ++ [_]).length<=_; rw [List.length_append]; exact Nat.le_refl _) | split)
theorem cnote_ok {n:Nat} {s:CtlS} {x:Nt} (ok:CtlOk n s):CtlOk (n + 1) (cnote_s s x) :=
 ⟨lapply_ok ok.le,ok.d,by show (lapply_s s.le x).c.mode=1 ∨ (lapply_s s.le x).c.mode=2; rw [lapply_c]; exact ok.md,by show (s.notes ++ [x]).length<=n + 1; rw [List.length_append]; have:=ok.nl; show s.notes.length + 1<=n + 1; omega,Nat.le_succ_of_le ok.dl⟩
theorem cput_ok {n:Nat} {s:CtlS} {i:Int} {l:Nat->Nat} {b:Bool} (ok:CtlOk n s) (hl:∀ j,l j < 256):CtlOk (n + 1) (cput_s s i l b):=by
 have h:=vput_len s.d i (enc_v0 s.le.c.mode l i b)
 have:=ok.dl
 unfold cput_s
 cases b
 ·exact ⟨ok.le,vput_ok ok.d (enc_lt hl),ok.md,Nat.le_succ_of_le ok.nl,by show (vput_s _ _ _ _).l.length<=n + 1; have:=h 0; omega⟩
 ·exact ⟨ok.le,vput_ok ok.d (enc_lt hl),ok.md,Nat.le_succ_of_le ok.nl,by show (vput_s _ _ _ _).l.length<=n + 1; have:=h 1; omega⟩
theorem CtlOk.read {n:Nat} {s:CtlS} {i:Int} (ok:CtlOk n s):CtlOk (n + 1) { s with d:=vRead_s s.d i } :=
 ⟨ok.le,vRead_ok ok.d,ok.md,Nat.le_succ_of_le ok.nl,by have:=vRead_len s.d i; have:=ok.dl; show (vRead_s s.d i).l.length<=n + 1; omega⟩
theorem CtlOk.cur {n:Nat} {s:CtlS} {i:Int} (ok:CtlOk n s):CtlOk n { s with cur:=i }:=⟨ok.le,ok.d,ok.md,ok.nl,ok.dl⟩
def ctake_s (s:CtlS) (i:Int) (h:Int) (r:Int):CtlS:=cnote_s { s with d:=(vRead_s s.d i) } (⟨1,(((dec_v1 s.le.c.mode (vRead_v0 s.d i) i):Nat):Int),(((dec_v2 s.le.c.mode (vRead_v0 s.d i) i):Nat):Int),i,h,r⟩:Nt)
theorem ctake (s:CtlS) (i:Int) (h:Int) (r:Int) (ok:CtlOk 99000000 s):Sp P 125 [.pt 0 0,.ag [vi i,vi h,vi r]] (bCtl s 0 ++ ros (bCode 24)) (.tu [.ar .u8 64 (nf (dec_v0 s.le.c.mode (vRead_v0 s.d i) i)),.ag [vn (dec_v1 s.le.c.mode (vRead_v0 s.d i) i),vn (dec_v2 s.le.c.mode (vRead_v0 s.d i) i)]]) (bCtl (ctake_s s i h r) 0 ++ ros (bCode 24)) :=
 so Tryz.f125 15 (ir 0 29) (.c (ir 15 8) (vRead s.d i ok.d (Nat.le_trans ok.dl (by decide))) (.c (ir 24 5) (dec s.le.c.mode (vRead_v0 s.d i) i ok.md (vRead_lt ok.d)) (.c (ir 0 29) (cnote { s with d:=(vRead_s s.d i) } (⟨1,(((dec_v1 s.le.c.mode (vRead_v0 s.d i) i):Nat):Int),(((dec_v2 s.le.c.mode (vRead_v0 s.d i) i):Nat):Int),i,h,r⟩:Nt) ((CtlOk.mono (CtlOk.read (s:=s) ok) (by decide)))) .nil)))
theorem ctake_ok {n:Nat} {s:CtlS} {i h r:Int} (ok:CtlOk n s):CtlOk (n + 2) (ctake_s s i h r):=cnote_ok ok.read
def told_v0 (k:Int) (f:Int):Nat:=bif decide (k=3) then 40 else (bif decide (k=2) then 41 else 0)
theorem told (k:Int) (f:Int) :Sp P 126 [.ag [vi k,vi f]] [] (vn (told_v0 k f)) []:=by
 generalize d0:told_v0 k f=yd0
 unfold told_v0 at d0
 rcases bft (decide (k=3)) with q1 | q1
 ·rw [cpos q1] at d0
  subst d0
  exact so Tryz.f126 3 [] (.t q1 .nil)
 ·rw [cneg q1] at d0
  rcases bft (decide (k=2)) with q2 | q2
  ·rw [cpos q2] at d0
   subst d0
   exact so Tryz.f126 3 [] (.t q1 (.t q2 .nil))
  ·rw [cneg q2] at d0
   subst d0
   exact so Tryz.f126 3 [] (.t q1 (.t q2 .nil))
def cat_v0 (s:CtlS) (i:Int):Int:=bif decide ((jroute_v1 s.le.rep.j s.le.rep.m i)=0) then (jroute_v0 s.le.rep.j s.le.rep.m i) else 0
def cat_v1 (s:CtlS) (i:Int):Int:=bif decide ((jroute_v1 s.le.rep.j s.le.rep.m i)=0) then (mIndex_v1 s.le.rep.m i) else 0
def cat_v2 (s:CtlS) (i:Int):Int:=bif decide ((jroute_v1 s.le.rep.j s.le.rep.m i)=0) then (mIndex_v2 s.le.rep.m i) else 0
def cat_v3 (s:CtlS) (i:Int):Nat:=bif decide ((jroute_v1 s.le.rep.j s.le.rep.m i)=0) then 0 else 30
theorem cat (s:CtlS) (i:Int) (ok:CtlOk 100000000 s):Sp P 123 [.pt 0 0,vi i] (ros (bCtl s 0) ++ ros (bCode 24)) (.tu [.ag [vi (cat_v0 s i),vi (cat_v1 s i),vi (cat_v2 s i)],vn (cat_v3 s i)]) (ros (bCtl s 0) ++ ros (bCode 24)):=by
 generalize d0:cat_v0 s i=yd0
 unfold cat_v0 at d0
 generalize d1:cat_v1 s i=yd1
 unfold cat_v1 at d1
 generalize d2:cat_v2 s i=yd2
 unfold cat_v2 at d2
 generalize d3:cat_v3 s i=yd3
 unfold cat_v3 at d3
 rcases bft (decide ((jroute_v1 s.le.rep.j s.le.rep.m i)=0)) with q1 | q1
 ·rw [cpos q1] at d0
  rw [cpos q1] at d1
  rw [cpos q1] at d2
  rw [cpos q1] at d3
  subst d0 d1 d2 d3
  exact so Tryz.f123 3 (ir 0 29) (.c (ir 2 7) (rpRoute s.le.rep i ok.le.rep) (.g q1 .nil))
 ·rw [cneg q1] at d0
  rw [cneg q1] at d1
  rw [cneg q1] at d2
  rw [cneg q1] at d3
  subst d0 d1 d2 d3
  exact so Tryz.f123 3 (ir 0 29) (.c (ir 2 7) (rpRoute s.le.rep i ok.le.rep) (.g q1 .nil))
def cread_s (s:CtlS) (i:Int) (b:Bool):CtlS:=bif decide ((((cat_v3 s i):Nat):Int)=0) then (bif decide ((((dec_v1 s.le.c.mode (vRead_v0 s.d (cat_v0 s i)) (cat_v0 s i)):Nat):Int)=1) then (bif b then (cput_s (ctake_s s (cat_v0 s i) (cat_v1 s i) (cat_v2 s i)) (cat_v0 s i) (dec_v0 s.le.c.mode (vRead_v0 s.d (cat_v0 s i)) (cat_v0 s i)) false) else (ctake_s s (cat_v0 s i) (cat_v1 s i) (cat_v2 s i))) else (ctake_s s (cat_v0 s i) (cat_v1 s i) (cat_v2 s i))) else s
def cread_v0 (s:CtlS) (i:Int) (b:Bool):Nat->Nat:=bif decide ((((cat_v3 s i):Nat):Int)=0) then (dec_v0 s.le.c.mode (vRead_v0 s.d (cat_v0 s i)) (cat_v0 s i)) else (fun _=>0)
def cread_v1 (s:CtlS) (i:Int) (b:Bool):Nat:=bif decide ((((cat_v3 s i):Nat):Int)=0) then (told_v0 (((dec_v1 s.le.c.mode (vRead_v0 s.d (cat_v0 s i)) (cat_v0 s i)):Nat):Int) (((dec_v2 s.le.c.mode (vRead_v0 s.d (cat_v0 s i)) (cat_v0 s i)):Nat):Int)) else (cat_v3 s i)
theorem cread (s:CtlS) (i:Int) (b:Bool) (ok:CtlOk 98000000 s):Sp P 110 [.pt 0 0,vi i,vt b] (bCtl s 0 ++ ros (bCode 24)) (.tu [.ar .u8 64 (nf (cread_v0 s i b)),vn (cread_v1 s i b)]) (bCtl (cread_s s i b) 0 ++ ros (bCode 24)):=by
 generalize d0:cread_s s i b=yd0
 unfold cread_s at d0
 generalize d1:cread_v0 s i b=yd1
 unfold cread_v0 at d1
 generalize d2:cread_v1 s i b=yd2
 unfold cread_v1 at d2
 rcases bft (decide ((((cat_v3 s i):Nat):Int)=0)) with q1 | q1
 ·rw [cpos q1] at d0
  rw [cpos q1] at d1
  rw [cpos q1] at d2
  rcases bft (decide ((((dec_v1 s.le.c.mode (vRead_v0 s.d (cat_v0 s i)) (cat_v0 s i)):Nat):Int)=1)) with q2 | q2
  ·rw [cpos q2] at d0
   rcases bft b with q3 | q3
   ·rw [cpos q3] at d0
    subst d0 d1 d2
    exact so Tryz.f110 8 (ir 0 29) (.c (ir 0 29) (cat s i ((CtlOk.mono ok (by decide)))) (.g q1 (.c (ir 0 29) (ctake s (cat_v0 s i) (cat_v1 s i) (cat_v2 s i) ((CtlOk.mono ok (by decide)))) (.t2 q2 (.t q3 (.c (ir 0 29) (cput (ctake_s s (cat_v0 s i) (cat_v1 s i) (cat_v2 s i)) (cat_v0 s i) (dec_v0 s.le.c.mode (vRead_v0 s.d (cat_v0 s i)) (cat_v0 s i)) false ((CtlOk.mono (ctake_ok ok) (by decide))) (dec_lt (vRead_lt ok.d))) (.c [] (told (((dec_v1 s.le.c.mode (vRead_v0 s.d (cat_v0 s i)) (cat_v0 s i)):Nat):Int) (((dec_v2 s.le.c.mode (vRead_v0 s.d (cat_v0 s i)) (cat_v0 s i)):Nat):Int)) .nil)))))))
   ·rw [cneg q3] at d0
    subst d0 d1 d2
    exact so Tryz.f110 8 (ir 0 29) (.c (ir 0 29) (cat s i ((CtlOk.mono ok (by decide)))) (.g q1 (.c (ir 0 29) (ctake s (cat_v0 s i) (cat_v1 s i) (cat_v2 s i) ((CtlOk.mono ok (by decide)))) (.t2 q2 (.t q3 (.c [] (told (((dec_v1 s.le.c.mode (vRead_v0 s.d (cat_v0 s i)) (cat_v0 s i)):Nat):Int) (((dec_v2 s.le.c.mode (vRead_v0 s.d (cat_v0 s i)) (cat_v0 s i)):Nat):Int)) .nil))))))
  ·rw [cneg q2] at d0
   subst d0 d1 d2
   exact so Tryz.f110 8 (ir 0 29) (.c (ir 0 29) (cat s i ((CtlOk.mono ok (by decide)))) (.g q1 (.c (ir 0 29) (ctake s (cat_v0 s i) (cat_v1 s i) (cat_v2 s i) ((CtlOk.mono ok (by decide)))) (.t2 q2 (.n (.c [] (told (((dec_v1 s.le.c.mode (vRead_v0 s.d (cat_v0 s i)) (cat_v0 s i)):Nat):Int) (((dec_v2 s.le.c.mode (vRead_v0 s.d (cat_v0 s i)) (cat_v0 s i)):Nat):Int)) .nil))))))
 ·rw [cneg q1] at d0
  rw [cneg q1] at d1
  rw [cneg q1] at d2
  subst d0 d1 d2
  exact so Tryz.f110 4 (ir 0 29) (.c (ir 0 29) (cat s i ((CtlOk.mono ok (by decide)))) (.g q1 .nil))
theorem cRead (s:CtlS) (i:Int) (ok:CtlOk 98000000 s):Sp P 39 [.pt 0 0,vi i] (bCtl s 0 ++ ros (bCode 24)) (.tu [.ar .u8 64 (nf (cread_v0 s i s.le.c.back)),vn (cread_v1 s i s.le.c.back)]) (bCtl (cread_s s i s.le.c.back) 0 ++ ros (bCode 24)) :=
 so Tryz.f39 3 (ir 0 29) (.c (ir 0 29) (cread s i s.le.c.back ((CtlOk.mono ok (by decide)))) .nil)
def cMasked_s (s:CtlS) (i:Int) (l:List Nat) (m:Nat):CtlS:=bif decide ((((cat_v3 s i):Nat):Int)=0) then (bif decide (((m:Nat):Int)=0) then s else (bif decide (((wt m:Nat):Int)=64) then (cput_s s (cat_v0 s i) (lnOf l) false) else (bif decide ((((told_v0 (((dec_v1 s.le.c.mode (vRead_v0 s.d (cat_v0 s i)) (cat_v0 s i)):Nat):Int) (((dec_v2 s.le.c.mode (vRead_v0 s.d (cat_v0 s i)) (cat_v0 s i)):Nat):Int)):Nat):Int)=0) then (cput_s (ctake_s s (cat_v0 s i) (cat_v1 s i) (cat_v2 s i)) (cat_v0 s i) (mgF (dec_v0 s.le.c.mode (vRead_v0 s.d (cat_v0 s i)) (cat_v0 s i)) (lnOf l) m) false) else (cput_s (ctake_s s (cat_v0 s i) (cat_v1 s i) (cat_v2 s i)) (cat_v0 s i) (fun _=>0) true)))) else s
def cMasked_v0 (s:CtlS) (i:Int) (l:List Nat) (m:Nat):Nat:=bif decide ((((cat_v3 s i):Nat):Int)=0) then (bif decide (((m:Nat):Int)=0) then 30 else (bif decide (((wt m:Nat):Int)=64) then 0 else (bif decide ((((told_v0 (((dec_v1 s.le.c.mode (vRead_v0 s.d (cat_v0 s i)) (cat_v0 s i)):Nat):Int) (((dec_v2 s.le.c.mode (vRead_v0 s.d (cat_v0 s i)) (cat_v0 s i)):Nat):Int)):Nat):Int)=0) then 0 else (told_v0 (((dec_v1 s.le.c.mode (vRead_v0 s.d (cat_v0 s i)) (cat_v0 s i)):Nat):Int) (((dec_v2 s.le.c.mode (vRead_v0 s.d (cat_v0 s i)) (cat_v0 s i)):Nat):Int))))) else 30
theorem cMasked (s:CtlS) (i:Int) (l:List Nat) (m:Nat) (ok:CtlOk 98000000 s) (hl:l.length=64) (bl:B8 l) (hm:m < 18446744073709551616):Sp P 54 [.pt 0 0,vi i,.sl 29,vu m] (bCtl s 0 ++ ros (bCode 24) ++ [.ro (.row eB l)]) (vn (cMasked_v0 s i l m)) (bCtl (cMasked_s s i l m) 0 ++ ros (bCode 24) ++ [.ro (.row eB l)]):=by
 generalize d0:cMasked_s s i l m=yd0
 unfold cMasked_s at d0
 generalize d1:cMasked_v0 s i l m=yd1
 unfold cMasked_v0 at d1
 rcases bft (decide ((((cat_v3 s i):Nat):Int)=0)) with q1 | q1
 ·rw [cpos q1] at d0
  rw [cpos q1] at d1
  have q1':=of_decide_eq_true q1
  rcases bft (decide (((m:Nat):Int)=0)) with q2 | q2
  ·rw [cpos q2] at d0
   rw [cpos q2] at d1
   have q2':=of_decide_eq_true q2
   subst d0 d1
   exact so Tryz.f54 4 (ir 0 30) (.c (ir 0 29) (cat s i ((CtlOk.mono ok (by decide)))) (.c [.id 29] (lineOf l (by first | assumption | omega)) (.g2 q1 (.g q1 (.n2 (.n (.t q2 .nil)))))))
  ·rw [cneg q2] at d0
   rw [cneg q2] at d1
   have q2':=of_decide_eq_false q2
   rcases bft (decide (((wt m:Nat):Int)=64)) with q3 | q3
   ·rw [cpos q3] at d0
    rw [cpos q3] at d1
    have q3':=of_decide_eq_true q3
    subst d0 d1
    exact so Tryz.f54 4 (ir 0 30) (.c (ir 0 29) (cat s i ((CtlOk.mono ok (by decide)))) (.c [.id 29] (lineOf l (by first | assumption | omega)) (.g2 q1 (.g q1 (.n2 (.n (.t q2 (.c [] (full_sp m hm) (.t q3 (.c (ir 0 29) (cput s (cat_v0 s i) (lnOf l) false ((CtlOk.mono ok (by decide))) (lnOf_lt bl)) .nil))))))))))
   ·rw [cneg q3] at d0
    rw [cneg q3] at d1
    have q3':=of_decide_eq_false q3
    rcases bft (decide ((((told_v0 (((dec_v1 s.le.c.mode (vRead_v0 s.d (cat_v0 s i)) (cat_v0 s i)):Nat):Int) (((dec_v2 s.le.c.mode (vRead_v0 s.d (cat_v0 s i)) (cat_v0 s i)):Nat):Int)):Nat):Int)=0)) with q4 | q4
    ·rw [cpos q4] at d0
     rw [cpos q4] at d1
     have q4':=of_decide_eq_true q4
     subst d0 d1
     exact so Tryz.f54 8 (ir 0 30) (.c (ir 0 29) (cat s i ((CtlOk.mono ok (by decide)))) (.c [.id 29] (lineOf l (by first | assumption | omega)) (.g2 q1 (.g q1 (.n2 (.n (.t q2 (.c [] (full_sp m hm) (.t q3 (.c (ir 0 29) (ctake s (cat_v0 s i) (cat_v1 s i) (cat_v2 s i) ((CtlOk.mono ok (by decide)))) (.c [] (told (((dec_v1 s.le.c.mode (vRead_v0 s.d (cat_v0 s i)) (cat_v0 s i)):Nat):Int) (((dec_v2 s.le.c.mode (vRead_v0 s.d (cat_v0 s i)) (cat_v0 s i)):Nat):Int)) (.g q4 (.c [] (merge_sp (dec_v0 s.le.c.mode (vRead_v0 s.d (cat_v0 s i)) (cat_v0 s i)) (lnOf l) m hm) (.c (ir 0 29) (cput (ctake_s s (cat_v0 s i) (cat_v1 s i) (cat_v2 s i)) (cat_v0 s i) (mgF (dec_v0 s.le.c.mode (vRead_v0 s.d (cat_v0 s i)) (cat_v0 s i)) (lnOf l) m) false ((CtlOk.mono (ctake_ok ok) (by decide))) (mgF_lt (dec_lt (vRead_lt ok.d)) (lnOf_lt bl) _)) .nil))))))))))))))
    ·rw [cneg q4] at d0
     rw [cneg q4] at d1
     have q4':=of_decide_eq_false q4
     subst d0 d1
     exact so Tryz.f54 6 (ir 0 30) (.c (ir 0 29) (cat s i ((CtlOk.mono ok (by decide)))) (.c [.id 29] (lineOf l (by first | assumption | omega)) (.g2 q1 (.g q1 (.n2 (.n (.t q2 (.c [] (full_sp m hm) (.t q3 (.c (ir 0 29) (ctake s (cat_v0 s i) (cat_v1 s i) (cat_v2 s i) ((CtlOk.mono ok (by decide)))) (.c [] (told (((dec_v1 s.le.c.mode (vRead_v0 s.d (cat_v0 s i)) (cat_v0 s i)):Nat):Int) (((dec_v2 s.le.c.mode (vRead_v0 s.d (cat_v0 s i)) (cat_v0 s i)):Nat):Int)) (.g q4 (.c (ir 0 29) (cput (ctake_s s (cat_v0 s i) (cat_v1 s i) (cat_v2 s i)) (cat_v0 s i) (fun _=>0) true ((CtlOk.mono (ctake_ok ok) (by decide))) (fun _=>(by decide:(0:Nat) < 256))) .nil)))))))))))))
 ·rw [cneg q1] at d0
  rw [cneg q1] at d1
  have q1':=of_decide_eq_false q1
  subst d0 d1
  exact so Tryz.f54 4 (ir 0 30) (.c (ir 0 29) (cat s i ((CtlOk.mono ok (by decide)))) (.c [.id 29] (lineOf l (by first | assumption | omega)) (.g2 q1 (.g q1 (.y4 .nil)))))
def cWrite_s (s:CtlS) (i:Int) (l:List Nat):CtlS:=cMasked_s s i l 18446744073709551615
theorem cWrite (s:CtlS) (i:Int) (l:List Nat) (ok:CtlOk 98000000 s) (hl:l.length=64) (bl:B8 l):Sp P 34 [.pt 0 0,vi i,.sl 29] (bCtl s 0 ++ ros (bCode 24) ++ [.ro (.row eB l)]) (vn (cMasked_v0 s i l 18446744073709551615)) (bCtl (cWrite_s s i l) 0 ++ ros (bCode 24) ++ [.ro (.row eB l)]) :=
 so Tryz.f34 3 (ir 0 30) (.c (ir 0 30) (cMasked s i l 18446744073709551615 ok hl bl (by decide)) .nil)
theorem bifC {n:Nat} {c:Bool} {a b:CtlS} (ha:CtlOk n a) (hb:CtlOk n b):CtlOk n (bif c then a else b):=by cases c <;> assumption
theorem dec_ltA {n:Nat} {s:CtlS} (ok:CtlOk n s) (a:Int):∀ j,dec_v0 s.le.c.mode (vRead_v0 s.d a) a j < 256:=fun j=>dec_lt (vRead_lt ok.d) j
theorem cread_ok {n:Nat} {s:CtlS} {i:Int} {b:Bool} (ok:CtlOk n s):CtlOk (n + 3) (cread_s s i b):=by
 have h0:CtlOk (n + 3) s:=ok.mono (by omega)
 have h2:∀ a b c,CtlOk (n + 3) (ctake_s s a b c):=fun a b c=>(ctake_ok ok).mono (Nat.le_succ _)
 have h3:∀ a b c,CtlOk (n + 3) (cput_s (ctake_s s a b c) a (dec_v0 s.le.c.mode (vRead_v0 s.d a) a) false):=fun a b c=>cput_ok (ctake_ok ok) (dec_ltA ok a)
 unfold cread_s
 exact bifC (bifC (bifC (h3 _ _ _) (h2 _ _ _)) (h2 _ _ _)) h0
theorem cMasked_ok {n:Nat} {s:CtlS} {i:Int} {l:List Nat} {m:Nat} (ok:CtlOk n s) (bl:B8 l):CtlOk (n + 3) (cMasked_s s i l m):=by
 have h0:CtlOk (n + 3) s:=ok.mono (by omega)
 have h1:∀ j,(fun _=>0:Nat->Nat) j < 256:=fun _=>(by decide:(0:Nat) < 256)
 have h2:∀ a,CtlOk (n + 3) (cput_s s a (lnOf l) false):=fun a=>(cput_ok ok (lnOf_lt bl)).mono (by omega)
 have h3:∀ a b c,CtlOk (n + 3) (cput_s (ctake_s s a b c) a (mgF (dec_v0 s.le.c.mode (vRead_v0 s.d a) a) (lnOf l) m) false):=fun a b c=>cput_ok (ctake_ok ok) (mgF_lt (dec_ltA ok a) (lnOf_lt bl) m)
 have h4:∀ a b c,CtlOk (n + 3) (cput_s (ctake_s s a b c) a (fun _=>0) true):=fun a b c=>cput_ok (ctake_ok ok) h1
 unfold cMasked_s
 exact bifC (bifC h0 (bifC (h2 _) (bifC (h3 _ _ _) (h4 _ _ _)))) h0
theorem lines_ne {l:Ly} (h:lyRight_v0 l=true):IntKind.i64.wrap (lySeen_v0 l * l.g.cols) ≠ 0:=by
 obtain ⟨h1,h2,h3,h4,h5,h6,h7,h8,h9,h10⟩:=ly_rt h
 have:=mul_pos' (a:=lySeen_v0 l) (b:=l.g.cols) h5 h9
 rw [h7]; omega
def cScrub_s (s:CtlS):CtlS:=cread_s { s with cur:=(IntKind.i64.wrap (s.cur + 1)).tmod (IntKind.i64.wrap ((lySeen_v0 s.le.c.ly) * s.le.c.ly.g.cols)) } s.cur true
def cScrub_v0 (s:CtlS):Nat:=cread_v1 { s with cur:=(IntKind.i64.wrap (s.cur + 1)).tmod (IntKind.i64.wrap ((lySeen_v0 s.le.c.ly) * s.le.c.ly.g.cols)) } s.cur true
theorem cScrub (s:CtlS) (ok:CtlOk 97000000 s) (hly:IntKind.i64.wrap (lySeen_v0 s.le.c.ly * s.le.c.ly.g.cols) ≠ 0):Sp P 56 [.pt 0 0] (bCtl s 0 ++ ros (bCode 24)) (.tu [vi s.cur,vn (cScrub_v0 s)]) (bCtl (cScrub_s s) 0 ++ ros (bCode 24)) :=
 so Tryz.f56 3 (ir 0 29) (.c [] (lyLines s.le.c.ly) (.p 23 (pRemI (IntKind.i64.wrap (s.cur + 1)) (IntKind.i64.wrap ((lySeen_v0 s.le.c.ly) * s.le.c.ly.g.cols)) (hly)) (.c (ir 0 29) (cread { s with cur:=(IntKind.i64.wrap (s.cur + 1)).tmod (IntKind.i64.wrap ((lySeen_v0 s.le.c.ly) * s.le.c.ly.g.cols)) } s.cur true ((CtlOk.mono (CtlOk.cur (s:=s) ok) (by decide)))) .nil)))
def csource_v0 (s:CtlS) (i:Int):Int:=bif decide (s.le.rep.j.kind=2) then (iBack_v0 s.le.rep.m.l.g s.le.rep.m.l.way (i.fdiv (2 ^ 6))) else s.le.rep.j.src
def csource_v1 (s:CtlS) (i:Int):Int:=bif decide (s.le.rep.j.kind=2) then s.le.rep.j.src else ((iPage_v0 s.le.rep.m.l.g s.le.rep.m.l.way s.le.rep.j.src).fdiv (2 ^ 14))
theorem csource (s:CtlS) (i:Int) :Sp P 129 [.pt 0 0,vi i] (ros (bCtl s 0) ++ ros (bCode 24)) (.ag [vi i,vi (csource_v0 s i),vi (csource_v1 s i)]) (ros (bCtl s 0) ++ ros (bCode 24)):=by
 generalize d0:csource_v0 s i=yd0
 unfold csource_v0 at d0
 generalize d1:csource_v1 s i=yd1
 unfold csource_v1 at d1
 rcases bft (decide (s.le.rep.j.kind=2)) with q1 | q1
 ·rw [cpos q1] at d0
  rw [cpos q1] at d1
  subst d0 d1
  exact so Tryz.f129 10 (ir 0 29) (.c (ir 2 7) (rpJob s.le.rep) (.c (ir 2 7) (rpMap s.le.rep) (.c (ir 3 4) (mLayout s.le.rep.m) (.t q1 (.c [] (iBack s.le.rep.m.l.g s.le.rep.m.l.way (i.fdiv (2 ^ 6))) .nil)))))
 ·rw [cneg q1] at d0
  rw [cneg q1] at d1
  subst d0 d1
  exact so Tryz.f129 10 (ir 0 29) (.c (ir 2 7) (rpJob s.le.rep) (.c (ir 2 7) (rpMap s.le.rep) (.c (ir 3 4) (mLayout s.le.rep.m) (.t q1 (.c [] (iPage s.le.rep.m.l.g s.le.rep.m.l.way s.le.rep.j.src) .nil)))))
def ccopy_j1 (s:CtlS):CtlS:=bif (mUsed_v0 s.le.rep.m (csource_v0 s (rpNext_v0 s.le.rep))) then (cput_s (ctake_s s (rpNext_v0 s.le.rep) (csource_v0 s (rpNext_v0 s.le.rep)) (csource_v1 s (rpNext_v0 s.le.rep))) (rpNext_v1 s.le.rep) (dec_v0 s.le.c.mode (vRead_v0 s.d (rpNext_v0 s.le.rep)) (rpNext_v0 s.le.rep)) (decide (2<=(((dec_v1 s.le.c.mode (vRead_v0 s.d (rpNext_v0 s.le.rep)) (rpNext_v0 s.le.rep)):Nat):Int)))) else (cput_s s (rpNext_v1 s.le.rep) (fun _=>0) false)
theorem ccopy_j1_ok {n:Nat} {s:CtlS} (ok:CtlOk n s):CtlOk (n + 3) (ccopy_j1 s) :=
 bifC (cput_ok (ctake_ok ok) (dec_ltA ok _)) ((cput_ok ok (fun _=>(by decide:(0:Nat) < 256))).mono (by omega))
def cCopy_s (s:CtlS):CtlS:=bif decide ((rpNext_v2 s.le.rep)=0) then (cnote_s (ccopy_j1 s) (⟨3,0,0,0,0,0⟩:Nt)) else s
def cCopy_v0 (s:CtlS):Int:=bif decide ((rpNext_v2 s.le.rep)=0) then 0 else (rpNext_v2 s.le.rep)
theorem cCopy (s:CtlS) (ok:CtlOk 97000000 s):Sp P 57 [.pt 0 0] (bCtl s 0 ++ ros (bCode 24)) (vi (cCopy_v0 s)) (bCtl (cCopy_s s) 0 ++ ros (bCode 24)):=by
 generalize d0:cCopy_s s=yd0
 unfold cCopy_s at d0
 generalize d1:cCopy_v0 s=yd1
 unfold cCopy_v0 at d1
 rcases bft (decide ((rpNext_v2 s.le.rep)=0)) with q1 | q1
 ·rw [cpos q1] at d0
  rw [cpos q1] at d1
  subst d0 d1
  exact so Tryz.f57 7 (ir 0 29) (.c (ir 2 7) (rpNext s.le.rep ok.le.rep) (.g q1 (.c (ir 0 29) (csource s (rpNext_v0 s.le.rep)) (.c (ir 2 7) (rpMap s.le.rep) (.c (ir 3 4) (mUsed s.le.rep.m (csource_v0 s (rpNext_v0 s.le.rep)) ok.le.rep.m) (.cs 0 (mUsed_v0 s.le.rep.m (csource_v0 s (rpNext_v0 s.le.rep))) 33 [] [] (fun z=>[]) (fun z=>nb 0 (bCtl (bif z then (cput_s (ctake_s s (rpNext_v0 s.le.rep) (csource_v0 s (rpNext_v0 s.le.rep)) (csource_v1 s (rpNext_v0 s.le.rep))) (rpNext_v1 s.le.rep) (dec_v0 s.le.c.mode (vRead_v0 s.d (rpNext_v0 s.le.rep)) (rpNext_v0 s.le.rep)) (decide (2<=(((dec_v1 s.le.c.mode (vRead_v0 s.d (rpNext_v0 s.le.rep)) (rpNext_v0 s.le.rep)):Nat):Int)))) else (cput_s s (rpNext_v1 s.le.rep) (fun _=>0) false)) 0)) (fun hq1=>(.t hq1 (.c (ir 0 29) (ctake s (rpNext_v0 s.le.rep) (csource_v0 s (rpNext_v0 s.le.rep)) (csource_v1 s (rpNext_v0 s.le.rep)) ((CtlOk.mono ok (by decide)))) (.c (ir 0 29) (cput (ctake_s s (rpNext_v0 s.le.rep) (csource_v0 s (rpNext_v0 s.le.rep)) (csource_v1 s (rpNext_v0 s.le.rep))) (rpNext_v1 s.le.rep) (dec_v0 s.le.c.mode (vRead_v0 s.d (rpNext_v0 s.le.rep)) (rpNext_v0 s.le.rep)) (decide (2<=(((dec_v1 s.le.c.mode (vRead_v0 s.d (rpNext_v0 s.le.rep)) (rpNext_v0 s.le.rep)):Nat):Int))) ((CtlOk.mono (ctake_ok ok) (by decide))) (dec_lt (vRead_lt ok.d))) .nil)))) (fun hq1=>(.t hq1 (.c (ir 0 29) (cput s (rpNext_v1 s.le.rep) (fun _=>0) false ((CtlOk.mono ok (by decide))) (fun _=>(by decide:(0:Nat) < 256))) .nil))) (.c (ir 0 29) (cnote (ccopy_j1 s) (⟨3,0,0,0,0,0⟩:Nt) ((CtlOk.mono (ccopy_j1_ok ok) (by decide)))) .nil)))))))
 ·rw [cneg q1] at d0
  rw [cneg q1] at d1
  subst d0 d1
  exact so Tryz.f57 3 (ir 0 29) (.c (ir 2 7) (rpNext s.le.rep ok.le.rep) (.g q1 .nil))
def cTick_s (s:CtlS):CtlS:=bif decide (1099511627776<=s.le.time) then s else (cnote_s s (⟨2,0,0,0,0,0⟩:Nt))
def cTick_v0 (s:CtlS):Nat:=bif decide (1099511627776<=s.le.time) then 12 else 0
theorem cTick (s:CtlS) (ok:CtlOk 97000000 s):Sp P 58 [.pt 0 0] (bCtl s 0 ++ ros (bCode 24)) (vn (cTick_v0 s)) (bCtl (cTick_s s) 0 ++ ros (bCode 24)):=by
 generalize d0:cTick_s s=yd0
 unfold cTick_s at d0
 generalize d1:cTick_v0 s=yd1
 unfold cTick_v0 at d1
 rcases bft (decide (1099511627776<=s.le.time)) with q1 | q1
 ·rw [cpos q1] at d0
  rw [cpos q1] at d1
  subst d0 d1
  exact so Tryz.f58 3 (ir 0 29) (.t q1 .nil)
 ·rw [cneg q1] at d0
  rw [cneg q1] at d1
  subst d0 d1
  exact so Tryz.f58 3 (ir 0 29) (.t q1 (.c (ir 0 29) (cnote s (⟨2,0,0,0,0,0⟩:Nt) ((CtlOk.mono ok (by decide)))) .nil))
def cClear_s (s:CtlS):CtlS:=cnote_s s (⟨4,0,0,0,0,0⟩:Nt)
theorem cClear (s:CtlS) (ok:CtlOk 97000000 s):Sp P 97 [.pt 0 0] (bCtl s 0 ++ ros (bCode 24)) (vn s.le.log.l.length) (bCtl (cClear_s s) 0 ++ ros (bCode 24)) :=
 so Tryz.f97 3 (ir 0 29) (.c [.id 13,.id 14] (lLen s.le.log) (.c (ir 0 29) (cnote s (⟨4,0,0,0,0,0⟩:Nt) ((CtlOk.mono ok (by decide)))) .nil))
theorem cCopy_ok {n:Nat} {s:CtlS} (ok:CtlOk n s):CtlOk (n + 4) (cCopy_s s):=by
 unfold cCopy_s
 first | exact bifC (cnote_ok (ccopy_j1_ok ok)) (ok.mono (by omega)) | exact bifC (ok.mono (by omega)) (cnote_ok (ccopy_j1_ok ok))
theorem cTick_ok {n:Nat} {s:CtlS} (ok:CtlOk n s):CtlOk (n + 4) (cTick_s s):=by
 unfold cTick_s
 first | exact bifC (ok.mono (by omega)) ((cnote_ok ok).mono (by omega)) | exact bifC ((cnote_ok ok).mono (by omega)) (ok.mono (by omega))
theorem cScrub_ok {n:Nat} {s:CtlS} (ok:CtlOk n s):CtlOk (n + 4) (cScrub_s s):=(cread_ok ok.cur).mono (by omega)
end Go.Proofs.YtfhiggfmkjmeiaaGreat
