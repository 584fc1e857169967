import Derived.Test.YtfhiggfmkjmeiaaGreatFMch
set_option linter.unusedVariables false
set_option linter.unusedSimpArgs false
set_option linter.unusedSectionVars false
namespace Go.Proofs.YtfhiggfmkjmeiaaGreat
open Go Go.RowKit
set_option maxRecDepth 100000
def gpN (g:Gm):Nat:=(gpages_v0 g).toNat
theorem gpN_eq {g:Gm} (h:g.right=true):((gpN g:Nat):Int)=gpages_v0 g:=Int.toNat_of_nonneg (by have:=gpages_pos h; omega)
theorem gpN_le {g:Gm} (h:g.right=true):gpN g<=131072:=by have:=gpages_eq h; unfold gpN; omega
theorem gpagesN (g:Gm) (h:g.right=true):Sp P 148 [.ag [vi g.ranks,vi g.spares,vi g.banks,vi g.rows,vi g.cols]] [] (vn (gpN g)) []:=by
 have h1:=gpages g
 rw [← gpN_eq h] at h1
 exact h1
def liveL:Nat->List Int
 | 0=>[]
 | i + 1=>liveL i ++ [((i:Nat):Int)]
theorem liveL_len:∀ i,(liveL i).length=i
 | 0=>rfl
 | i + 1=>by rw [liveL,List.length_append,liveL_len i]; rfl
def spL:Nat->List Int
 | 0=>[]
 | i + 1=>spL i ++ [-1]
theorem spL_len:∀ i,(spL i).length=i
 | 0=>rfl
 | i + 1=>by rw [spL,List.length_append,spL_len i]; rfl
def mNew_s (l:Ly):MapS:=(⟨l,liveL (lySeen_v0 l).toNat,List.replicate (gpN l.g) eT0,spL l.g.ranks.toNat,0,0⟩:MapS)
theorem mNew (l:Ly) (hr:lyRight_v0 l=true):Sp P 235 [.ag [vi l.g.ranks,vi l.g.spares,vi l.g.banks,vi l.g.rows,vi l.g.cols,vi l.way,vi l.res]] [] (.tu [.pt 0 0,vn 0]) (bMap (mNew_s l) 0):=by
 have hl:=ly_rt hr
 have hg:=Gm.rt hl.1
 have hp:=gpN_le hl.1
 generalize d0:mNew_s l=yd0
 unfold mNew_s at d0
 subst d0
 exact so Tryz.f235 10 [.id 4,.id 5,.id 3,.id 6] (.c [] (lyRight l) (.t (congrArg (!·) (show (lyRight_v0 l)=true from hr)) (.c [] (gpagesN l.g hl.1) (.mk (e:=eT) (a:=eT0) (n:=gpN l.g) (by omega) (.c [] (lySeen l) (.lp (lySeen_v0 l).toNat 6 [(5,.nil)] [(5,.id 7)] (fun i=>[(18,vn i)]) (fun i=>[(4,.blk [vi l.g.ranks,vi l.g.spares,vi l.g.banks,vi l.g.rows,vi l.g.cols,vi l.way,vi l.res,.sl 5,.sl 3,nilS,vn 0,vn 0] 185),(5,.row eI (liveL i))]) (fun i hi=>(.t (show (decide (((i:Nat):Int) < (lySeen_v0 l)))=true from decide_eq_true (by omega)) (.ap (e:=eI) (l:=liveL i) (l':=[((i:Nat):Int)]) .row (.flat [vn i] [((i:Nat):Int)] rfl) (by rw [liveL_len]; simp only [List.length_cons,List.length_nil]; omega) (.e 31 (aAdd (a:=((i:Nat):Int)) (b:=1) (c:=((i + 1:Nat):Int)) (by omega)) .nil)))) (.t (show (decide ((((lySeen_v0 l).toNat:Nat):Int) < (lySeen_v0 l)))=false from decide_eq_false (by omega)) (.lp l.g.ranks.toNat 7 [(6,.nil)] [(6,.id 8)] (fun i=>[(35,vn i)]) (fun i=>[(4,.blk [vi l.g.ranks,vi l.g.spares,vi l.g.banks,vi l.g.rows,vi l.g.cols,vi l.way,vi l.res,.sl 5,.sl 3,.sl 6,vn 0,vn 0] 185),(6,.row eI (spL i))]) (fun i hi=>(.t (show (decide (((i:Nat):Int) < l.g.ranks))=true from decide_eq_true (by omega)) (.ap (e:=eI) (l:=spL i) (l':=[-1]) .row (.flat [vi (-1)] [-1] rfl) (by rw [spL_len]; simp only [List.length_cons,List.length_nil]; omega) (.e 46 (aAdd (a:=((i:Nat):Int)) (b:=1) (c:=((i + 1:Nat):Int)) (by omega)) .nil)))) (.t (show (decide (((l.g.ranks.toNat:Nat):Int) < l.g.ranks))=false from decide_eq_false (by omega)) .nil)))))))))
theorem mNew_ok {l:Ly} (hr:lyRight_v0 l=true):MapOk (mNew_s l):=by
 have hl:=ly_rt hr
 have hg:=Gm.rt hl.1
 exact ⟨hr,by show (((liveL _).length:Nat):Int)=lySeen_v0 l; rw [liveL_len]; omega,by show (((List.replicate (gpN l.g) eT0).length:Nat):Int)=gpages_v0 l.g; rw [List.length_replicate]; exact gpN_eq hl.1,by show (((spL _).length:Nat):Int)=l.g.ranks; rw [spL_len]; omega,⟨Int.le_refl _,hl.2.2.1.1⟩,⟨Int.le_refl _,hg.2.1.1⟩⟩
def rgNew:RgS:=⟨List.replicate 256 eAk0,0,0⟩
theorem rgNew_ok:RgOk rgNew:=⟨List.length_replicate,⟨Int.le_refl _,by decide⟩,⟨Int.le_refl _,by decide⟩⟩
theorem rgNew_sp  :Sp P 236 [vn 256] [] (.tu [.pt 0 0,vn 0]) (bRing rgNew 0) :=
 so Tryz.f236 4 [.id 2,.id 1] (.n4 (.mk (e:=eAk) (a:=eAk0) (n:=256) (by decide) .nil))
def rpNew (l:Ly):RepS:=⟨mNew_s l,⟨0,0,0,0⟩,rgNew⟩
theorem rpNew_ok {l:Ly} (hr:lyRight_v0 l=true):RepOk (rpNew l):=⟨mNew_ok hr,rgNew_ok,⟨Int.le_refl _,show (0:Int)<=1048576 by decide⟩⟩
theorem rpNew_sp (l:Ly) (hr:lyRight_v0 l=true):Sp P 183 [.ag [vi l.g.ranks,vi l.g.spares,vi l.g.banks,vi l.g.rows,vi l.g.cols,vi l.way,vi l.res]] [] (.tu [.pt 0 0,vn 0]) (bRep (rpNew l) 0) :=
 so Tryz.f183 10 (.id 8 :: ir 2 6) (.c [] (mNew l (by first | assumption | omega)) (.n (.c [] (rgNew_sp) (.n .nil))))
theorem tbNew_sp (room:Int) (h1:decide (room < 1)=false) (h2:decide (256 < room)=false):Sp P 237 [vi room,.fn (.func 238) [] []] [] (.tu [.pt 0 0,vn 0]) [.blk [.sl 1,vi room,.fn (.func 238) [] []] 322,.row ePg []] :=
 so Tryz.f237 3 [.id 1,.nil] (.t h1 (.t h1 (.t h1 (.t h2 .nil))))
def kNewS (r:Rls) (n:Nat):TrkS:=⟨r,List.replicate n eBk0,[]⟩
theorem rulesRight_t {r:Rls} (h:rulesRight_v0 r=true):1<=r.room∧r.room<=256:=by
 unfold rulesRight_v0 at h
 revert h
 cases q1:decide (1<=r.room) <;> cases q2:decide (r.room<=256) <;> simp_all
theorem kNewN (r:Rls) (n:Nat) (hr:rulesRight_v0 r=true) (hn:1<=n∧n<=8) (h1:decide (r.room < 1)=false) (h2:decide (256 < r.room)=false):Sp P 184 [.ag [vi r.rank.limit,vi r.rank.every,vi r.page.limit,vi r.page.every,vi r.room,vi r.heavy],vn n] [] (.tu [.pt 0 0,vn 0]) (bTrk (kNewS r n) 0) :=
 so Tryz.f184 7 [.id 5,.id 4,.id 2,.id 3] (.c [] (rulesRight r) (.t (congrArg (!·) (show (rulesRight_v0 r)=true from hr)) (.t (show (decide (((n:Nat):Int) < 1))=false from decide_eq_false (by omega)) (.t (show (decide (((n:Nat):Int) < 1))=false from decide_eq_false (by omega)) (.t (show (decide (((n:Nat):Int) < 1))=false from decide_eq_false (by omega)) (.t (show (decide (8 < ((n:Nat):Int)))=false from decide_eq_false (by omega)) (.c [] (tbNew_sp r.room (by first | assumption | omega) (by first | assumption | omega)) (.n (.mk (e:=eBk) (a:=eBk0) (n:=n) (by omega) .nil)))))))))
theorem kNew_sp (r:Rls) (k:Int) (hr:rulesRight_v0 r=true) (hk:1<=k∧k<=8):Sp P 184 [.ag [vi r.rank.limit,vi r.rank.every,vi r.page.limit,vi r.page.every,vi r.room,vi r.heavy],vi k] [] (.tu [.pt 0 0,vn 0]) (bTrk (kNewS r k.toNat) 0):=by
 have h:=kNewN r k.toNat hr (by omega) (decide_eq_false (by have:=rulesRight_t hr; omega)) (decide_eq_false (by have:=rulesRight_t hr; omega))
 rw [show (vn k.toNat:V)=vi k from congrArg (fun x:Int=>(vi x:V)) (Int.toNat_of_nonneg (by omega))] at h
 exact h
theorem kNewS_ok {r:Rls} {k:Int} (hr:rulesRight_v0 r=true) (hk:1<=k∧k<=8):TrkOk (kNewS r k.toNat):=⟨⟨Nat.zero_le _,(rulesRight_t hr).1,by have:=(rulesRight_t hr).1; show ((0:Nat):Int)<=r.room; omega⟩,by show (List.replicate k.toNat eBk0).length<=8; rw [List.length_replicate]; omega⟩
def lNewS (room:Int):LogS:=⟨[],room,1,false⟩
theorem lNewS_ok {room:Int} (h:1<=room∧room<=256):LogOk (lNewS room):=⟨Nat.zero_le _,h.1,by show ((0:Nat):Int)<=room; omega⟩
theorem lNew_sp (room:Int) (hk:1<=room∧room<=256):Sp P 185 [vi room] [] (.tu [.pt 0 0,vn 0]) (bLog (lNewS room) 0) :=
 so Tryz.f185 3 [.id 1,.nil] (.t (show (decide (room < 1))=false from decide_eq_false (by omega)) (.t (show (decide (room < 1))=false from decide_eq_false (by omega)) (.t (show (decide (room < 1))=false from decide_eq_false (by omega)) (.t (show (decide (256 < room))=false from decide_eq_false (by omega)) .nil))))
def rawRight_v0 (m:Int):Bool:=bif decide (m=1) then true else (decide (m=2))
theorem rawRight (m:Int) :Sp P 133 [vi m] [] (vt (rawRight_v0 m)) []:=by
 generalize d0:rawRight_v0 m=yd0
 unfold rawRight_v0 at d0
 rcases bft (decide (m=1)) with q1 | q1
 ·rw [cpos q1] at d0
  subst d0
  exact so Tryz.f133 3 [] (.t2 q1 (.t q1 .nil))
 ·rw [cneg q1] at d0
  subst d0
  exact so Tryz.f133 3 [] (.t2 q1 (.t q1 .nil))
def cfgRight_v0 (c:Cfg):Bool:=bif (lyRight_v0 c.ly) then (bif (rawRight_v0 c.mode) then (bif (rulesRight_v0 c.rules) then (bif decide (1<=c.log) then (decide (c.log<=256)) else false) else false) else false) else false
theorem cfgRight (c:Cfg) :Sp P 63 [.ag [vi c.ly.g.ranks,vi c.ly.g.spares,vi c.ly.g.banks,vi c.ly.g.rows,vi c.ly.g.cols,vi c.ly.way,vi c.ly.res,vi c.mode,vi c.rules.rank.limit,vi c.rules.rank.every,vi c.rules.page.limit,vi c.rules.page.every,vi c.rules.room,vi c.rules.heavy,vi c.log,vt c.back]] [] (vt (cfgRight_v0 c)) []:=by
 generalize d0:cfgRight_v0 c=yd0
 unfold cfgRight_v0 at d0
 rcases bft (lyRight_v0 c.ly) with q1 | q1
 ·rw [cpos q1] at d0
  rcases bft (rawRight_v0 c.mode) with q2 | q2
  ·rw [cpos q2] at d0
   rcases bft (rulesRight_v0 c.rules) with q3 | q3
   ·rw [cpos q3] at d0
    rcases bft (decide (1<=c.log)) with q4 | q4
    ·rw [cpos q4] at d0
     subst d0
     exact so Tryz.f63 3 [] (.c [] (lyRight c.ly) (.t2 q1 (.t q1 (.c [] (rawRight c.mode) (.t q1 (.t2 q2 (.t q2 (.c [] (rulesRight c.rules) (.t q2 (.t4 q3 (.t4 q4 .nil)))))))))))
    ·rw [cneg q4] at d0
     subst d0
     exact so Tryz.f63 3 [] (.c [] (lyRight c.ly) (.t2 q1 (.t q1 (.c [] (rawRight c.mode) (.t q1 (.t2 q2 (.t q2 (.c [] (rulesRight c.rules) (.t q2 (.t4 q3 (.t4 q4 .nil)))))))))))
   ·rw [cneg q3] at d0
    subst d0
    exact so Tryz.f63 3 [] (.c [] (lyRight c.ly) (.t2 q1 (.t q1 (.c [] (rawRight c.mode) (.t q1 (.t2 q2 (.t q2 (.c [] (rulesRight c.rules) (.t q2 (.t4 q3 (.n4 .nil)))))))))))
  ·rw [cneg q2] at d0
   subst d0
   exact so Tryz.f63 3 [] (.c [] (lyRight c.ly) (.t2 q1 (.t q1 (.c [] (rawRight c.mode) (.t q1 (.t4 q2 (.n8 .nil)))))))
 ·rw [cneg q1] at d0
  subst d0
  exact so Tryz.f63 3 [] (.c [] (lyRight c.ly) (.t4 q1 (.n8 (.n4 .nil))))
theorem cfg_t {c:Cfg} (h:cfgRight_v0 c=true):lyRight_v0 c.ly=true∧(c.mode=1 ∨ c.mode=2)∧rulesRight_v0 c.rules=true∧1<=c.log∧c.log<=256:=by
 unfold cfgRight_v0 at h
 revert h
 cases q1:lyRight_v0 c.ly <;> cases q2:rulesRight_v0 c.rules <;> cases q3:decide (1<=c.log) <;> simp_all [rawRight_v0]
 all_goals (intro h; try omega)
 all_goals (by_cases e:c.mode=1 <;> simp_all)
def copen_s (c:Cfg):LedS:=(⟨c,(rpNew c.ly),(kNewS c.rules c.ly.g.ranks.toNat),(lNewS c.log),0⟩:LedS)
theorem copen (c:Cfg) (hcf:cfgRight_v0 c=true):Sp P 117 [.ag [vi c.ly.g.ranks,vi c.ly.g.spares,vi c.ly.g.banks,vi c.ly.g.rows,vi c.ly.g.cols,vi c.ly.way,vi c.ly.res,vi c.mode,vi c.rules.rank.limit,vi c.rules.rank.every,vi c.rules.page.limit,vi c.rules.page.every,vi c.rules.room,vi c.rules.heavy,vi c.log,vt c.back]] [] (.tu [.pt 0 0,vn 0]) (bLed (copen_s c) 0):=by
 have hc:=cfg_t hcf
 generalize d0:copen_s c=yd0
 unfold copen_s at d0
 subst d0
 exact so Tryz.f117 18 (.id 2 :: ir 4 13) (.c [] (cfgRight c) (.t (congrArg (!·) (show (cfgRight_v0 c)=true from hcf)) (.c [] (rpNew_sp c.ly hc.1) (.c [] (kNew_sp c.rules c.ly.g.ranks hc.2.2.1 ((Gm.rt (ly_rt hc.1).1).1)) (.c [] (lNew_sp c.log hc.2.2.2) (.lu 3 (.y (.ix (i:=0) (m:=3) (by decide) (.t (congrArg (!·) (show (decide ((upI (upI (upI (fun _=>0) 0 0) 1 0) 2 0) 0=0))=true from rfl)) (.y (.ix (i:=1) (m:=3) (by decide) (.t (congrArg (!·) (show (decide ((upI (upI (upI (fun _=>0) 0 0) 1 0) 2 0) 1=0))=true from rfl)) (.y (.ix (i:=2) (m:=3) (by decide) (.t (congrArg (!·) (show (decide ((upI (upI (upI (fun _=>0) 0 0) 1 0) 2 0) 2=0))=true from rfl)) (.n .nil))))))))))))))))
theorem copen_ok {c:Cfg} (h:cfgRight_v0 c=true):LedOk (copen_s c):=by
 obtain ⟨h1,h2,h3,h4,h5⟩:=cfg_t h
 have hg:=Gm.rt (ly_rt h1).1
 exact ⟨rpNew_ok h1,kNewS_ok h3 hg.1,(rulesRight_t h3).2,lNewS_ok ⟨h4,h5⟩,h5⟩
def dmNew (g:Gm) (m:Int):DramS:=⟨g,m,fun _ _=>0,[],[]⟩
def dvNew (g:Gm) (m:Int):DevS:=⟨dmNew g m,fun _ _=>0,fun _=>0,[]⟩
theorem dmNew_sp (g:Gm) (m:Int) (hg:g.right=true) (hm:rawRight_v0 m=true):Sp P 114 [.ag [vi g.ranks,vi g.spares,vi g.banks,vi g.rows,vi g.cols],vi m] [] (.tu [.pt 0 0,vn 0]) (bDram (dmNew g m) 0) :=
 so Tryz.f114 5 [.id 3,.id 2,.nil,.nil] (.c [] (gright_sp g) (.g hg (.c [] (rawRight m) (.t (congrArg (!·) (show (rawRight_v0 m)=true from hm)) .nil))))
theorem dvNew_sp (g:Gm) (m:Int) (hg:g.right=true) (hm:rawRight_v0 m=true):Sp P 45 [.ag [vi g.ranks,vi g.spares,vi g.banks,vi g.rows,vi g.cols],vi m] [] (.tu [.pt 0 0,vn 0]) (bDev (dvNew g m) 0) :=
 so Tryz.f45 10 (.id 8 :: .id 6 :: .id 7 :: .nil :: ir 2 4) (.c [] (dmNew_sp g m (by first | assumption | omega) (by first | assumption | omega)) (.n .nil))
def wr0 (s:CtlS) (r b w c:Nat):CtlS:=cput_s s (Pl.ix ⟨((r:Nat):Int),((b:Nat):Int),((w:Nat):Int),((c:Nat):Int)⟩) (fun _=>0) false
def nwC (s:CtlS) (r b w:Nat):Nat->CtlS
 | 0=>s
 | c + 1=>wr0 (nwC s r b w c) r b w c
def nwW (s:CtlS) (r b C:Nat):Nat->CtlS
 | 0=>s
 | w + 1=>nwC (nwW s r b C w) r b w C
def nwB (s:CtlS) (r W C:Nat):Nat->CtlS
 | 0=>s
 | b + 1=>nwW (nwB s r W C b) r b C W
def nwR (s:CtlS) (B W C:Nat):Nat->CtlS
 | 0=>s
 | r + 1=>nwB (nwR s B W C r) r W C B
theorem wr0_ok {n:Nat} {s:CtlS} {r b w c:Nat} (h:CtlOk n s):CtlOk (n + 1) (wr0 s r b w c):=cput_ok h (fun _=>(by decide:(0:Nat) < 256))
theorem nwC_ok {n:Nat} {s:CtlS} {r b w:Nat} (h:CtlOk n s):∀ c,CtlOk (n + c) (nwC s r b w c)
 | 0=>h
 | c + 1=>wr0_ok (nwC_ok h c)
theorem nwW_ok {n:Nat} {s:CtlS} {r b C:Nat} (h:CtlOk n s) (hC:C<=64):∀ w,CtlOk (n + 64 * w) (nwW s r b C w)
 | 0=>h
 | w + 1=>(nwC_ok (nwW_ok h hC w) C).mono (by omega)
theorem nwB_ok {n:Nat} {s:CtlS} {r W C:Nat} (h:CtlOk n s) (hC:C<=64) (hW:W<=1024):∀ b,CtlOk (n + 65536 * b) (nwB s r W C b)
 | 0=>h
 | b + 1=>(nwW_ok (nwB_ok h hC hW b) hC W).mono (by omega)
theorem nwR_ok {n:Nat} {s:CtlS} {B W C:Nat} (h:CtlOk n s) (hC:C<=64) (hW:W<=1024) (hB:B<=16):∀ r,CtlOk (n + 1048576 * r) (nwR s B W C r)
 | 0=>h
 | r + 1=>(nwB_ok (nwR_ok h hC hW hB r) hC hW B).mono (by omega)
theorem gAll (g:Gm) :Sp P 119 [.ag [vi g.ranks,vi g.spares,vi g.banks,vi g.rows,vi g.cols]] [] (.fn (.func 189) [] [.pt 0 0]) [.blk [vi g.ranks,vi g.spares,vi g.banks,vi g.rows,vi g.cols] 23] :=
 so Tryz.f119 3 [.id 1] .nil
theorem gRank (g:Gm) (r:Int) :Sp P 190 [.ag [vi g.ranks,vi g.spares,vi g.banks,vi g.rows,vi g.cols],vi r] [] (.fn (.func 245) [] [.pt 0 0,.pt 1 0]) [.blk [vi g.ranks,vi g.spares,vi g.banks,vi g.rows,vi g.cols] 23,.blk [vi r] 3] :=
 so Tryz.f190 4 [.id 1,.id 2] .nil
theorem holds_r {g:Gm} (hg:g.right=true) {r:Nat} (hr:((r:Nat):Int) < g.ranks + g.spares):g.holds ⟨((r:Nat):Int),0,0,0⟩=true:=by
 have h:=Gm.rt hg
 have e:IntKind.i64.wrap (g.ranks + g.spares)=g.ranks + g.spares:=wrap_ok (by omega) (by omega)
 unfold Gm.holds belB
 rw [hg,e]
 simp only [Bool.true_and,Bool.and_eq_true,decide_eq_true_eq]
 omega
theorem holds_n {g:Gm} {r:Nat} (hg:g.right=true) (hr:¬ ((r:Nat):Int) < g.ranks + g.spares):g.holds ⟨((r:Nat):Int),0,0,0⟩=false:=by
 have h:=Gm.rt hg
 have e:IntKind.i64.wrap (g.ranks + g.spares)=g.ranks + g.spares:=wrap_ok (by omega) (by omega)
 unfold Gm.holds belB
 rw [e,show decide (((r:Nat):Int) < g.ranks + g.spares)=false from decide_eq_false hr]
 simp
def ctl0 (c:Cfg):CtlS:=⟨copen_s c,dvNew c.ly.g c.mode,0,[]⟩
theorem ctl0_ok {c:Cfg} (h:cfgRight_v0 c=true):CtlOk 0 (ctl0 c):=by
 have hc:=cfg_t h
 exact ⟨copen_ok h,⟨⟨hc.2.1,(fun _ _=>(by decide:(0:Nat) < 256)),(fun f hf=>nomatch hf),Nat.zero_le _,Nat.zero_le _⟩,(fun _ _=>(by decide:(0:Nat) < 256))⟩,hc.2.1,Nat.le_refl _,Nat.le_refl _⟩
def cRk (c:Cfg):Nat:=(c.ly.g.ranks + c.ly.g.spares).toNat
abbrev cB (c:Cfg):Nat:=c.ly.g.banks.toNat
abbrev cW (c:Cfg):Nat:=c.ly.g.rows.toNat
abbrev cC (c:Cfg):Nat:=c.ly.g.cols.toNat
def ctlN (c:Cfg):CtlS:=nwR (ctl0 c) (cB c) (cW c) (cC c) (cRk c)
def cNew_s (c:Cfg):CtlS:=nwR (ctl0 c) (cB c) (cW c) (cC c) (cRk c)
theorem cNew (c:Cfg) (hcf:cfgRight_v0 c=true):Sp P 46 [.ag [vi c.ly.g.ranks,vi c.ly.g.spares,vi c.ly.g.banks,vi c.ly.g.rows,vi c.ly.g.cols,vi c.ly.way,vi c.ly.res,vi c.mode,vi c.rules.rank.limit,vi c.rules.rank.every,vi c.rules.page.limit,vi c.rules.page.every,vi c.rules.room,vi c.rules.heavy,vi c.log,vt c.back],.pt 0 0] (bDev (dvNew c.ly.g c.mode) 0) (.tu [.pt 8 0,vn 0]) (bDev (cNew_s c).d 0 ++ [.blk [.pt 9 0,.pt 0 0,.pt 24 0,vi (cNew_s c).cur,.sl 23] 176] ++ bLed (cNew_s c).le 9 ++ [.row eNt (cNew_s c).notes] ++ bCode 24):=by
 have hc:=cfg_t hcf
 have hg:=(ly_rt hc.1).1
 have hgm:=Gm.rt hg
 have h64:cC c<=64:=by show c.ly.g.cols.toNat<=64; omega
 have h1k:cW c<=1024:=by show c.ly.g.rows.toNat<=1024; omega
 have h16:cB c<=16:=by show c.ly.g.banks.toNat<=16; omega
 have eB:((cB c:Nat):Int)=c.ly.g.banks:=by show ((c.ly.g.banks.toNat:Nat):Int)=_; omega
 have eW:((cW c:Nat):Int)=c.ly.g.rows:=by show ((c.ly.g.rows.toNat:Nat):Int)=_; omega
 have eC:((cC c:Nat):Int)=c.ly.g.cols:=by show ((c.ly.g.cols.toNat:Nat):Int)=_; omega
 have e8:cRk c<=8:=by unfold cRk; omega
 generalize d0:cNew_s c=yd0
 unfold cNew_s at d0
 subst d0
 exact so Tryz.f46 37 (ir 0 8 ++ .id 33 :: ir 14 14 ++ .id 39 :: ir 28 5) (.c [] (cfgRight c) (.t (congrArg (!·) (show (cfgRight_v0 c)=true from hcf)) (.c (ir 0 8) (vDram (dvNew c.ly.g c.mode)) (.c (ir 4 4) (dGeom (dvNew c.ly.g c.mode).d) (.t (congrArg (!·) (show ((decide ((dvNew c.ly.g c.mode).d.g.ranks=c.ly.g.ranks)) && ((decide ((dvNew c.ly.g c.mode).d.g.spares=c.ly.g.spares)) && ((decide ((dvNew c.ly.g c.mode).d.g.banks=c.ly.g.banks)) && ((decide ((dvNew c.ly.g c.mode).d.g.rows=c.ly.g.rows)) && ((decide ((dvNew c.ly.g c.mode).d.g.cols=c.ly.g.cols)) && true)))))=true from by simp [dvNew,dmNew])) (.c (ir 0 8) (vDram (dvNew c.ly.g c.mode)) (.c (ir 4 4) (dMode (dvNew c.ly.g c.mode).d) (.t (congrArg (!·) (show (decide ((dvNew c.ly.g c.mode).d.mode=c.mode))=true from decide_eq_true rfl)) (.c [] (copen c hcf) (.n (.c [] (cnew_sp) (.c [] (gAll c.ly.g) (.lp (cRk c) 40 [(39,.nil)] [] (fun r=>[(3,vn r)]) (fun r=>nb 0 (bDev (nwR (ctl0 c) (cB c) (cW c) (cC c) r).d 0) ++ nb 14 (bLed (nwR (ctl0 c) (cB c) (cW c) (cC c) r).le 14) ++ [(33,.blk [.pt 14 0,.pt 0 0,.pt 28 0,vi (nwR (ctl0 c) (cB c) (cW c) (cC c) r).cur,.sl 39] 176),(36,.lo .ready none),(39,.row eNt (nwR (ctl0 c) (cB c) (cW c) (cC c) r).notes)]) (fun r hr=>(.c [] (holds_sp c.ly.g (⟨((r:Nat):Int),0,0,0⟩:Pl)) (.t (show (c.ly.g.holds (⟨((r:Nat):Int),0,0,0⟩:Pl))=true from holds_r hg (by have:r < cRk c:=hr; unfold cRk at this; omega)) (.c [] (gRank c.ly.g ((r:Nat):Int)) (.c [] (holds_sp c.ly.g (⟨((r:Nat):Int),0,0,0⟩:Pl)) (.t (congrArg (!·) (show (c.ly.g.holds (⟨((r:Nat):Int),0,0,0⟩:Pl))=true from holds_r hg (by have:r < cRk c:=hr; unfold cRk at this; omega))) (.lp (cB c) 44 [] [] (fun b=>[(14,vn b)]) (fun b=>nb 0 (bDev (nwB (nwR (ctl0 c) (cB c) (cW c) (cC c) r) r (cW c) (cC c) b).d 0) ++ nb 14 (bLed (nwB (nwR (ctl0 c) (cB c) (cW c) (cC c) r) r (cW c) (cC c) b).le 14) ++ [(33,.blk [.pt 14 0,.pt 0 0,.pt 28 0,vi (nwB (nwR (ctl0 c) (cB c) (cW c) (cC c) r) r (cW c) (cC c) b).cur,.sl 39] 176),(36,.lo .ready none),(39,.row eNt (nwB (nwR (ctl0 c) (cB c) (cW c) (cC c) r) r (cW c) (cC c) b).notes),(42,.lo .ready none)]) (fun b hb=>(.t (show (decide (((b:Nat):Int) < c.ly.g.banks))=true from decide_eq_true (by omega)) (.lp (cW c) 44 [] [] (fun w=>[(19,vn w)]) (fun w=>nb 0 (bDev (nwW (nwB (nwR (ctl0 c) (cB c) (cW c) (cC c) r) r (cW c) (cC c) b) r b (cC c) w).d 0) ++ nb 14 (bLed (nwW (nwB (nwR (ctl0 c) (cB c) (cW c) (cC c) r) r (cW c) (cC c) b) r b (cC c) w).le 14) ++ [(33,.blk [.pt 14 0,.pt 0 0,.pt 28 0,vi (nwW (nwB (nwR (ctl0 c) (cB c) (cW c) (cC c) r) r (cW c) (cC c) b) r b (cC c) w).cur,.sl 39] 176),(36,.lo .ready none),(39,.row eNt (nwW (nwB (nwR (ctl0 c) (cB c) (cW c) (cC c) r) r (cW c) (cC c) b) r b (cC c) w).notes),(42,.lo .ready none)]) (fun w hw=>(.t (show (decide (((w:Nat):Int) < c.ly.g.rows))=true from decide_eq_true (by omega)) (.lp (cC c) 44 [] [] (fun k=>[(24,vn k)]) (fun k=>nb 0 (bDev (nwC (nwW (nwB (nwR (ctl0 c) (cB c) (cW c) (cC c) r) r (cW c) (cC c) b) r b (cC c) w) r b w k).d 0) ++ nb 14 (bLed (nwC (nwW (nwB (nwR (ctl0 c) (cB c) (cW c) (cC c) r) r (cW c) (cC c) b) r b (cC c) w) r b w k).le 14) ++ [(33,.blk [.pt 14 0,.pt 0 0,.pt 28 0,vi (nwC (nwW (nwB (nwR (ctl0 c) (cB c) (cW c) (cC c) r) r (cW c) (cC c) b) r b (cC c) w) r b w k).cur,.sl 39] 176),(36,.lo .ready none),(39,.row eNt (nwC (nwW (nwB (nwR (ctl0 c) (cB c) (cW c) (cC c) r) r (cW c) (cC c) b) r b (cC c) w) r b w k).notes),(42,.lo .ready none)]) (fun k hk=>(.t (show (decide (((k:Nat):Int) < c.ly.g.cols))=true from decide_eq_true (by omega)) (.c [] (pindex_sp (⟨((r:Nat):Int),((b:Nat):Int),((w:Nat):Int),((k:Nat):Int)⟩:Pl)) (.c (.id 33 :: ir 14 14 ++ ir 0 8 ++ .id 39 :: ir 28 5) (cput (nwC (nwW (nwB (nwR (ctl0 c) (cB c) (cW c) (cC c) r) r (cW c) (cC c) b) r b (cC c) w) r b w k) (⟨((r:Nat):Int),((b:Nat):Int),((w:Nat):Int),((k:Nat):Int)⟩:Pl).ix (fun _=>0) false (((nwC_ok (nwW_ok (nwB_ok (nwR_ok (ctl0_ok hcf) h64 h1k h16 r) h64 h1k b) h64 w) k).mono (by omega))) (fun _=>(by decide:(0:Nat) < 256))) (.n2 (.e 36 (aAdd (a:=((k:Nat):Int)) (b:=1) (c:=((k + 1:Nat):Int)) (by omega)) .nil)))))) (.t (show (decide ((((cC c):Nat):Int) < c.ly.g.cols))=false from decide_eq_false (by omega)) (.e 37 (aAdd (a:=((w:Nat):Int)) (b:=1) (c:=((w + 1:Nat):Int)) (by omega)) .nil))))) (.t (show (decide ((((cW c):Nat):Int) < c.ly.g.rows))=false from decide_eq_false (by omega)) (.e 38 (aAdd (a:=((b:Nat):Int)) (b:=1) (c:=((b + 1:Nat):Int)) (by omega)) .nil))))) (.t (show (decide ((((cB c):Nat):Int) < c.ly.g.banks))=false from decide_eq_false (by omega)) (.e 10 (aAdd (a:=((r:Nat):Int)) (b:=1) (c:=((r + 1:Nat):Int)) (by omega)) .nil))))))))) (.c [] (holds_sp c.ly.g (⟨(((cRk c):Nat):Int),0,0,0⟩:Pl)) (.t (show (c.ly.g.holds (⟨(((cRk c):Nat):Int),0,0,0⟩:Pl))=false from holds_n hg (by unfold cRk; omega)) .nil)))))))))))))))
theorem rawRight_t {m:Int} (h:m=1 ∨ m=2):rawRight_v0 m=true:=by rcases h with rfl | rfl <;> rfl
def mNewM_s (c:Cfg):MchS:=(⟨(cNew_s c),fun _ _=>0,[],[],0,0⟩:MchS)
theorem mNewM (c:Cfg) (hcf:cfgRight_v0 c=true):Sp P 62 [.ag [vi c.ly.g.ranks,vi c.ly.g.spares,vi c.ly.g.banks,vi c.ly.g.rows,vi c.ly.g.cols,vi c.ly.way,vi c.ly.res,vi c.mode,vi c.rules.rank.limit,vi c.rules.rank.every,vi c.rules.page.limit,vi c.rules.page.every,vi c.rules.room,vi c.rules.heavy,vi c.log,vt c.back]] [] (.tu [.pt 0 0,vn 0]) ([.blk [.pt 16 0,.pt 1 0,.mp 30,.sl 31,.sl 32,vi (mNewM_s c).scrubs,vi (mNewM_s c).steps] 171] ++ bCtl (mNewM_s c).c 1 ++ bCode 25 ++ [.mp (.ar .u8 64 (nf (fun _=>0))) (mpC (mNewM_s c).ideal),.row eInj (mNewM_s c).inj,.row eSrv (mNewM_s c).srv]):=by
 have hc:=cfg_t hcf
 generalize d0:mNewM_s c=yd0
 unfold mNewM_s at d0
 subst d0
 exact so Tryz.f62 34 (.id 32 :: ir 10 15 ++ ir 2 8 ++ ir 25 7 ++ .nil :: .nil :: []) (.c [] (dvNew_sp c.ly.g c.mode ((ly_rt hc.1).1) (rawRight_t hc.2.1)) (.n (.c (ir 2 8) (cNew c (by first | assumption | omega)) (.n .nil))))
theorem mInject_ok {n:Nat} {s:MchS} {f:Flt} (h:MchOk n s):MchOk (n + 1) (mInject_s s f):=by
 have hd:CtlOk (n + 1) { s.c with d:={ s.c.d with d:=dInject_s s.c.d.d f } }:=⟨h.c.le,vInject_ok h.c.d,h.c.md,Nat.le_succ_of_le h.c.nl,Nat.le_succ_of_le h.c.dl⟩
 unfold mInject_s
 cases decide (dInject_v0 s.c.d.d f=0)
 ·exact ⟨hd,h.id,Nat.le_succ_of_le h.il,Nat.le_succ_of_le h.sl,h.ly⟩
 ·exact ⟨hd,h.id,by show (s.inj ++ [_]).length<=n + 1; rw [List.length_append]; have:=h.il; show s.inj.length + 1<=n + 1; omega,Nat.le_succ_of_le h.sl,h.ly⟩
theorem bifM {n:Nat} {c:Bool} {a b:MchS} (ha:MchOk n a) (hb:MchOk n b):MchOk n (bif c then a else b):=by cases c <;> assumption
theorem gCtl (s:MchS) :Sp P 18 [.pt 0 0] ([.ro (.blk [.pt 16 0,.pt 1 0,.mp 30,.sl 31,.sl 32,vi s.scrubs,vi s.steps] 171)] ++ ros (bCtl s.c 1) ++ ros (bCode 25) ++ [.ro (.mp (.ar .u8 64 (nf (fun _=>0))) (mpC s.ideal)),.ro (.row eInj s.inj),.ro (.row eSrv s.srv)]) (.pt 1 0) ([.ro (.blk [.pt 16 0,.pt 1 0,.mp 30,.sl 31,.sl 32,vi s.scrubs,vi s.steps] 171)] ++ ros (bCtl s.c 1) ++ ros (bCode 25) ++ [.ro (.mp (.ar .u8 64 (nf (fun _=>0))) (mpC s.ideal)),.ro (.row eInj s.inj),.ro (.row eSrv s.srv)]) :=
 so Tryz.f18 3 (ir 0 33) .nil
theorem gDev (s:MchS) :Sp P 65 [.pt 0 0] ([.ro (.blk [.pt 16 0,.pt 1 0,.mp 30,.sl 31,.sl 32,vi s.scrubs,vi s.steps] 171)] ++ ros (bCtl s.c 1) ++ ros (bCode 25) ++ [.ro (.mp (.ar .u8 64 (nf (fun _=>0))) (mpC s.ideal)),.ro (.row eInj s.inj),.ro (.row eSrv s.srv)]) (.pt 16 0) ([.ro (.blk [.pt 16 0,.pt 1 0,.mp 30,.sl 31,.sl 32,vi s.scrubs,vi s.steps] 171)] ++ ros (bCtl s.c 1) ++ ros (bCode 25) ++ [.ro (.mp (.ar .u8 64 (nf (fun _=>0))) (mpC s.ideal)),.ro (.row eInj s.inj),.ro (.row eSrv s.srv)]) :=
 so Tryz.f65 3 (ir 0 33) .nil
theorem bifE {α β:Type} {f:α->β} {c:Bool} {a b:α} {y:β} (ha:f a=y) (hb:f b=y):f (bif c then a else b)=y:=by cases c <;> assumption
theorem cput_c (s:CtlS) (i:Int) (l:Nat->Nat) (b:Bool):(cput_s s i l b).le.c=s.le.c:=by cases b <;> rfl
theorem cnote_c (s:CtlS) (x:Nt):(cnote_s s x).le.c=s.le.c:=lapply_c s.le x
theorem ctake_c (s:CtlS) (i h r:Int):(ctake_s s i h r).le.c=s.le.c:=lapply_c s.le _
theorem cread_c (s:CtlS) (i:Int) (b:Bool):(cread_s s i b).le.c=s.le.c:=by
 unfold cread_s
 exact bifE (f:=fun s:CtlS=>s.le.c) (bifE (f:=fun s:CtlS=>s.le.c) (bifE (f:=fun s:CtlS=>s.le.c) ((cput_c _ _ _ _).trans (ctake_c _ _ _ _)) (ctake_c _ _ _ _)) (ctake_c _ _ _ _)) rfl
theorem cMasked_c (s:CtlS) (i:Int) (l:List Nat) (m:Nat):(cMasked_s s i l m).le.c=s.le.c:=by
 unfold cMasked_s
 exact bifE (f:=fun s:CtlS=>s.le.c) (bifE (f:=fun s:CtlS=>s.le.c) rfl (bifE (f:=fun s:CtlS=>s.le.c) (cput_c _ _ _ _) (bifE (f:=fun s:CtlS=>s.le.c) ((cput_c _ _ _ _).trans (ctake_c _ _ _ _)) ((cput_c _ _ _ _).trans (ctake_c _ _ _ _))))) rfl
theorem cScrub_c (s:CtlS):(cScrub_s s).le.c=s.le.c:=cread_c _ _ _
theorem ccopy_j1_c (s:CtlS):(ccopy_j1 s).le.c=s.le.c:=by
 unfold ccopy_j1
 exact bifE (f:=fun s:CtlS=>s.le.c) ((cput_c _ _ _ _).trans (ctake_c _ _ _ _)) (cput_c _ _ _ _)
theorem cCopy_c (s:CtlS):(cCopy_s s).le.c=s.le.c:=by
 unfold cCopy_s
 exact bifE (f:=fun s:CtlS=>s.le.c) ((cnote_c _ _).trans (ccopy_j1_c s)) rfl
theorem cTick_c (s:CtlS):(cTick_s s).le.c=s.le.c:=by
 unfold cTick_s
 exact bifE (f:=fun s:CtlS=>s.le.c) rfl (cnote_c _ _)
theorem upZ_lt {c:Int->Nat->Nat} {k:Int} {r:Nat->Nat} (hc:∀ k j,c k j < 256) (hr:∀ j,r j < 256) (i:Int) (j:Nat):upZ c k r i j < 256:=by
 unfold upZ; split
 ·exact hr j
 ·exact hc i j
theorem mch_req {n:Nat} {s:MchS} {c:CtlS} {id:Int->Nat->Nat} {sv:List Srv} {st:Int} (h:MchOk n s) (hc:CtlOk (n + 3) c) (hl:c.le.c=s.c.le.c) (hid:∀ k j,id k j < 256) (hs:sv.length<=s.srv.length + 1):MchOk (n + 4) ⟨c,id,s.inj,sv,s.scrubs,st⟩ :=
 ⟨hc.mono (by omega),hid,Nat.le_trans h.il (by show n<=n + 4; omega),by have:=h.sl; show sv.length<=n + 4; omega,by show lyRight_v0 c.le.c.ly=true; rw [hl]; exact h.ly⟩
theorem appL {α:Type} (l:List α) (x:α):(l ++ [x]).length<=l.length + 1:=by rw [List.length_append]; exact Nat.le_refl _
theorem mRequest_ok {n:Nat} {s:MchS} {x:Stp} (h:MchOk n s) (hx:StpOk x):MchOk (n + 4) (mRequest_s s x):=by
 have hm:∀ m j,mgF (s.ideal x.line) x.data m j < 256:=fun m j=>mgF_lt (h.id _) hx.d m j
 have hB:B8 (arL x.data 64 0):=arL_B8 hx.d 64 0
 have r1:=fun (sv:List Srv) (hs:sv.length<=s.srv.length + 1)=>mch_req (c:=cread_s s.c x.line s.c.le.c.back) (st:=s.steps) h (cread_ok h.c) (cread_c _ _ _) h.id hs
 have r2:=fun (m:Nat) (id:Int->Nat->Nat) (hid:∀ k j,id k j < 256) (sv:List Srv) (hs:sv.length<=s.srv.length + 1)=>mch_req (c:=cMasked_s s.c x.line (arL x.data 64 0) m) (st:=s.steps) h (cMasked_ok h.c hB) (cMasked_c _ _ _ _) hid hs
 unfold mRequest_s
 exact bifM (bifM (r1 _ (Nat.le_succ _)) (r1 _ (appL _ _))) (bifM (bifM (r2 _ _ h.id _ (Nat.le_succ _)) (r2 _ _ (upZ_lt h.id (hm _)) _ (appL _ _))) (bifM (r2 _ _ h.id _ (Nat.le_succ _)) (r2 _ _ (upZ_lt h.id (hm _)) _ (appL _ _))))
theorem mch_ctl {n:Nat} {s:MchS} {c:CtlS} {a b:Int} (h:MchOk n s) (hc:CtlOk (n + 4) c) (hl:c.le.c=s.c.le.c):MchOk (n + 4) ⟨c,s.ideal,s.inj,s.srv,a,b⟩ :=
 ⟨hc,h.id,Nat.le_trans h.il (by omega),Nat.le_trans h.sl (by omega),by show lyRight_v0 c.le.c.ly=true; rw [hl]; exact h.ly⟩
theorem mDo_ok {n:Nat} {s:MchS} {x:Stp} (h:MchOk n s) (hx:StpOk x):MchOk (n + 4) (mDo_s s x):=by
 have h1:MchOk n { s with steps:=IntKind.i64.wrap (s.steps + 1) }:=⟨h.c,h.id,h.il,h.sl,h.ly⟩
 unfold mDo_s
 exact bifM (bifM (mch_ctl h (cScrub_ok h.c) (cScrub_c _)) (bifM (mch_ctl h (cCopy_ok h.c) (cCopy_c _)) (bifM (mch_ctl h (cTick_ok h.c) (cTick_c _)) (bifM (mch_ctl h ((cnote_ok h.c).mono (by omega)) (cnote_c _ _)) (bifM ((mInject_ok h1).mono (by omega)) (mRequest_ok h1 hx)))))) (h.mono (by omega))
def mAns (s:MchS) (x:Stp):Ans:=⟨mDo_v0 s x,mDo_v1 s x,mDo_v2 s x⟩
def mrS (s:MchS) (l:List Stp):Nat->MchS
 | 0=>s
 | i + 1=>mDo_s (mrS s l i) (l.getD i eStp0)
def mrA (s:MchS) (l:List Stp):Nat->List Ans
 | 0=>[]
 | i + 1=>mrA s l i ++ [mAns (mrS s l i) (l.getD i eStp0)]
theorem mrA_len (s:MchS) (l:List Stp):∀ i,(mrA s l i).length=i
 | 0=>rfl
 | i + 1=>by rw [mrA,List.length_append,mrA_len s l i]; rfl
theorem stp_at {l:List Stp} (h:∀ x ∈ l,StpOk x) {i:Nat} (hi:i < l.length):StpOk (l.getD i eStp0):=h _ (gDm eStp0 hi)
theorem mrS_ok {n:Nat} {s:MchS} {l:List Stp} (h:MchOk n s) (hl:∀ x ∈ l,StpOk x):∀ {i},i<=l.length->MchOk (n + 4 * i) (mrS s l i)
 | 0,_=>h
 | i + 1,hi=>(mDo_ok (mrS_ok h hl (Nat.le_of_succ_le hi)) (stp_at hl hi)).mono (by omega)
theorem mRun (s:MchS) (l:List Stp) (ok:MchOk 90000000 s) (hs:∀ x ∈ l,StpOk x) (hl:l.length<=1000):Sp P 16 [.pt 0 0,.sl 33] ([.blk [.pt 16 0,.pt 1 0,.mp 30,.sl 31,.sl 32,vi s.scrubs,vi s.steps] 171] ++ bCtl s.c 1 ++ ros (bCode 25) ++ [.mp (.ar .u8 64 (nf (fun _=>0))) (mpC s.ideal),.row eInj s.inj,.row eSrv s.srv,.ro (.row eStp l)]) (.sl 34) ([.blk [.pt 16 0,.pt 1 0,.mp 30,.sl 31,.sl 32,vi (mrS s l l.length).scrubs,vi (mrS s l l.length).steps] 171] ++ bCtl (mrS s l l.length).c 1 ++ ros (bCode 25) ++ [.mp (.ar .u8 64 (nf (fun _=>0))) (mpC (mrS s l l.length).ideal),.row eInj (mrS s l l.length).inj,.row eSrv (mrS s l l.length).srv,.ro (.row eStp l),.row eAns (mrA s l l.length)]) :=
 so Tryz.f16 6 (ir 0 34 ++ .id 35 :: []) (.lp l.length 36 [(35,.nil)] [(35,.id 38)] (fun i=>[(10,vn i),(5,.sl 35)]) (fun i=>[(0,.blk [.pt 16 0,.pt 1 0,.mp 30,.sl 31,.sl 32,vi (mrS s l i).scrubs,vi (mrS s l i).steps] 171)] ++ nb 1 (bCtl (mrS s l i).c 1) ++ [(25,.ro (.blk [.pt 26 0,.pt 27 0] 314)),(26,.ro (hC)),(27,.ro (.blk [.pt 28 0,.sl 29] 368)),(28,.ro (gF)),(29,.ro (.row eB gen)),(30,.mp (.ar .u8 64 (nf (fun _=>0))) (mpC (mrS s l i).ideal)),(31,.row eInj (mrS s l i).inj),(32,.row eSrv (mrS s l i).srv),(35,.row eAns (mrA s l i))]) (fun i hi=>(.t (show (decide (((i:Nat):Int) < ((l.length:Nat):Int)))=true from decide_eq_true (by omega)) (.ix (i:=i) (m:=l.length) (by omega) (.el (e:=eStp) (gDx (l:=l) (i:=i) eStp0 (by omega)) (.c (ir 0 33) (mDo (mrS s l i) (l.getD i eStp0) ((mrS_ok ok hs (Nat.le_of_lt hi)).mono (by omega)) (stp_at hs hi)) (.ap (e:=eAns) (l:=mrA s l i) (l':=[(⟨mDo_v0 (mrS s l i) (l.getD i eStp0),mDo_v1 (mrS s l i) (l.getD i eStp0),mDo_v2 (mrS s l i) (l.getD i eStp0)⟩:Ans)]) .row (.flat [vi (mDo_v0 (mrS s l i) (l.getD i eStp0)),vi (mDo_v1 (mrS s l i) (l.getD i eStp0)),.ar .u8 64 (nf (mDo_v2 (mrS s l i) (l.getD i eStp0)))] [(⟨mDo_v0 (mrS s l i) (l.getD i eStp0),mDo_v1 (mrS s l i) (l.getD i eStp0),mDo_v2 (mrS s l i) (l.getD i eStp0)⟩:Ans)] rfl) (by rw [mrA_len]; simp only [List.length_cons,List.length_nil]; omega) (.e 20 (aAdd (a:=((i:Nat):Int)) (b:=1) (c:=((i + 1:Nat):Int)) (by omega)) .nil))))))) (.t (show (decide (((l.length:Nat):Int) < ((l.length:Nat):Int)))=false from decide_eq_false (by omega)) .nil))
end Go.Proofs.YtfhiggfmkjmeiaaGreat
