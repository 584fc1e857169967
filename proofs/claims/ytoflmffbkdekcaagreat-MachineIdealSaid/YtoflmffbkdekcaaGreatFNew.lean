import Derived.Test.YtoflmffbkdekcaaGreatFMch
namespace Go.Proofs.YtoflmffbkdekcaaGreat
open Go Go.RowKit
set_option linter.unusedVariables false
set_option linter.unusedSimpArgs false
set_option maxRecDepth 100000
def gpN (g:Gm):Nat:=(gpages_v0 g).toNat
theorem gpN_eq {g:Gm} (h:g.right=true):((gpN g:Nat):Int)=gpages_v0 g:=Int.toNat_of_nonneg (by have:=gpages_pos h; omega)
theorem gpN_le {g:Gm} (h:g.right=true):gpN g≤131072:=by have:=gpages_eq h; unfold gpN; omega
theorem gpagesN (g:Gm) (h:g.right=true):Sp P 117 [.ag [vi g.ranks,vi g.spares,vi g.banks,vi g.rows,vi g.cols]] [] (vn (gpN g)) []:=by
 have h1:=gpages g
 rw [← gpN_eq h] at h1
 exact h1
def liveL:Nat→List Int
 | 0=>[]
 | i + 1=>liveL i ++ [((i:Nat):Int)]
theorem liveL_len:∀ i,(liveL i).length=i
 | 0=>rfl
 | i + 1=>by rw [liveL,List.length_append,liveL_len i]; rfl
def spL:Nat→List Int
 | 0=>[]
 | i + 1=>spL i ++ [-1]
theorem spL_len:∀ i,(spL i).length=i
 | 0=>rfl
 | i + 1=>by rw [spL,List.length_append,spL_len i]; rfl
def mNew_s (l:Ly):MapS:=(⟨l,liveL (lySeen_v0 l).toNat,List.replicate (gpN l.g) eT0,spL l.g.ranks.toNat,0,0⟩:MapS)
theorem mNew (l:Ly) (hr:lyRight_v0 l=true):Sp P 179 [.ag [vi l.g.ranks,vi l.g.spares,vi l.g.banks,vi l.g.rows,vi l.g.cols,vi l.way,vi l.res]] [] (.tu [.pt 0 0,vn 0]) (bMap (mNew_s l) 0):=by
 have hl:=ly_rt hr
 have hg:=Gm.rt hl.1
 have hp:=gpN_le hl.1
 generalize d0:mNew_s l=yd0
 unfold mNew_s at d0
 subst d0
 exact so Tryz.f179 10 [.id 4,.id 5,.id 3,.id 6] (.c [] (lyRight l) (.t (congrArg (!·) (show (lyRight_v0 l)=true from hr)) (.c [] (gpagesN l.g hl.1) (.mk (e:=eT) (a:=eT0) (n:=gpN l.g) (by omega) (.c [] (lySeen l) (.lp (lySeen_v0 l).toNat 6 [(5,.nil)] [(5,.id 7)] (fun i=>[(18,vn i)]) (fun i=>[(4,.blk [vi l.g.ranks,vi l.g.spares,vi l.g.banks,vi l.g.rows,vi l.g.cols,vi l.way,vi l.res,.sl 5,.sl 3,nilS,vn 0,vn 0] 255),(5,.row eI (liveL i))]) (fun i hi=>(.t (show (decide (((i:Nat):Int) < (lySeen_v0 l)))=true from decide_eq_true (by omega)) (.ap (e:=eI) (l:=liveL i) (l':=[((i:Nat):Int)]) .row (.flat [vn i] [((i:Nat):Int)] rfl) (by rw [liveL_len]; simp only [List.length_cons,List.length_nil]; omega) (.e 31 (aAdd (a:=((i:Nat):Int)) (b:=1) (c:=((i + 1:Nat):Int)) (by omega)) .nil)))) (.t (show (decide ((((lySeen_v0 l).toNat:Nat):Int) < (lySeen_v0 l)))=false from decide_eq_false (by omega)) (.lp l.g.ranks.toNat 7 [(6,.nil)] [(6,.id 8)] (fun i=>[(35,vn i)]) (fun i=>[(4,.blk [vi l.g.ranks,vi l.g.spares,vi l.g.banks,vi l.g.rows,vi l.g.cols,vi l.way,vi l.res,.sl 5,.sl 3,.sl 6,vn 0,vn 0] 255),(6,.row eI (spL i))]) (fun i hi=>(.t (show (decide (((i:Nat):Int) < l.g.ranks))=true from decide_eq_true (by omega)) (.ap (e:=eI) (l:=spL i) (l':=[-1]) .row (.flat [vi (-1)] [-1] rfl) (by rw [spL_len]; simp only [List.length_cons,List.length_nil]; omega) (.e 46 (aAdd (a:=((i:Nat):Int)) (b:=1) (c:=((i + 1:Nat):Int)) (by omega)) .nil)))) (.t (show (decide (((l.g.ranks.toNat:Nat):Int) < l.g.ranks))=false from decide_eq_false (by omega)) .nil)))))))))
theorem mNew_ok {l:Ly} (hr:lyRight_v0 l=true):MapOk (mNew_s l):=by
 have hl:=ly_rt hr
 have hg:=Gm.rt hl.1
 exact ⟨hr,by show (((liveL _).length:Nat):Int)=lySeen_v0 l; rw [liveL_len]; omega,by show (((List.replicate (gpN l.g) eT0).length:Nat):Int)=gpages_v0 l.g; rw [List.length_replicate]; exact gpN_eq hl.1,by show (((spL _).length:Nat):Int)=l.g.ranks; rw [spL_len]; omega,⟨Int.le_refl _,hl.2.2.1.1⟩,⟨Int.le_refl _,hg.2.1.1⟩⟩
def rgNew:RgS:=⟨List.replicate 256 eAk0,0,0⟩
theorem rgNew_ok:RgOk rgNew:=⟨List.length_replicate,⟨Int.le_refl _,by decide⟩,⟨Int.le_refl _,by decide⟩⟩
theorem rgNew_sp  :Sp P 180 [vn 256] [] (.tu [.pt 0 0,vn 0]) (bRing rgNew 0) :=
 so Tryz.f180 4 [.id 2,.id 1] (.n (.n (.n (.n (.mk (e:=eAk) (a:=eAk0) (n:=256) (by decide) .nil)))))
def rpNew (l:Ly):RepS:=⟨mNew_s l,⟨0,0,0,0⟩,rgNew⟩
theorem rpNew_ok {l:Ly} (hr:lyRight_v0 l=true):RepOk (rpNew l):=⟨mNew_ok hr,rgNew_ok,⟨Int.le_refl _,show (0:Int)≤1048576 by decide⟩⟩
theorem rpNew_sp (l:Ly) (hr:lyRight_v0 l=true):Sp P 141 [.ag [vi l.g.ranks,vi l.g.spares,vi l.g.banks,vi l.g.rows,vi l.g.cols,vi l.way,vi l.res]] [] (.tu [.pt 0 0,vn 0]) (bRep (rpNew l) 0) :=
 so Tryz.f141 10 (.id 8 :: ir 2 6) (.c [] (mNew l (by first | assumption | omega)) (.n (.c [] (rgNew_sp) (.n .nil))))
theorem tbNew_sp (room:Int) (h1:decide (room < 1)=false) (h2:decide (256 < room)=false):Sp P 181 [vi room,.fn (.func 182) [] []] [] (.tu [.pt 0 0,vn 0]) [.blk [.sl 1,vi room,.fn (.func 182) [] []] 340,.row ePg []] :=
 so Tryz.f181 3 [.id 1,.nil] (.t h1 (.t h1 (.t h1 (.t h2 .nil))))
def kNewS (r:Rls) (n:Nat):TrkS:=⟨r,List.replicate n eBk0,[]⟩
theorem rulesRight_t {r:Rls} (h:rulesRight_v0 r=true):1≤r.room∧r.room≤256:=by
 unfold rulesRight_v0 at h
 revert h
 cases q1:decide (1≤r.room) <;> cases q2:decide (r.room≤256) <;> simp_all
theorem kNewN (r:Rls) (n:Nat) (hr:rulesRight_v0 r=true) (hn:1≤n∧n≤8) (h1:decide (r.room < 1)=false) (h2:decide (256 < r.room)=false):Sp P 142 [.ag [vi r.rank.limit,vi r.rank.every,vi r.page.limit,vi r.page.every,vi r.room,vi r.heavy],vn n] [] (.tu [.pt 0 0,vn 0]) (bTrk (kNewS r n) 0) :=
 so Tryz.f142 7 [.id 5,.id 4,.id 2,.id 3] (.c [] (rulesRight r) (.t (congrArg (!·) (show (rulesRight_v0 r)=true from hr)) (.t (show (decide (((n:Nat):Int) < 1))=false from decide_eq_false (by omega)) (.t (show (decide (((n:Nat):Int) < 1))=false from decide_eq_false (by omega)) (.t (show (decide (((n:Nat):Int) < 1))=false from decide_eq_false (by omega)) (.t (show (decide (8 < ((n:Nat):Int)))=false from decide_eq_false (by omega)) (.c [] (tbNew_sp r.room (by first | assumption | omega) (by first | assumption | omega)) (.n (.mk (e:=eBk) (a:=eBk0) (n:=n) (by omega) .nil)))))))))
theorem kNew_sp (r:Rls) (k:Int) (hr:rulesRight_v0 r=true) (hk:1≤k∧k≤8):Sp P 142 [.ag [vi r.rank.limit,vi r.rank.every,vi r.page.limit,vi r.page.every,vi r.room,vi r.heavy],vi k] [] (.tu [.pt 0 0,vn 0]) (bTrk (kNewS r k.toNat) 0):=by
 have h:=kNewN r k.toNat hr (by omega) (decide_eq_false (by have:=rulesRight_t hr; omega)) (decide_eq_false (by have:=rulesRight_t hr; omega))
 rw [show (vn k.toNat:V)=vi k from congrArg (fun x:Int=>(vi x:V)) (Int.toNat_of_nonneg (by omega))] at h
 exact h
theorem kNewS_ok {r:Rls} {k:Int} (hr:rulesRight_v0 r=true) (hk:1≤k∧k≤8):TrkOk (kNewS r k.toNat):=⟨⟨Nat.zero_le _,(rulesRight_t hr).1,by have:=(rulesRight_t hr).1; show ((0:Nat):Int)≤r.room; omega⟩,by show (List.replicate k.toNat eBk0).length≤8; rw [List.length_replicate]; omega⟩
def lNewS (room:Int):LogS:=⟨[],room,1,false⟩
theorem lNewS_ok {room:Int} (h:1≤room∧room≤256):LogOk (lNewS room):=⟨Nat.zero_le _,h.1,by show ((0:Nat):Int)≤room; omega⟩
theorem lNew_sp (room:Int) (hk:1≤room∧room≤256):Sp P 143 [vi room] [] (.tu [.pt 0 0,vn 0]) (bLog (lNewS room) 0) :=
 so Tryz.f143 3 [.id 1,.nil] (.t (show (decide (room < 1))=false from decide_eq_false (by omega)) (.t (show (decide (room < 1))=false from decide_eq_false (by omega)) (.t (show (decide (room < 1))=false from decide_eq_false (by omega)) (.t (show (decide (256 < room))=false from decide_eq_false (by omega)) .nil))))
def rawRight_v0 (m:Int):Bool:=bif decide (m=1) then true else (decide (m=2))
theorem rawRight (m:Int) :Sp P 77 [vi m] [] (vt (rawRight_v0 m)) []:=by
 generalize d0:rawRight_v0 m=yd0
 unfold rawRight_v0 at d0
 rcases bft (decide (m=1)) with q1 | q1
 ·rw [cpos q1] at d0
  subst d0
  exact so Tryz.f77 3 [] (.t q1 (.t q1 (.t q1 .nil)))
 ·rw [cneg q1] at d0
  subst d0
  exact so Tryz.f77 3 [] (.t q1 (.t q1 (.t q1 .nil)))
def cfgRight_v0 (c:Cfg):Bool:=bif (lyRight_v0 c.ly) then (bif (rawRight_v0 c.mode) then (bif (rulesRight_v0 c.rules) then (bif decide (1≤c.log) then (decide (c.log≤256)) else false) else false) else false) else false
theorem cfgRight (c:Cfg) :Sp P 33 [.ag [vi c.ly.g.ranks,vi c.ly.g.spares,vi c.ly.g.banks,vi c.ly.g.rows,vi c.ly.g.cols,vi c.ly.way,vi c.ly.res,vi c.mode,vi c.rules.rank.limit,vi c.rules.rank.every,vi c.rules.page.limit,vi c.rules.page.every,vi c.rules.room,vi c.rules.heavy,vi c.log,vt c.back]] [] (vt (cfgRight_v0 c)) []:=by
 generalize d0:cfgRight_v0 c=yd0
 unfold cfgRight_v0 at d0
 rcases bft (lyRight_v0 c.ly) with q1 | q1
 ·rw [cpos q1] at d0
  rcases bft (rawRight_v0 c.mode) with q2 | q2
  ·rw [cpos q2] at d0
   rcases bft (rulesRight_v0 c.rules) with q3 | q3
   ·rw [cpos q3] at d0
    rcases bft (decide (1≤c.log)) with q4 | q4
    ·rw [cpos q4] at d0
     subst d0
     exact so Tryz.f33 3 [] (.c [] (lyRight c.ly) (.t q1 (.t q1 (.t q1 (.c [] (rawRight c.mode) (.t q1 (.t q2 (.t q2 (.t q2 (.c [] (rulesRight c.rules) (.t q2 (.t q3 (.t q3 (.t q3 (.t q3 (.t q4 (.t q4 (.t q4 (.t q4 .nil)))))))))))))))))))
    ·rw [cneg q4] at d0
     subst d0
     exact so Tryz.f33 3 [] (.c [] (lyRight c.ly) (.t q1 (.t q1 (.t q1 (.c [] (rawRight c.mode) (.t q1 (.t q2 (.t q2 (.t q2 (.c [] (rulesRight c.rules) (.t q2 (.t q3 (.t q3 (.t q3 (.t q3 (.t q4 (.t q4 (.t q4 (.t q4 .nil)))))))))))))))))))
   ·rw [cneg q3] at d0
    subst d0
    exact so Tryz.f33 3 [] (.c [] (lyRight c.ly) (.t q1 (.t q1 (.t q1 (.c [] (rawRight c.mode) (.t q1 (.t q2 (.t q2 (.t q2 (.c [] (rulesRight c.rules) (.t q2 (.t q3 (.t q3 (.t q3 (.t q3 (.n (.n (.n (.n .nil)))))))))))))))))))
  ·rw [cneg q2] at d0
   subst d0
   exact so Tryz.f33 3 [] (.c [] (lyRight c.ly) (.t q1 (.t q1 (.t q1 (.c [] (rawRight c.mode) (.t q1 (.t q2 (.t q2 (.t q2 (.t q2 (.n (.n (.n (.n (.n (.n (.n (.n .nil))))))))))))))))))
 ·rw [cneg q1] at d0
  subst d0
  exact so Tryz.f33 3 [] (.c [] (lyRight c.ly) (.t q1 (.t q1 (.t q1 (.t q1 (.n (.n (.n (.n (.n (.n (.n (.n (.n (.n (.n (.n .nil)))))))))))))))))
theorem cfg_t {c:Cfg} (h:cfgRight_v0 c=true):lyRight_v0 c.ly=true∧(c.mode=1 ∨ c.mode=2)∧rulesRight_v0 c.rules=true∧1≤c.log∧c.log≤256:=by
 unfold cfgRight_v0 at h
 revert h
 cases q1:lyRight_v0 c.ly <;> cases q2:rulesRight_v0 c.rules <;> cases q3:decide (1≤c.log) <;> simp_all [rawRight_v0]
 all_goals (intro h; try omega)
 all_goals (by_cases e:c.mode=1 <;> simp_all)
def copen_s (c:Cfg):LedS:=(⟨c,(rpNew c.ly),(kNewS c.rules c.ly.g.ranks.toNat),(lNewS c.log),0⟩:LedS)
theorem copen (c:Cfg) (hcf:cfgRight_v0 c=true):Sp P 101 [.ag [vi c.ly.g.ranks,vi c.ly.g.spares,vi c.ly.g.banks,vi c.ly.g.rows,vi c.ly.g.cols,vi c.ly.way,vi c.ly.res,vi c.mode,vi c.rules.rank.limit,vi c.rules.rank.every,vi c.rules.page.limit,vi c.rules.page.every,vi c.rules.room,vi c.rules.heavy,vi c.log,vt c.back]] [] (.tu [.pt 0 0,vn 0]) (bLed (copen_s c) 0):=by
 have hc:=cfg_t hcf
 generalize d0:copen_s c=yd0
 unfold copen_s at d0
 subst d0
 exact so Tryz.f101 18 (.id 2 :: ir 4 13) (.c [] (cfgRight c) (.t (congrArg (!·) (show (cfgRight_v0 c)=true from hcf)) (.c [] (rpNew_sp c.ly hc.1) (.c [] (kNew_sp c.rules c.ly.g.ranks hc.2.2.1 ((Gm.rt (ly_rt hc.1).1).1)) (.c [] (lNew_sp c.log hc.2.2.2) (.lu 3 (.y (.ix (i:=0) (m:=3) (by decide) (.t (congrArg (!·) (show (decide ((upI (upI (upI (fun _=>0) 0 0) 1 0) 2 0) 0=0))=true from rfl)) (.y (.ix (i:=1) (m:=3) (by decide) (.t (congrArg (!·) (show (decide ((upI (upI (upI (fun _=>0) 0 0) 1 0) 2 0) 1=0))=true from rfl)) (.y (.ix (i:=2) (m:=3) (by decide) (.t (congrArg (!·) (show (decide ((upI (upI (upI (fun _=>0) 0 0) 1 0) 2 0) 2=0))=true from rfl)) (.n .nil))))))))))))))))
theorem copen_ok {c:Cfg} (h:cfgRight_v0 c=true):LedOk (copen_s c):=by
 obtain ⟨h1,h2,h3,h4,h5⟩:=cfg_t h
 have hg:=Gm.rt (ly_rt h1).1
 exact ⟨rpNew_ok h1,kNewS_ok h3 hg.1,(rulesRight_t h3).2,lNewS_ok ⟨h4,h5⟩,h5⟩
def dmNew (g:Gm) (m:Int):DramS:=⟨g,m,fun _ _=>0,[],[]⟩
def dvNew (g:Gm) (m:Int):DevS:=⟨dmNew g m,fun _ _=>0,fun _=>0,[]⟩
theorem dmNew_sp (g:Gm) (m:Int) (hg:g.right=true) (hm:rawRight_v0 m=true):Sp P 127 [.ag [vi g.ranks,vi g.spares,vi g.banks,vi g.rows,vi g.cols],vi m] [] (.tu [.pt 0 0,vn 0]) (bDram (dmNew g m) 0) :=
 so Tryz.f127 5 [.id 3,.id 2,.nil,.nil] (.c [] (gright_sp g) (.g hg (.c [] (rawRight m) (.t (congrArg (!·) (show (rawRight_v0 m)=true from hm)) .nil))))
theorem dvNew_sp (g:Gm) (m:Int) (hg:g.right=true) (hm:rawRight_v0 m=true):Sp P 74 [.ag [vi g.ranks,vi g.spares,vi g.banks,vi g.rows,vi g.cols],vi m] [] (.tu [.pt 0 0,vn 0]) (bDev (dvNew g m) 0) :=
 so Tryz.f74 10 (.id 8 :: .id 6 :: .id 7 :: .nil :: ir 2 4) (.c [] (dmNew_sp g m (by first | assumption | omega) (by first | assumption | omega)) (.n .nil))
def wr0 (s:CtlS) (r b w c:Nat):CtlS:=cput_s s (Pl.ix ⟨((r:Nat):Int),((b:Nat):Int),((w:Nat):Int),((c:Nat):Int)⟩) (fun _=>0) false
def nwC (s:CtlS) (r b w:Nat):Nat→CtlS
 | 0=>s
 | c + 1=>wr0 (nwC s r b w c) r b w c
def nwW (s:CtlS) (r b C:Nat):Nat→CtlS
 | 0=>s
 | w + 1=>nwC (nwW s r b C w) r b w C
def nwB (s:CtlS) (r W C:Nat):Nat→CtlS
 | 0=>s
 | b + 1=>nwW (nwB s r W C b) r b C W
def nwR (s:CtlS) (B W C:Nat):Nat→CtlS
 | 0=>s
 | r + 1=>nwB (nwR s B W C r) r W C B
theorem wr0_ok {n:Nat} {s:CtlS} {r b w c:Nat} (h:CtlOk n s):CtlOk (n + 1) (wr0 s r b w c):=cput_ok h (fun _=>(by decide:(0:Nat) < 256))
theorem nwC_ok {n:Nat} {s:CtlS} {r b w:Nat} (h:CtlOk n s):∀ c,CtlOk (n + c) (nwC s r b w c)
 | 0=>h
 | c + 1=>wr0_ok (nwC_ok h c)
theorem nwW_ok {n:Nat} {s:CtlS} {r b C:Nat} (h:CtlOk n s) (hC:C≤64):∀ w,CtlOk (n + 64 * w) (nwW s r b C w)
 | 0=>h
 | w + 1=>(nwC_ok (nwW_ok h hC w) C).mono (by omega)
theorem nwB_ok {n:Nat} {s:CtlS} {r W C:Nat} (h:CtlOk n s) (hC:C≤64) (hW:W≤1024):∀ b,CtlOk (n + 65536 * b) (nwB s r W C b)
 | 0=>h
 | b + 1=>(nwW_ok (nwB_ok h hC hW b) hC W).mono (by omega)
theorem nwR_ok {n:Nat} {s:CtlS} {B W C:Nat} (h:CtlOk n s) (hC:C≤64) (hW:W≤1024) (hB:B≤16):∀ r,CtlOk (n + 1048576 * r) (nwR s B W C r)
 | 0=>h
 | r + 1=>(nwB_ok (nwR_ok h hC hW hB r) hC hW B).mono (by omega)
theorem gAll (g:Gm) :Sp P 129 [.ag [vi g.ranks,vi g.spares,vi g.banks,vi g.rows,vi g.cols]] [] (.fn (.func 172) [] [.pt 0 0]) [.blk [vi g.ranks,vi g.spares,vi g.banks,vi g.rows,vi g.cols] 23] :=
 so Tryz.f129 3 [.id 1] .nil
theorem gRank (g:Gm) (r:Int) :Sp P 173 [.ag [vi g.ranks,vi g.spares,vi g.banks,vi g.rows,vi g.cols],vi r] [] (.fn (.func 224) [] [.pt 0 0,.pt 1 0]) [.blk [vi g.ranks,vi g.spares,vi g.banks,vi g.rows,vi g.cols] 23,.blk [vi r] 3] :=
 so Tryz.f173 4 [.id 1,.id 2] .nil
theorem holds_r {g:Gm} (hg:g.right=true) {r:Nat} (hr:((r:Nat):Int) < g.ranks + g.spares):g.holds ⟨((r:Nat):Int),0,0,0⟩=true:=by
 have h:=Gm.rt hg
 have e:IntKind.i64.wrap (g.ranks + g.spares)=g.ranks + g.spares:=wrap_ok (by omega) (by omega)
 unfold Gm.holds belB
 rw [hg,e]
 simp only [Bool.true_and,Bool.and_eq_true,decide_eq_true_eq]
 omega
theorem holds_n {g:Gm} {r:Nat} (hg:g.right=true) (hr:¬ ((r:Nat):Int) < g.ranks + g.spares):g.holds ⟨((r:Nat):Int),0,0,0⟩=false:=by
 have h:=Gm.rt hg
 have e:IntKind.i64.wrap (g.ranks + g.spares)=g.ranks + g.spares:=wrap_ok (by omega) (by omega)
 unfold Gm.holds belB
 rw [e,show decide (((r:Nat):Int) < g.ranks + g.spares)=false from decide_eq_false hr]
 simp
def ctl0 (c:Cfg):CtlS:=⟨copen_s c,dvNew c.ly.g c.mode,0,[]⟩
theorem ctl0_ok {c:Cfg} (h:cfgRight_v0 c=true):CtlOk 0 (ctl0 c):=by
 have hc:=cfg_t h
 exact ⟨copen_ok h,⟨⟨hc.2.1,(fun _ _=>(by decide:(0:Nat) < 256)),(fun f hf=>nomatch hf),Nat.zero_le _,Nat.zero_le _⟩,(fun _ _=>(by decide:(0:Nat) < 256))⟩,hc.2.1,Nat.le_refl _,Nat.le_refl _⟩
def cRk (c:Cfg):Nat:=(c.ly.g.ranks + c.ly.g.spares).toNat
abbrev cB (c:Cfg):Nat:=c.ly.g.banks.toNat
abbrev cW (c:Cfg):Nat:=c.ly.g.rows.toNat
abbrev cC (c:Cfg):Nat:=c.ly.g.cols.toNat
def ctlN (c:Cfg):CtlS:=nwR (ctl0 c) (cB c) (cW c) (cC c) (cRk c)
def cNew_s (c:Cfg):CtlS:=nwR (ctl0 c) (cB c) (cW c) (cC c) (cRk c)
theorem cNew (c:Cfg) (hcf:cfgRight_v0 c=true):Sp P 75 [.ag [vi c.ly.g.ranks,vi c.ly.g.spares,vi c.ly.g.banks,vi c.ly.g.rows,vi c.ly.g.cols,vi c.ly.way,vi c.ly.res,vi c.mode,vi c.rules.rank.limit,vi c.rules.rank.every,vi c.rules.page.limit,vi c.rules.page.every,vi c.rules.room,vi c.rules.heavy,vi c.log,vt c.back],.pt 0 0] (bDev (dvNew c.ly.g c.mode) 0) (.tu [.pt 8 0,vn 0]) (bDev (cNew_s c).d 0 ++ [.blk [.pt 9 0,.pt 0 0,.pt 24 0,vi (cNew_s c).cur,.sl 23] 143] ++ bLed (cNew_s c).le 9 ++ [.row eNt (cNew_s c).notes] ++ bCode 24):=by
 have hc:=cfg_t hcf
 have hg:=(ly_rt hc.1).1
 have hgm:=Gm.rt hg
 have h64:cC c≤64:=by show c.ly.g.cols.toNat≤64; omega
 have h1k:cW c≤1024:=by show c.ly.g.rows.toNat≤1024; omega
 have h16:cB c≤16:=by show c.ly.g.banks.toNat≤16; omega
 have eB:((cB c:Nat):Int)=c.ly.g.banks:=by show ((c.ly.g.banks.toNat:Nat):Int)=_; omega
 have eW:((cW c:Nat):Int)=c.ly.g.rows:=by show ((c.ly.g.rows.toNat:Nat):Int)=_; omega
 have eC:((cC c:Nat):Int)=c.ly.g.cols:=by show ((c.ly.g.cols.toNat:Nat):Int)=_; omega
 have e8:cRk c≤8:=by unfold cRk; omega
 generalize d0:cNew_s c=yd0
 unfold cNew_s at d0
 subst d0
 exact so Tryz.f75 37 (ir 0 8 ++ .id 33 :: ir 14 14 ++ .id 39 :: ir 28 5) (.c [] (cfgRight c) (.t (congrArg (!·) (show (cfgRight_v0 c)=true from hcf)) (.c (ir 0 8) (vDram (dvNew c.ly.g c.mode)) (.c (ir 4 4) (dGeom (dvNew c.ly.g c.mode).d) (.t (congrArg (!·) (show ((decide ((dvNew c.ly.g c.mode).d.g.ranks=c.ly.g.ranks)) && ((decide ((dvNew c.ly.g c.mode).d.g.spares=c.ly.g.spares)) && ((decide ((dvNew c.ly.g c.mode).d.g.banks=c.ly.g.banks)) && ((decide ((dvNew c.ly.g c.mode).d.g.rows=c.ly.g.rows)) && ((decide ((dvNew c.ly.g c.mode).d.g.cols=c.ly.g.cols)) && true)))))=true from by simp [dvNew,dmNew])) (.c (ir 0 8) (vDram (dvNew c.ly.g c.mode)) (.c (ir 4 4) (dMode (dvNew c.ly.g c.mode).d) (.t (congrArg (!·) (show (decide ((dvNew c.ly.g c.mode).d.mode=c.mode))=true from decide_eq_true rfl)) (.c [] (copen c hcf) (.n (.c [] (cnew_sp) (.c [] (gAll c.ly.g) (.lp (cRk c) 40 [(39,.nil)] [] (fun r=>[(3,vn r)]) (fun r=>nb 0 (bDev (nwR (ctl0 c) (cB c) (cW c) (cC c) r).d 0) ++ nb 14 (bLed (nwR (ctl0 c) (cB c) (cW c) (cC c) r).le 14) ++ [(33,.blk [.pt 14 0,.pt 0 0,.pt 28 0,vi (nwR (ctl0 c) (cB c) (cW c) (cC c) r).cur,.sl 39] 143),(36,.lo .ready none),(39,.row eNt (nwR (ctl0 c) (cB c) (cW c) (cC c) r).notes)]) (fun r hr=>(.c [] (holds_sp c.ly.g (⟨((r:Nat):Int),0,0,0⟩:Pl)) (.t (show (c.ly.g.holds (⟨((r:Nat):Int),0,0,0⟩:Pl))=true from holds_r hg (by have:r < cRk c:=hr; unfold cRk at this; omega)) (.c [] (gRank c.ly.g ((r:Nat):Int)) (.c [] (holds_sp c.ly.g (⟨((r:Nat):Int),0,0,0⟩:Pl)) (.t (congrArg (!·) (show (c.ly.g.holds (⟨((r:Nat):Int),0,0,0⟩:Pl))=true from holds_r hg (by have:r < cRk c:=hr; unfold cRk at this; omega))) (.lp (cB c) 44 [] [] (fun b=>[(14,vn b)]) (fun b=>nb 0 (bDev (nwB (nwR (ctl0 c) (cB c) (cW c) (cC c) r) r (cW c) (cC c) b).d 0) ++ nb 14 (bLed (nwB (nwR (ctl0 c) (cB c) (cW c) (cC c) r) r (cW c) (cC c) b).le 14) ++ [(33,.blk [.pt 14 0,.pt 0 0,.pt 28 0,vi (nwB (nwR (ctl0 c) (cB c) (cW c) (cC c) r) r (cW c) (cC c) b).cur,.sl 39] 143),(36,.lo .ready none),(39,.row eNt (nwB (nwR (ctl0 c) (cB c) (cW c) (cC c) r) r (cW c) (cC c) b).notes),(42,.lo .ready none)]) (fun b hb=>(.t (show (decide (((b:Nat):Int) < c.ly.g.banks))=true from decide_eq_true (by omega)) (.lp (cW c) 44 [] [] (fun w=>[(19,vn w)]) (fun w=>nb 0 (bDev (nwW (nwB (nwR (ctl0 c) (cB c) (cW c) (cC c) r) r (cW c) (cC c) b) r b (cC c) w).d 0) ++ nb 14 (bLed (nwW (nwB (nwR (ctl0 c) (cB c) (cW c) (cC c) r) r (cW c) (cC c) b) r b (cC c) w).le 14) ++ [(33,.blk [.pt 14 0,.pt 0 0,.pt 28 0,vi (nwW (nwB (nwR (ctl0 c) (cB c) (cW c) (cC c) r) r (cW c) (cC c) b) r b (cC c) w).cur,.sl 39] 143),(36,.lo .ready none),(39,.row eNt (nwW (nwB (nwR (ctl0 c) (cB c) (cW c) (cC c) r) r (cW c) (cC c) b) r b (cC c) w).notes),(42,.lo .ready none)]) (fun w hw=>(.t (show (decide (((w:Nat):Int) < c.ly.g.rows))=true from decide_eq_true (by omega)) (.lp (cC c) 44 [] [] (fun k=>[(24,vn k)]) (fun k=>nb 0 (bDev (nwC (nwW (nwB (nwR (ctl0 c) (cB c) (cW c) (cC c) r) r (cW c) (cC c) b) r b (cC c) w) r b w k).d 0) ++ nb 14 (bLed (nwC (nwW (nwB (nwR (ctl0 c) (cB c) (cW c) (cC c) r) r (cW c) (cC c) b) r b (cC c) w) r b w k).le 14) ++ [(33,.blk [.pt 14 0,.pt 0 0,.pt 28 0,vi (nwC (nwW (nwB (nwR (ctl0 c) (cB c) (cW c) (cC c) r) r (cW c) (cC c) b) r b (cC c) w) r b w k).cur,.sl 39] 143),(36,.lo .ready none),(39,.row eNt (nwC (nwW (nwB (nwR (ctl0 c) (cB c) (cW c) (cC c) r) r (cW c) (cC c) b) r b (cC c) w) r b w k).notes),(42,.lo .ready none)]) (fun k hk=>(.t (show (decide (((k:Nat):Int) < c.ly.g.cols))=true from decide_eq_true (by omega)) (.c [] (pindex_sp (⟨((r:Nat):Int),((b:Nat):Int),((w:Nat):Int),((k:Nat):Int)⟩:Pl)) (.c (.id 33 :: ir 14 14 ++ ir 0 8 ++ .id 39 :: ir 28 5) (cput (nwC (nwW (nwB (nwR (ctl0 c) (cB c) (cW c) (cC c) r) r (cW c) (cC c) b) r b (cC c) w) r b w k) (⟨((r:Nat):Int),((b:Nat):Int),((w:Nat):Int),((k:Nat):Int)⟩:Pl).ix (fun _=>0) false (((nwC_ok (nwW_ok (nwB_ok (nwR_ok (ctl0_ok hcf) h64 h1k h16 r) h64 h1k b) h64 w) k).mono (by omega))) (fun _=>(by decide:(0:Nat) < 256))) (.n (.n (.e 36 (aAdd (a:=((k:Nat):Int)) (b:=1) (c:=((k + 1:Nat):Int)) (by omega)) .nil))))))) (.t (show (decide ((((cC c):Nat):Int) < c.ly.g.cols))=false from decide_eq_false (by omega)) (.e 37 (aAdd (a:=((w:Nat):Int)) (b:=1) (c:=((w + 1:Nat):Int)) (by omega)) .nil))))) (.t (show (decide ((((cW c):Nat):Int) < c.ly.g.rows))=false from decide_eq_false (by omega)) (.e 38 (aAdd (a:=((b:Nat):Int)) (b:=1) (c:=((b + 1:Nat):Int)) (by omega)) .nil))))) (.t (show (decide ((((cB c):Nat):Int) < c.ly.g.banks))=false from decide_eq_false (by omega)) (.e 10 (aAdd (a:=((r:Nat):Int)) (b:=1) (c:=((r + 1:Nat):Int)) (by omega)) .nil))))))))) (.c [] (holds_sp c.ly.g (⟨(((cRk c):Nat):Int),0,0,0⟩:Pl)) (.t (show (c.ly.g.holds (⟨(((cRk c):Nat):Int),0,0,0⟩:Pl))=false from holds_n hg (by unfold cRk; omega)) .nil)))))))))))))))
end Go.Proofs.YtoflmffbkdekcaaGreat
