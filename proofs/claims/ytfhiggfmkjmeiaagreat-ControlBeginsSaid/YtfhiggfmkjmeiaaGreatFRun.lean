import Derived.Test.YtfhiggfmkjmeiaaGreatFMch
set_option linter.all false
namespace Go.Proofs.YtfhiggfmkjmeiaaGreat
open Go Go.RowKit
set_option maxRecDepth 100000
def gpN (g:Gm):Nat:=(A9 g).toNat
theorem Amg {g:Gm} (h:g.right=true):((gpN g:Nat):Int)=A9 g:=Int.toNat_of_nonneg (by have:=Abz h; omega)
theorem Axj {g:Gm} (h:g.right=true):gpN g<=131072:=by have:=J7 h; unfold gpN; omega
theorem Ase (g:Gm) (h:g.right=true):Sp P 148 [.ag [vi g.ranks,vi g.spares,vi g.banks,vi g.rows,vi g.cols]] [] (vn (gpN g)) []:=by
 have h1:=Fu g
 rw [← Amg h] at h1
 exact h1
def Od:Nat->List Int
 | 0=>[]
 | i + 1=>Od i ++ [(i:Int)]
theorem M6:∀ i,(Od i).length=i
 | 0=>rfl
 | i + 1=>by rw [Od,List.length_append,M6 i]; rfl
def spL:Nat->List Int
 | 0=>[]
 | i + 1=>spL i ++ [-1]
theorem A6s:∀ i,(spL i).length=i
 | 0=>rfl
 | i + 1=>by rw [spL,List.length_append,A6s i]; rfl
def Ga (l:Ly):MapS:=(⟨l,Od (A0 l).toNat,List.replicate (gpN l.g) eT0,spL l.g.ranks.toNat,0,0⟩:MapS)
theorem B20 (l:Ly) (hr:Bc l=true):Sp P 235 [.ag [vi l.g.ranks,vi l.g.spares,vi l.g.banks,vi l.g.rows,vi l.g.cols,vi l.way,vi l.res]] [] (.tu [.pt 0 0,vn 0]) (Ge (Ga l) 0):=by
 have hl:=C0 hr
 have hg:=Gm.rt hl.1
 have hp:=Axj hl.1
 generalize d0:Ga l=yd0
 unfold Ga at d0
 subst d0
 exact so Tryz.f235 10 [.id 4,.id 5,.id 3,.id 6] (.c [] (Nf l) (.t (congrArg (!·) (show (Bc l)=true from hr)) (.c [] (Ase l.g hl.1) (.mk (e:=eT) (a:=eT0) (n:=gpN l.g) (by omega) (.c [] (Nr l) (.lp (A0 l).toNat 6 [(5,.nil)] [(5,.id 7)] (fun i=>[(18,vn i)]) (fun i=>[(4,.blk [vi l.g.ranks,vi l.g.spares,vi l.g.banks,vi l.g.rows,vi l.g.cols,vi l.way,vi l.res,.sl 5,.sl 3,A64,vn 0,vn 0] 185),(5,.row eI (Od i))]) (fun i hi=>(.t (sQT ((i:Int) < (A0 l)) (by omega)) (.ap (e:=eI) (l:=Od i) (l':=[(i:Int)]) .row (.flat [vn i] [(i:Int)] rfl) (by rw [M6]; simp only [List.length_cons,List.length_nil]; omega) (.e 31 (Ck (a:=(i:Int)) (b:=1) (c:=((i + 1:Nat):Int)) (by omega)) .nil)))) (.t (sQF ((((A0 l).toNat:Nat):Int) < (A0 l)) (by omega)) (.lp l.g.ranks.toNat 7 [(6,.nil)] [(6,.id 8)] (fun i=>[(35,vn i)]) (fun i=>[(4,.blk [vi l.g.ranks,vi l.g.spares,vi l.g.banks,vi l.g.rows,vi l.g.cols,vi l.way,vi l.res,.sl 5,.sl 3,.sl 6,vn 0,vn 0] 185),(6,.row eI (spL i))]) (fun i hi=>(.t (sQT ((i:Int) < l.g.ranks) (by omega)) (.ap (e:=eI) (l:=spL i) (l':=[-1]) .row (.flat [vi (-1)] [-1] rfl) (by rw [A6s]; simp only [List.length_cons,List.length_nil]; omega) (.e 46 (Ck (a:=(i:Int)) (b:=1) (c:=((i + 1:Nat):Int)) (by omega)) .nil)))) (.t (sQF ((l.g.ranks.toNat:Int) < l.g.ranks) (by omega)) .nil)))))))))
theorem Afv {l:Ly} (hr:Bc l=true):MapOk (Ga l):=by
 have hl:=C0 hr
 have hg:=Gm.rt hl.1
 exact ⟨hr,by show (((Od _).length:Nat):Int)=A0 l; rw [M6]; omega,by show (((List.replicate (gpN l.g) eT0).length:Nat):Int)=A9 l.g; rw [List.length_replicate]; exact Amg hl.1,by show (((spL _).length:Nat):Int)=l.g.ranks; rw [A6s]; omega,⟨Int.le_refl _,hl.2.2.1.1⟩,⟨Int.le_refl _,hg.2.1.1⟩⟩
def Aom:RgS:=⟨List.replicate 256 Tv,0,0⟩
theorem Aon:RgOk Aom:=⟨List.length_replicate,⟨Int.le_refl _,by decide⟩,⟨Int.le_refl _,by decide⟩⟩
theorem Aoo  :Sp P 236 [vn 256] [] (.tu [.pt 0 0,vn 0]) (Md Aom 0) :=
 so Tryz.f236 4 [.id 2,.id 1] (.n4 (.mk (e:=eAk) (a:=Tv) (n:=256) (by decide) .nil))
def A9w (l:Ly):RepS:=⟨Ga l,⟨0,0,0,0⟩,Aom⟩
theorem A9x {l:Ly} (hr:Bc l=true):RepOk (A9w l):=⟨Afv hr,Aon,⟨Int.le_refl _,show (0:Int)<=1048576 by decide⟩⟩
theorem Aot (l:Ly) (hr:Bc l=true):Sp P 183 [.ag [vi l.g.ranks,vi l.g.spares,vi l.g.banks,vi l.g.rows,vi l.g.cols,vi l.way,vi l.res]] [] (.tu [.pt 0 0,vn 0]) (Kp (A9w l) 0) :=
 so Tryz.f183 10 (.id 8 :: ir 2 6) (.c [] (B20 l (by first | assumption | omega)) (.n (.c [] (Aoo) (.n .nil))))
theorem Apt (room:Int) (h1:decide (room < 1)=false) (h2:decide (256 < room)=false):Sp P 237 [vi room,.fn (.func 238) [] []] [] (.tu [.pt 0 0,vn 0]) [.blk [.sl 1,vi room,.fn (.func 238) [] []] 322,.row ePg []] :=
 so Tryz.f237 3 [.id 1,.nil] (.t h1 (.t h1 (.t h1 (.t h2 .nil))))
def Afk (r:Rls) (n:Nat):TrkS:=⟨r,List.replicate n Mk,[]⟩
theorem Jv {r:Rls} (h:Cb r=true):1<=r.room/\r.room<=256:=by
 unfold Cb at h
 revert h
 cases q1:decide (1<=r.room) <;> cases q2:decide (r.room<=256) <;> simp_all
theorem B03 (r:Rls) (n:Nat) (hr:Cb r=true) (hn:1<=n/\n<=8) (h1:decide (r.room < 1)=false) (h2:decide (256 < r.room)=false):Sp P 184 [.ag [vi r.rank.limit,vi r.rank.every,vi r.page.limit,vi r.page.every,vi r.room,vi r.heavy],vn n] [] (.tu [.pt 0 0,vn 0]) (Th (Afk r n) 0) :=
 so Tryz.f184 7 [.id 5,.id 4,.id 2,.id 3] (.c [] (Pj r) (.t (congrArg (!·) (show (Cb r)=true from hr)) (.t2 (sQF ((n:Int) < 1) (by omega)) (.t (sQF ((n:Int) < 1) (by omega)) (.t (sQF (8 < (n:Int)) (by omega)) (.c [] (Apt r.room (by first | assumption | omega) (by first | assumption | omega)) (.n (.mk (e:=eBk) (a:=Mk) (n:=n) (by omega) .nil))))))))
theorem Asm (r:Rls) (k:Int) (hr:Cb r=true) (hk:1<=k/\k<=8):Sp P 184 [.ag [vi r.rank.limit,vi r.rank.every,vi r.page.limit,vi r.page.every,vi r.room,vi r.heavy],vi k] [] (.tu [.pt 0 0,vn 0]) (Th (Afk r k.toNat) 0):=by
 have h:=B03 r k.toNat hr (by omega) (fq (by have:=Jv hr; omega)) (fq (by have:=Jv hr; omega))
 rw [show (vn k.toNat:V)=vi k from congrArg (fun x:Int=>(vi x:V)) (Int.toNat_of_nonneg (by omega))] at h
 exact h
theorem Amu {r:Rls} {k:Int} (hr:Cb r=true) (hk:1<=k/\k<=8):TrkOk (Afk r k.toNat):=⟨⟨Nat.zero_le _,(Jv hr).1,by have:=(Jv hr).1; show ((0:Nat):Int)<=r.room; omega⟩,by show (List.replicate k.toNat Mk).length<=8; rw [List.length_replicate]; omega⟩
def Afl (room:Int):LogS:=⟨[],room,1,false⟩
theorem Amy {room:Int} (h:1<=room/\room<=256):LogOk (Afl room):=⟨Nat.zero_le _,h.1,by show ((0:Nat):Int)<=room; omega⟩
theorem Asq (room:Int) (hk:1<=room/\room<=256):Sp P 185 [vi room] [] (.tu [.pt 0 0,vn 0]) (Vj (Afl room) 0) :=
 so Tryz.f185 3 [.id 1,.nil] (.t2 (sQF (room < 1) (by omega)) (.t (sQF (room < 1) (by omega)) (.t (sQF (256 < room) (by omega)) .nil)))
def Fa (m:Int):Bool:=bif decide (m=1) then true else (decide (m=2))
theorem R0 (m:Int) :Sp P 133 [vi m] [] (vt (Fa m)) []:=by
 generalize d0:Fa m=yd0
 unfold Fa at d0
 rcases bft (decide (m=1)) with q1 | q1
 ·rw [A2 q1] at d0
  subst d0
  exact so Tryz.f133 3 [] (.t2 q1 (.t q1 .nil))
 ·rw [A1 q1] at d0
  subst d0
  exact so Tryz.f133 3 [] (.t2 q1 (.t q1 .nil))
def A8 (c:Cfg):Bool:=bif (Bc c.ly) then (bif (Fa c.mode) then (bif (Cb c.rules) then (bif decide (1<=c.log) then (decide (c.log<=256)) else false) else false) else false) else false
theorem Q2 (c:Cfg) :Sp P 63 [.ag [vi c.ly.g.ranks,vi c.ly.g.spares,vi c.ly.g.banks,vi c.ly.g.rows,vi c.ly.g.cols,vi c.ly.way,vi c.ly.res,vi c.mode,vi c.rules.rank.limit,vi c.rules.rank.every,vi c.rules.page.limit,vi c.rules.page.every,vi c.rules.room,vi c.rules.heavy,vi c.log,vt c.back]] [] (vt (A8 c)) []:=by
 generalize d0:A8 c=yd0
 unfold A8 at d0
 rcases bft (Bc c.ly) with q1 | q1
 ·rw [A2 q1] at d0
  rcases bft (Fa c.mode) with q2 | q2
  ·rw [A2 q2] at d0
   rcases bft (Cb c.rules) with q3 | q3
   ·rw [A2 q3] at d0
    rcases bft (decide (1<=c.log)) with q4 | q4
    ·rw [A2 q4] at d0
     subst d0
     exact so Tryz.f63 3 [] (.c [] (Nf c.ly) (.t2 q1 (.t q1 (.c [] (R0 c.mode) (.t q1 (.t2 q2 (.t q2 (.c [] (Pj c.rules) (.t q2 (.t4 q3 (.t4 q4 .nil)))))))))))
    ·rw [A1 q4] at d0
     subst d0
     exact so Tryz.f63 3 [] (.c [] (Nf c.ly) (.t2 q1 (.t q1 (.c [] (R0 c.mode) (.t q1 (.t2 q2 (.t q2 (.c [] (Pj c.rules) (.t q2 (.t4 q3 (.t4 q4 .nil)))))))))))
   ·rw [A1 q3] at d0
    subst d0
    exact so Tryz.f63 3 [] (.c [] (Nf c.ly) (.t2 q1 (.t q1 (.c [] (R0 c.mode) (.t q1 (.t2 q2 (.t q2 (.c [] (Pj c.rules) (.t q2 (.t4 q3 (.n4 .nil)))))))))))
  ·rw [A1 q2] at d0
   subst d0
   exact so Tryz.f63 3 [] (.c [] (Nf c.ly) (.t2 q1 (.t q1 (.c [] (R0 c.mode) (.t q1 (.t4 q2 (.n8 .nil)))))))
 ·rw [A1 q1] at d0
  subst d0
  exact so Tryz.f63 3 [] (.c [] (Nf c.ly) (.t4 q1 (.n8 (.n4 .nil))))
theorem Ho {c:Cfg} (h:A8 c=true):Bc c.ly=true/\(c.mode=1 ∨ c.mode=2)/\Cb c.rules=true/\1<=c.log/\c.log<=256:=by
 unfold A8 at h
 revert h
 cases q1:Bc c.ly <;> cases q2:Cb c.rules <;> cases q3:decide (1<=c.log) <;> simp_all [Fa]
 all_goals (intro h; try omega)
 all_goals (by_cases e:c.mode=1 <;> simp_all)
def Iw (c:Cfg):LedS:=(⟨c,(A9w c.ly),(Afk c.rules c.ly.g.ranks.toNat),(Afl c.log),0⟩:LedS)
theorem Azm (c:Cfg) (hcf:A8 c=true):Sp P 117 [.ag [vi c.ly.g.ranks,vi c.ly.g.spares,vi c.ly.g.banks,vi c.ly.g.rows,vi c.ly.g.cols,vi c.ly.way,vi c.ly.res,vi c.mode,vi c.rules.rank.limit,vi c.rules.rank.every,vi c.rules.page.limit,vi c.rules.page.every,vi c.rules.room,vi c.rules.heavy,vi c.log,vt c.back]] [] (.tu [.pt 0 0,vn 0]) (Mb (Iw c) 0):=by
 have hc:=Ho hcf
 generalize d0:Iw c=yd0
 unfold Iw at d0
 subst d0
 exact so Tryz.f117 18 (.id 2 :: ir 4 13) (.c [] (Q2 c) (.t (congrArg (!·) (show (A8 c)=true from hcf)) (.c [] (Aot c.ly hc.1) (.c [] (Asm c.rules c.ly.g.ranks hc.2.2.1 ((Gm.rt (C0 hc.1).1).1)) (.c [] (Asq c.log hc.2.2.2) (.lu 3 (.y (.ix (i:=0) (m:=3) (by decide) (.t (congrArg (!·) (show (decide ((upI (upI (upI (fun _=>0) 0 0) 1 0) 2 0) 0=0))=true from rfl)) (.y (.ix (i:=1) (m:=3) (by decide) (.t (congrArg (!·) (show (decide ((upI (upI (upI (fun _=>0) 0 0) 1 0) 2 0) 1=0))=true from rfl)) (.y (.ix (i:=2) (m:=3) (by decide) (.t (congrArg (!·) (show (decide ((upI (upI (upI (fun _=>0) 0 0) 1 0) 2 0) 2=0))=true from rfl)) (.n .nil))))))))))))))))
theorem A7n {c:Cfg} (h:A8 c=true):LedOk (Iw c):=by
 obtain ⟨h1,h2,h3,h4,h5⟩:=Ho h
 have hg:=Gm.rt (C0 h1).1
 exact ⟨A9x h1,Amu h3 hg.1,(Jv h3).2,Amy ⟨h4,h5⟩,h5⟩
def Al0 (g:Gm) (m:Int):DramS:=⟨g,m,fun _ _=>0,[],[]⟩
def N9 (g:Gm) (m:Int):DevS:=⟨Al0 g m,fun _ _=>0,fun _=>0,[]⟩
theorem Al1 (g:Gm) (m:Int) (hg:g.right=true) (hm:Fa m=true):Sp P 114 [.ag [vi g.ranks,vi g.spares,vi g.banks,vi g.rows,vi g.cols],vi m] [] (.tu [.pt 0 0,vn 0]) (Jk (Al0 g m) 0) :=
 so Tryz.f114 5 [.id 3,.id 2,.nil,.nil] (.c [] (Fb g) (.g hg (.c [] (R0 m) (.t (congrArg (!·) (show (Fa m)=true from hm)) .nil))))
theorem Al3 (g:Gm) (m:Int) (hg:g.right=true) (hm:Fa m=true):Sp P 45 [.ag [vi g.ranks,vi g.spares,vi g.banks,vi g.rows,vi g.cols],vi m] [] (.tu [.pt 0 0,vn 0]) (L6 (N9 g m) 0) :=
 so Tryz.f45 10 (.id 8 :: .id 6 :: .id 7 :: .nil :: ir 2 4) (.c [] (Al1 g m (by first | assumption | omega) (by first | assumption | omega)) (.n .nil))
def wr0 (s:CtlS) (r b w c:Nat):CtlS:=As s (Pl.ix ⟨(r:Int),(b:Int),(w:Int),(c:Int)⟩) (fun _=>0) false
def nwC (s:CtlS) (r b w:Nat):Nat->CtlS
 | 0=>s
 | c + 1=>wr0 (nwC s r b w c) r b w c
def nwW (s:CtlS) (r b C:Nat):Nat->CtlS
 | 0=>s
 | w + 1=>nwC (nwW s r b C w) r b w C
def nwB (s:CtlS) (r W C:Nat):Nat->CtlS
 | 0=>s
 | b + 1=>nwW (nwB s r W C b) r b C W
def nwR (s:CtlS) (B W C:Nat):Nat->CtlS
 | 0=>s
 | r + 1=>nwB (nwR s B W C r) r W C B
theorem Aza {n:Nat} {s:CtlS} {r b w c:Nat} (h:CtlOk n s):CtlOk (n + 1) (wr0 s r b w c):=Oy h (fun _=>(by decide:(0:Nat) < 256))
theorem Acu {n:Nat} {s:CtlS} {r b w:Nat} (h:CtlOk n s):∀ c,CtlOk (n + c) (nwC s r b w c)
 | 0=>h
 | c + 1=>Aza (Acu h c)
theorem Acw {n:Nat} {s:CtlS} {r b C:Nat} (h:CtlOk n s) (hC:C<=64):∀ w,CtlOk (n + 64 * w) (nwW s r b C w)
 | 0=>h
 | w + 1=>(Acu (Acw h hC w) C).mono (by omega)
theorem Acs {n:Nat} {s:CtlS} {r W C:Nat} (h:CtlOk n s) (hC:C<=64) (hW:W<=1024):∀ b,CtlOk (n + 65536 * b) (nwB s r W C b)
 | 0=>h
 | b + 1=>(Acw (Acs h hC hW b) hC W).mono (by omega)
theorem Acv {n:Nat} {s:CtlS} {B W C:Nat} (h:CtlOk n s) (hC:C<=64) (hW:W<=1024) (hB:B<=16):∀ r,CtlOk (n + 1048576 * r) (nwR s B W C r)
 | 0=>h
 | r + 1=>(Acs (Acv h hC hW hB r) hC hW B).mono (by omega)
theorem B1t (g:Gm) :Sp P 119 [.ag [vi g.ranks,vi g.spares,vi g.banks,vi g.rows,vi g.cols]] [] (.fn (.func 189) [] [.pt 0 0]) [.blk [vi g.ranks,vi g.spares,vi g.banks,vi g.rows,vi g.cols] 23] :=
 so Tryz.f119 3 [.id 1] .nil
theorem Azx (g:Gm) (r:Int) :Sp P 190 [.ag [vi g.ranks,vi g.spares,vi g.banks,vi g.rows,vi g.cols],vi r] [] (.fn (.func 245) [] [.pt 0 0,.pt 1 0]) [.blk [vi g.ranks,vi g.spares,vi g.banks,vi g.rows,vi g.cols] 23,.blk [vi r] 3] :=
 so Tryz.f190 4 [.id 1,.id 2] .nil
theorem Afd {g:Gm} (hg:g.right=true) {r:Nat} (hr:(r:Int) < g.ranks + g.spares):g.holds ⟨(r:Int),0,0,0⟩=true:=by
 have h:=Gm.rt hg
 have e:IntKind.i64.wrap (g.ranks + g.spares)=g.ranks + g.spares:=D1 (by omega) (by omega)
 unfold Gm.holds K7
 rw [hg,e]
 simp only [Bool.true_and,bq,decide_eq_true_eq]
 omega
theorem Ash {g:Gm} {r:Nat} (hg:g.right=true) (hr:¬ (r:Int) < g.ranks + g.spares):g.holds ⟨(r:Int),0,0,0⟩=false:=by
 have h:=Gm.rt hg
 have e:IntKind.i64.wrap (g.ranks + g.spares)=g.ranks + g.spares:=D1 (by omega) (by omega)
 unfold Gm.holds K7
 rw [e,show decide ((r:Int) < g.ranks + g.spares)=false from fq hr]
 simp
def Mh (c:Cfg):CtlS:=⟨Iw c,N9 c.ly.g c.mode,0,[]⟩
theorem Aeb {c:Cfg} (h:A8 c=true):CtlOk 0 (Mh c):=by
 have hc:=Ho h
 exact ⟨A7n h,⟨⟨hc.2.1,(fun _ _=>(by decide:(0:Nat) < 256)),(fun f hf=>nomatch hf),Nat.zero_le _,Nat.zero_le _⟩,(fun _ _=>(by decide:(0:Nat) < 256))⟩,hc.2.1,Nat.le_refl _,Nat.le_refl _⟩
def cRk (c:Cfg):Nat:=(c.ly.g.ranks + c.ly.g.spares).toNat
abbrev cB (c:Cfg):Nat:=c.ly.g.banks.toNat
abbrev cW (c:Cfg):Nat:=c.ly.g.rows.toNat
abbrev cC (c:Cfg):Nat:=c.ly.g.cols.toNat
def Lh (c:Cfg):CtlS:=nwR (Mh c) (cB c) (cW c) (cC c) (cRk c)
def Sw (c:Cfg):CtlS:=nwR (Mh c) (cB c) (cW c) (cC c) (cRk c)
theorem B1n (c:Cfg) (hcf:A8 c=true):Sp P 46 [.ag [vi c.ly.g.ranks,vi c.ly.g.spares,vi c.ly.g.banks,vi c.ly.g.rows,vi c.ly.g.cols,vi c.ly.way,vi c.ly.res,vi c.mode,vi c.rules.rank.limit,vi c.rules.rank.every,vi c.rules.page.limit,vi c.rules.page.every,vi c.rules.room,vi c.rules.heavy,vi c.log,vt c.back],.pt 0 0] (L6 (N9 c.ly.g c.mode) 0) (.tu [.pt 8 0,vn 0]) (L6 (Sw c).d 0 ++ [.blk [.pt 9 0,.pt 0 0,.pt 24 0,vi (Sw c).cur,.sl 23] 176] ++ Mb (Sw c).le 9 ++ [.row eNt (Sw c).notes] ++ Bg 24):=by
 have hc:=Ho hcf
 have hg:=(C0 hc.1).1
 have hgm:=Gm.rt hg
 have h64:cC c<=64:=by show c.ly.g.cols.toNat<=64; omega
 have h1k:cW c<=1024:=by show c.ly.g.rows.toNat<=1024; omega
 have h16:cB c<=16:=by show c.ly.g.banks.toNat<=16; omega
 have eB:((cB c:Nat):Int)=c.ly.g.banks:=by show (c.ly.g.banks.toNat:Int)=_; omega
 have eW:((cW c:Nat):Int)=c.ly.g.rows:=by show (c.ly.g.rows.toNat:Int)=_; omega
 have eC:((cC c:Nat):Int)=c.ly.g.cols:=by show (c.ly.g.cols.toNat:Int)=_; omega
 have e8:cRk c<=8:=by unfold cRk; omega
 generalize d0:Sw c=yd0
 unfold Sw at d0
 subst d0
 exact so Tryz.f46 37 (ir 0 8 ++ .id 33 :: ir 14 14 ++ .id 39 :: ir 28 5) (.c [] (Q2 c) (.t (congrArg (!·) (show (A8 c)=true from hcf)) (.c (ir 0 8) (Sq (N9 c.ly.g c.mode)) (.c (ir 4 4) (Aec (N9 c.ly.g c.mode).d) (.t (congrArg (!·) (show ((decide ((N9 c.ly.g c.mode).d.g.ranks=c.ly.g.ranks)) && ((decide ((N9 c.ly.g c.mode).d.g.spares=c.ly.g.spares)) && ((decide ((N9 c.ly.g c.mode).d.g.banks=c.ly.g.banks)) && ((decide ((N9 c.ly.g c.mode).d.g.rows=c.ly.g.rows)) && ((decide ((N9 c.ly.g c.mode).d.g.cols=c.ly.g.cols)) && true)))))=true from by simp [N9,Al0])) (.c (ir 0 8) (Sq (N9 c.ly.g c.mode)) (.c (ir 4 4) (Wu (N9 c.ly.g c.mode).d) (.t (congrArg (!·) (show (decide ((N9 c.ly.g c.mode).d.mode=c.mode))=true from tq rfl)) (.c [] (Azm c hcf) (.n (.c [] (Arb) (.c [] (B1t c.ly.g) (.lp (cRk c) 40 [(39,.nil)] [] (fun r=>[(3,vn r)]) (fun r=>nb 0 (L6 (nwR (Mh c) (cB c) (cW c) (cC c) r).d 0) ++ nb 14 (Mb (nwR (Mh c) (cB c) (cW c) (cC c) r).le 14) ++ [(33,.blk [.pt 14 0,.pt 0 0,.pt 28 0,vi (nwR (Mh c) (cB c) (cW c) (cC c) r).cur,.sl 39] 176),(36,.lo .ready none),(39,.row eNt (nwR (Mh c) (cB c) (cW c) (cC c) r).notes)]) (fun r hr=>(.c [] (Cn c.ly.g (⟨(r:Int),0,0,0⟩:Pl)) (.t (show (c.ly.g.holds (⟨(r:Int),0,0,0⟩:Pl))=true from Afd hg (by have:r < cRk c:=hr; unfold cRk at this; omega)) (.c [] (Azx c.ly.g (r:Int)) (.c [] (Cn c.ly.g (⟨(r:Int),0,0,0⟩:Pl)) (.t (congrArg (!·) (show (c.ly.g.holds (⟨(r:Int),0,0,0⟩:Pl))=true from Afd hg (by have:r < cRk c:=hr; unfold cRk at this; omega))) (.lp (cB c) 44 [] [] (fun b=>[(14,vn b)]) (fun b=>nb 0 (L6 (nwB (nwR (Mh c) (cB c) (cW c) (cC c) r) r (cW c) (cC c) b).d 0) ++ nb 14 (Mb (nwB (nwR (Mh c) (cB c) (cW c) (cC c) r) r (cW c) (cC c) b).le 14) ++ [(33,.blk [.pt 14 0,.pt 0 0,.pt 28 0,vi (nwB (nwR (Mh c) (cB c) (cW c) (cC c) r) r (cW c) (cC c) b).cur,.sl 39] 176),(36,.lo .ready none),(39,.row eNt (nwB (nwR (Mh c) (cB c) (cW c) (cC c) r) r (cW c) (cC c) b).notes),(42,.lo .ready none)]) (fun b hb=>(.t (sQT ((b:Int) < c.ly.g.banks) (by omega)) (.lp (cW c) 44 [] [] (fun w=>[(19,vn w)]) (fun w=>nb 0 (L6 (nwW (nwB (nwR (Mh c) (cB c) (cW c) (cC c) r) r (cW c) (cC c) b) r b (cC c) w).d 0) ++ nb 14 (Mb (nwW (nwB (nwR (Mh c) (cB c) (cW c) (cC c) r) r (cW c) (cC c) b) r b (cC c) w).le 14) ++ [(33,.blk [.pt 14 0,.pt 0 0,.pt 28 0,vi (nwW (nwB (nwR (Mh c) (cB c) (cW c) (cC c) r) r (cW c) (cC c) b) r b (cC c) w).cur,.sl 39] 176),(36,.lo .ready none),(39,.row eNt (nwW (nwB (nwR (Mh c) (cB c) (cW c) (cC c) r) r (cW c) (cC c) b) r b (cC c) w).notes),(42,.lo .ready none)]) (fun w hw=>(.t (sQT ((w:Int) < c.ly.g.rows) (by omega)) (.lp (cC c) 44 [] [] (fun k=>[(24,vn k)]) (fun k=>nb 0 (L6 (nwC (nwW (nwB (nwR (Mh c) (cB c) (cW c) (cC c) r) r (cW c) (cC c) b) r b (cC c) w) r b w k).d 0) ++ nb 14 (Mb (nwC (nwW (nwB (nwR (Mh c) (cB c) (cW c) (cC c) r) r (cW c) (cC c) b) r b (cC c) w) r b w k).le 14) ++ [(33,.blk [.pt 14 0,.pt 0 0,.pt 28 0,vi (nwC (nwW (nwB (nwR (Mh c) (cB c) (cW c) (cC c) r) r (cW c) (cC c) b) r b (cC c) w) r b w k).cur,.sl 39] 176),(36,.lo .ready none),(39,.row eNt (nwC (nwW (nwB (nwR (Mh c) (cB c) (cW c) (cC c) r) r (cW c) (cC c) b) r b (cC c) w) r b w k).notes),(42,.lo .ready none)]) (fun k hk=>(.t (sQT ((k:Int) < c.ly.g.cols) (by omega)) (.c [] (A3h (⟨(r:Int),(b:Int),(w:Int),(k:Int)⟩:Pl)) (.c (.id 33 :: ir 14 14 ++ ir 0 8 ++ .id 39 :: ir 28 5) (Ab2 (nwC (nwW (nwB (nwR (Mh c) (cB c) (cW c) (cC c) r) r (cW c) (cC c) b) r b (cC c) w) r b w k) (⟨(r:Int),(b:Int),(w:Int),(k:Int)⟩:Pl).ix (fun _=>0) false (((Acu (Acw (Acs (Acv (Aeb hcf) h64 h1k h16 r) h64 h1k b) h64 w) k).mono (by omega))) (fun _=>(by decide:(0:Nat) < 256))) (.n2 (.e 36 (Ck (a:=(k:Int)) (b:=1) (c:=((k + 1:Nat):Int)) (by omega)) .nil)))))) (.t (sQF ((((cC c):Nat):Int) < c.ly.g.cols) (by omega)) (.e 37 (Ck (a:=(w:Int)) (b:=1) (c:=((w + 1:Nat):Int)) (by omega)) .nil))))) (.t (sQF ((((cW c):Nat):Int) < c.ly.g.rows) (by omega)) (.e 38 (Ck (a:=(b:Int)) (b:=1) (c:=((b + 1:Nat):Int)) (by omega)) .nil))))) (.t (sQF ((((cB c):Nat):Int) < c.ly.g.banks) (by omega)) (.e 10 (Ck (a:=(r:Int)) (b:=1) (c:=((r + 1:Nat):Int)) (by omega)) .nil))))))))) (.c [] (Cn c.ly.g (⟨(((cRk c):Nat):Int),0,0,0⟩:Pl)) (.t (show (c.ly.g.holds (⟨(((cRk c):Nat):Int),0,0,0⟩:Pl))=false from Ash hg (by unfold cRk; omega)) .nil)))))))))))))))
theorem Ad8 {m:Int} (h:m=1 ∨ m=2):Fa m=true:=by rcases h with rfl | rfl <;> rfl
def Ac (c:Cfg):MchS:=(⟨(Sw c),fun _ _=>0,[],[],0,0⟩:MchS)
theorem Sx (s:CtlS) (i:Int) (l:Nat->Nat) (b:Bool):(As s i l b).le.c=s.le.c:=by cases b <;> rfl
