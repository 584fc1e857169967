import Derived.Test.YtfhiggfmkjmeiaaGreatFInt
import Derived.Test.YtfhiggfmkjmeiaaGreatFxV
import Derived.Test.YtfhiggfmkjmeiaaGreatFBkt
set_option linter.all false
namespace Go.Proofs.YtfhiggfmkjmeiaaGreat
open Go Go.RowKit
theorem Sp.ofDel {α:Type} {e:Enc α} {f:FuncId} {l:List α} {i j:Int} {c:List V} {ty:TypeId} (hl:i.toNat < l.length) (hlt:V.lts (fun g=>Nat.beq g 0) c=true)
 (hc:∀ (g cap:Nat) (w0:World),Hs (fps [.row (.slice (some ⟨g,0,none⟩) l.length cap) e.ty e.sz l.length (e.cs l)]) w0 w0 [.row (.slice (some ⟨g,0,none⟩) l.length cap) e.ty e.sz l.length (e.cs l)]->Calls P f #[.slice (some ⟨g,0,none⟩) l.length cap,.int .i64 i,.int .i64 j] w0 fun r w'=>r=.returned (.slice (some ⟨g,0,none⟩) (l.eraseIdx i.toNat).length cap)/\Hs (fps [.row (.slice (some ⟨g,0,none⟩) l.length cap) e.ty e.sz l.length (e.cs l)]) w0 w' [.row (.slice (some ⟨g,0,none⟩) (l.eraseIdx i.toNat).length cap) e.ty e.sz (l.eraseIdx i.toNat).length (e.cs (l.eraseIdx i.toNat))]) :
 Sp P f [.sl 0,vi i,vi j] [.row e l,.blk c ty] (.sl 2) [.gone,.blk c ty,.row e (l.eraseIdx i.toNat)]:=by
 have hm:∀ {n:Nat->Bool},n 0=true->V.lts n c=true:=fun {n} h0=>V.lts_mono (fun i hi=>by rw [Nat.eq_of_beq_eq_true hi]; exact h0) c hlt
 refine ⟨⟨?_,rfl⟩,Nat.le_succ _,⟨rfl,rfl⟩,⟨rfl,rfl⟩,fun i b hb hr=>?_,fun ρ M w hE=>?_⟩
 ·show (true && (V.lts (liv [.row e l,.blk c ty]) c && true))=true
  rw [hm (n:=liv [.row e l,.blk c ty]) rfl]; rfl
 ·match i,hb with
  | 0,hb=>cases hb; cases hr
  | 1,hb=>cases hb; cases hr
  | 2,hb=>cases hb; cases hr
  | i + 3,hb=>cases hb
 obtain ⟨hn,hcap,hnil,_⟩:=hE.row (g:=0) rfl rfl
 obtain ⟨ho,hn',hz⟩:=hE.sd 0 _ rfl
 obtain ⟨ho1,hw1⟩:=hE.sd 1 _ rfl
 cases ha:(ρ 0).a with
 | none=>rw [hnil ha] at hl; exact absurd hl (Nat.not_lt_zero _)
 | some a =>
   have e1:(ρ 0).slv=.slice (some ⟨a,0,none⟩) l.length (ρ 0).cap:=by unfold Loc.slv; rw [ha,ho,hn]
   have e1w:(ρ 0).slw=.slice (some ⟨a,0,none⟩) l.length (ρ 0).cap:=by unfold Loc.slw; rw [ha,ho,hn]
   have H0:Hs M w w ([.row (.slice (some ⟨a,0,none⟩) l.length (ρ 0).cap) e.ty e.sz l.length (e.cs l)] ++ [.blk (ρ 1).g (V.flat ρ c).toArray ty]):=by
    have h:=hE.hs
    rw [show rsF ρ [B.row e l,.blk c ty] 0=[.row (ρ 0).slw e.ty e.sz l.length (e.cs l),.blk (ρ 1).g (V.flat ρ c).toArray ty] from rfl,e1w] at h
    exact h
   have e2:V.dens ρ [.sl 0,vi i,vi j]=[(ρ 0).slv,.int .i64 i,.int .i64 j]:=by simp only [V.dens,V.den]
   rw [e2,e1]
   refine (Hs.use H0 (hc a _ w)).mono fun r w' ⟨hr,H1⟩=>?_
   let ρ':Env:=fun q=>if q=2 then ⟨some a,0,(l.eraseIdx i.toNat).length,(ρ 0).cap,(ρ 0).r,(ρ 0).l,none,0⟩ else ρ q
   have ef:V.flat ρ' c=V.flat ρ c:=V.flat_ext (n:=fun g=>Nat.beq g 0) (fun i hi=>by rw [Nat.eq_of_beq_eq_true hi]; rfl) c hlt
   have H2:=(H1.pad 1).swp (i:=0) (j:=2) rfl rfl (by decide)
   refine ⟨ρ',by rw [hr]; rfl,⟨?_,fun q b hb=>?_,fun q b hb=>?_,fun q hq hf=>?_,fun q hq=>?_,fun q b hq hf hb=>?_⟩⟩
   ·rw [show rsF ρ' [B.gone,.blk c ty,.row e (l.eraseIdx i.toNat)] 0=[Sf,.blk (ρ 1).g (V.flat ρ' c).toArray ty,.row (.slice (some ⟨a,0,none⟩) (l.eraseIdx i.toNat).length (ρ 0).cap) e.ty e.sz (l.eraseIdx i.toNat).length (e.cs (l.eraseIdx i.toNat))] from rfl,ef]
    exact H2
   ·match q,hb with
    | 0,hb=>cases hb; exact trivial
    | 1,hb=>cases hb; exact ⟨ho1,hw1⟩
    | 2,hb=>cases hb; exact ⟨rfl,rfl,fun h=>by cases h⟩
    | q + 3,hb=>cases hb
   ·match q,hb with
    | 0,hb=>cases hb; rfl
    | 1,hb=>cases hb; exact hm rfl
    | 2,hb=>cases hb; rfl
    | q + 3,hb=>cases hb
   ·match q,hq with
    | 0,_=>rfl
    | 1,_=>exact hE.ag 1 (by show 1 < 2; decide) rfl
    | q + 2,hq=>exact absurd hq (by show ¬ q + 2 < 2; omega)
   ·match q,hq with
    | 0,_=>rfl
    | 1,_=>rfl
    | q + 2,hq=>exact absurd hq (by show ¬ q + 2 < 2; omega)
   ·match q,hq with
    | 0,_=>cases hf
    | 1,_=>cases hb; rfl
    | q + 2,hq=>exact absurd hq (by show ¬ q + 2 < 2; omega)
set_option maxRecDepth 100000 in
set_option maxHeartbeats 2000000 in
theorem Avs {g cap:Nat} (xs:List Pg) (q:Nat) (hq:q < xs.length) (hn:xs.length<=4096) (i j:Int) (hi:i=(q:Int)) (hj:j=(q:Int) + 1) (w0:World) (H0:Hs (fps [.row (.slice (some ⟨g,0,none⟩) (List.length xs) cap) 324 3 (List.length xs) (List.flatMap ePg.c xs)]) w0 w0 [.row (.slice (some ⟨g,0,none⟩) (List.length xs) cap) 324 3 (List.length xs) (List.flatMap ePg.c xs)]) :
   Calls Tryz.prog 355 #[.slice (some ⟨g,0,none⟩) (List.length xs) cap,.int .i64 i,.int .i64 j] w0 fun e w'=>e=.returned (.slice (some ⟨g,0,none⟩) (List.length (xs.eraseIdx q)) cap)/\Hs (fps [.row (.slice (some ⟨g,0,none⟩) (List.length xs) cap) 324 3 (List.length xs) (List.flatMap ePg.c xs)]) w0 w' [.row (.slice (some ⟨g,0,none⟩) (List.length (xs.eraseIdx q)) cap) 324 3 (List.length (xs.eraseIdx q)) (List.flatMap ePg.c (xs.eraseIdx q))]:=by
 obtain rfl:j=((q + 1:Nat):Int):=by omega
 subst hi
 refine Ah2 Tryz.func355 rfl #[.slice (some ⟨g,0,none⟩) (List.length xs) cap,.int .i64 (q:Int),.int .i64 (((q + 1):Nat):Int),undef,undef,undef,undef,undef,undef,undef,undef,undef,undef,undef,undef,undef,undef,undef,undef,undef,undef,undef,undef,undef,undef,undef,undef,undef,undef,undef,undef,undef,undef] (by kernel_rfl) ?_
 have H:=H0
 have hncap:xs.length<=cap:=by rcases H0.rowForm 0 rfl with ⟨h,_⟩ | ⟨g',c',h,h2,_⟩ <;> simp at h <;> omega
 have hqq:decide ((q:Int)=(((q + 1):Nat):Int))=false:=by simp; omega
 refine L5 ?_
 refine Gq ?_
 refine D6 (.slice none 0 0) (by kernel_rfl) rfl (by kernel_rfl) ?_
 refine L4 ?_
 refine I4 ?_
 refine L5 ?_
 refine Gq ?_
 refine D6 (.slice (some ⟨g,0,none⟩) (List.length xs) cap) (by kernel_rfl) rfl (by kernel_rfl) ?_
 refine D6 (.int .i64 (q:Int)) (by kernel_rfl) rfl (by kernel_rfl) ?_
 refine D6 (.int .i64 (((q + 1):Nat):Int)) (by kernel_rfl) rfl (by kernel_rfl) ?_
 refine D6 (.slice (some ⟨g,0,none⟩) (List.length xs) cap) (by kernel_rfl) rfl (by kernel_rfl) ?_
 refine D6 (.int .i64 (((List.length xs):Nat):Int)) (by kernel_rfl) rfl (by kernel_rfl) ?_
 refine D6 ((sliced (some ⟨g,0,none⟩) q (q + 1) (List.length xs) 3)) (by kernel_rfl) rfl (Eq.trans (by kernel_rfl) (Ap8 (P:=Tryz.prog) (t:=319) (b:=some ⟨g,0,none⟩) (n:=(List.length xs)) (c:=cap) (l:=q) (h:=(q + 1)) (m:=(List.length xs)) (sz:=3) (by kernel_rfl) (by kernel_rfl) (by omega) (by omega) (by omega))) ?_
 refine L4 ?_
 refine I4 ?_
 refine L5 ?_
 refine L5 ?_
 refine Gq ?_
 refine D6 (.int .i64 (q:Int)) (by kernel_rfl) rfl (by kernel_rfl) ?_
 refine D6 (.int .i64 (((q + 1):Nat):Int)) (by kernel_rfl) rfl (by kernel_rfl) ?_
 refine D6 (.bool (decide ((q:Int)=(((q + 1):Nat):Int)))) (by kernel_rfl) rfl (by kernel_rfl) ?_
 refine L4 ?_
 refine I4 ?_
 rw [hqq]
 refine x_f (by kernel_rfl) ?_
 refine A75 ?_
 refine I4 ?_
 refine L5 ?_
 refine Gq ?_
 refine D6 (.slice (some ⟨g,0,none⟩) (List.length xs) cap) (by kernel_rfl) rfl (by kernel_rfl) ?_
 refine D6 (.int .i64 (((List.length xs):Nat):Int)) (by kernel_rfl) rfl (by kernel_rfl) ?_
 refine D6 (.int .i64 (((List.length xs):Nat):Int)) (by kernel_rfl) rfl (by kernel_rfl) ?_
 refine L4 ?_
 refine I4 ?_
 refine L5 ?_
 refine Su 6 (fun w'=>Hs (fps [.row (.slice (some ⟨g,0,none⟩) (List.length xs) cap) 324 3 (List.length xs) (List.flatMap ePg.c xs)]) w0 w' [.row (.slice (some ⟨g,0,none⟩) (List.length xs) cap) 324 3 (List.length xs) (List.flatMap ePg.c xs)]) (by kernel_rfl) (by kernel_rfl) (by kernel_rfl) H.drew ?_
 simp only [List.take_succ_cons,List.take_zero,List.drop_succ_cons,List.drop_zero]
 refine Pu (.slice (some ⟨g,0,none⟩) (List.length xs) cap) (by kernel_rfl) (fun _=>by kernel_rfl) ?_
 refine Pu (.int .i64 (q:Int)) (by kernel_rfl) (fun _=>by kernel_rfl) ?_
 refine Pu (.slice (some ⟨g,0,none⟩) q cap) (by kernel_rfl) (fun _=>(Eq.trans (by kernel_rfl) (B14 (P:=Tryz.prog) (t:=319) (g:=g) (n:=(List.length xs)) (c:=cap) (h:=q) (sz:=3) (by kernel_rfl) (by kernel_rfl) (by omega)))) ?_
 refine Pu (.slice (some ⟨g,0,none⟩) (List.length xs) cap) (by kernel_rfl) (fun _=>by kernel_rfl) ?_
 refine Pu (.int .i64 (((q + 1):Nat):Int)) (by kernel_rfl) (fun _=>by kernel_rfl) ?_
 refine Pu ((sliced (some ⟨g,0,none⟩) (q + 1) (List.length xs) cap 3)) (by kernel_rfl) (fun _=>(Eq.trans (by kernel_rfl) (B15 (P:=Tryz.prog) (t:=319) (b:=some ⟨g,0,none⟩) (n:=(List.length xs)) (c:=cap) (l:=(q + 1)) (sz:=3) (by kernel_rfl) (by kernel_rfl) (by omega)))) ?_
 refine Avb ?_
 clear H
 intro v1 H
 refine A21 H 0 319 324 3 g (List.length xs) q (q + 1) cap (List.flatMap ePg.c xs) rfl (by kernel_rfl) (by kernel_rfl) (Xf ePg.one xs) (by omega) (by omega) (by kernel_rfl) rfl (by kernel_rfl) ?_
 clear H
 intro v2 H
 rw [show (List.take (q * 3) (List.flatMap ePg.c xs) ++ List.drop ((q + 1) * 3) (List.flatMap ePg.c xs))=(List.flatMap ePg.c (xs.eraseIdx q)) from (A30 ePg.len xs q)] at H
 replace H:Hs (fps [.row (.slice (some ⟨g,0,none⟩) (List.length xs) cap) 324 3 (List.length xs) (List.flatMap ePg.c xs)]) w0 v2 [.row (.slice (some ⟨g,0,none⟩) (q + ((List.length xs) - (q + 1))) cap) 324 3 (q + ((List.length xs) - (q + 1))) (List.flatMap ePg.c (xs.eraseIdx q))]:=H
 refine D6 (.slice (some ⟨g,0,none⟩) (q + ((List.length xs) - (q + 1))) cap) (by kernel_rfl) rfl (by kernel_rfl) ?_
 refine L4 ?_
 refine I4 ?_
 refine L5 ?_
 refine Gq ?_
 refine D6 (.slice (some ⟨g,0,none⟩) (q + ((List.length xs) - (q + 1))) cap) (by kernel_rfl) rfl (by kernel_rfl) ?_
 refine D6 (.slice (some ⟨g,0,none⟩) (q + ((List.length xs) - (q + 1))) cap) (by kernel_rfl) rfl (by kernel_rfl) ?_
 refine D6 (.int .i64 (((q + ((List.length xs) - (q + 1))):Nat):Int)) (by kernel_rfl) rfl (by kernel_rfl) ?_
 refine D6 (.int .i64 (((List.length xs):Nat):Int)) (by kernel_rfl) rfl (by kernel_rfl) ?_
 refine D6 (.slice (some ⟨g,(q + ((List.length xs) - (q + 1))) * 3,none⟩) ((List.length xs) - (q + ((List.length xs) - (q + 1)))) (cap - (q + ((List.length xs) - (q + 1))))) (by kernel_rfl) rfl (Eq.trans (by kernel_rfl) (Avh (P:=Tryz.prog) (t:=319) (g:=g) (n:=(q + ((List.length xs) - (q + 1)))) (c:=cap) (l:=(q + ((List.length xs) - (q + 1)))) (h:=(List.length xs)) (sz:=3) (by kernel_rfl) (by kernel_rfl) (by omega) (by omega) (by omega))) ?_
 refine Ah1 H 0 319 324 3 g (q + ((List.length xs) - (q + 1))) cap (cap - (q + ((List.length xs) - (q + 1)))) (.agg #[.int .i64 0,.int .i64 0,.int .i64 0]) (List.flatMap ePg.c (xs.eraseIdx q)) rfl (by kernel_rfl) (fun _=>Aa3 (by kernel_rfl)) rfl (by decide) (by kernel_rfl) (by omega) (by kernel_rfl) rfl rfl (by rw [show List.length xs - (q + (List.length xs - (q + 1)))=1 by omega]; kernel_rfl) ?_
 clear H
 intro v3 H
 refine L4 ?_
 refine I4 ?_
 refine L5 ?_
 refine Gq ?_
 refine D6 (.slice (some ⟨g,0,none⟩) (q + ((List.length xs) - (q + 1))) cap) (by kernel_rfl) rfl (by kernel_rfl) ?_
 refine D6 (.slice (some ⟨g,0,none⟩) (q + ((List.length xs) - (q + 1))) cap) (by kernel_rfl) rfl (by kernel_rfl) ?_
 refine L4 ?_
 refine I4 ?_
 refine A74 ?_
 refine Avr (.slice (some ⟨g,0,none⟩) (q + ((List.length xs) - (q + 1))) cap) (by kernel_rfl) (by kernel_rfl) ?_
 have hm:q + (List.length xs - (q + 1))=(xs.eraseIdx q).length:=by rw [List.length_eraseIdx,if_pos hq]; omega
 rw [hm] at H ⊢
 exact ⟨rfl,H⟩
theorem Awj (l:List Pg) (i j:Int) (room:Int) (hl:l.length<=4096) (h0:0<=i/\i < (l.length:Int)) (hj:j=i + 1):Sp P 355 [.sl 0,vi i,vi j] [.row ePg l,.blk [.sl 0,vi room,.fn (.func 238) [] []] 322] (.sl 2) [.gone,.blk [.sl 0,vi room,.fn (.func 238) [] []] 322,.row ePg (l.eraseIdx i.toNat)] :=
 Sp.ofDel (by omega) rfl fun g cap w0 H=>Avs l i.toNat (by omega) hl i j (by omega) (by omega) w0 H
set_option maxRecDepth 100000 in
set_option maxHeartbeats 2000000 in
theorem Aqm {g cap:Nat} (xs:List Rec) (q:Nat) (hq:q < xs.length) (hn:xs.length<=4096) (i j:Int) (hi:i=(q:Int)) (hj:j=(q:Int) + 1) (w0:World) (H0:Hs (fps [.row (.slice (some ⟨g,0,none⟩) (List.length xs) cap) 192 5 (List.length xs) (List.flatMap Kt.c xs)]) w0 w0 [.row (.slice (some ⟨g,0,none⟩) (List.length xs) cap) 192 5 (List.length xs) (List.flatMap Kt.c xs)]) :
   Calls Tryz.prog 337 #[.slice (some ⟨g,0,none⟩) (List.length xs) cap,.int .i64 i,.int .i64 j] w0 fun e w'=>e=.returned (.slice (some ⟨g,0,none⟩) (List.length (xs.eraseIdx q)) cap)/\Hs (fps [.row (.slice (some ⟨g,0,none⟩) (List.length xs) cap) 192 5 (List.length xs) (List.flatMap Kt.c xs)]) w0 w' [.row (.slice (some ⟨g,0,none⟩) (List.length (xs.eraseIdx q)) cap) 192 5 (List.length (xs.eraseIdx q)) (List.flatMap Kt.c (xs.eraseIdx q))]:=by
 obtain rfl:j=((q + 1:Nat):Int):=by omega
 subst hi
 refine Ah2 Tryz.func337 rfl #[.slice (some ⟨g,0,none⟩) (List.length xs) cap,.int .i64 (q:Int),.int .i64 (((q + 1):Nat):Int),undef,undef,undef,undef,undef,undef,undef,undef,undef,undef,undef,undef,undef,undef,undef,undef,undef,undef,undef,undef,undef,undef,undef,undef,undef,undef,undef,undef,undef,undef] (by kernel_rfl) ?_
 have H:=H0
 have hncap:xs.length<=cap:=by rcases H0.rowForm 0 rfl with ⟨h,_⟩ | ⟨g',c',h,h2,_⟩ <;> simp at h <;> omega
 have hqq:decide ((q:Int)=(((q + 1):Nat):Int))=false:=by simp; omega
 refine L5 ?_
 refine Gq ?_
 refine D6 (.slice none 0 0) (by kernel_rfl) rfl (by kernel_rfl) ?_
 refine L4 ?_
 refine I4 ?_
 refine L5 ?_
 refine Gq ?_
 refine D6 (.slice (some ⟨g,0,none⟩) (List.length xs) cap) (by kernel_rfl) rfl (by kernel_rfl) ?_
 refine D6 (.int .i64 (q:Int)) (by kernel_rfl) rfl (by kernel_rfl) ?_
 refine D6 (.int .i64 (((q + 1):Nat):Int)) (by kernel_rfl) rfl (by kernel_rfl) ?_
 refine D6 (.slice (some ⟨g,0,none⟩) (List.length xs) cap) (by kernel_rfl) rfl (by kernel_rfl) ?_
 refine D6 (.int .i64 (((List.length xs):Nat):Int)) (by kernel_rfl) rfl (by kernel_rfl) ?_
 refine D6 ((sliced (some ⟨g,0,none⟩) q (q + 1) (List.length xs) 5)) (by kernel_rfl) rfl (Eq.trans (by kernel_rfl) (Ap8 (P:=Tryz.prog) (t:=56) (b:=some ⟨g,0,none⟩) (n:=(List.length xs)) (c:=cap) (l:=q) (h:=(q + 1)) (m:=(List.length xs)) (sz:=5) (by kernel_rfl) (by kernel_rfl) (by omega) (by omega) (by omega))) ?_
 refine L4 ?_
 refine I4 ?_
 refine L5 ?_
 refine L5 ?_
 refine Gq ?_
 refine D6 (.int .i64 (q:Int)) (by kernel_rfl) rfl (by kernel_rfl) ?_
 refine D6 (.int .i64 (((q + 1):Nat):Int)) (by kernel_rfl) rfl (by kernel_rfl) ?_
 refine D6 (.bool (decide ((q:Int)=(((q + 1):Nat):Int)))) (by kernel_rfl) rfl (by kernel_rfl) ?_
 refine L4 ?_
 refine I4 ?_
 rw [hqq]
 refine x_f (by kernel_rfl) ?_
 refine A75 ?_
 refine I4 ?_
 refine L5 ?_
 refine Gq ?_
 refine D6 (.slice (some ⟨g,0,none⟩) (List.length xs) cap) (by kernel_rfl) rfl (by kernel_rfl) ?_
 refine D6 (.int .i64 (((List.length xs):Nat):Int)) (by kernel_rfl) rfl (by kernel_rfl) ?_
 refine D6 (.int .i64 (((List.length xs):Nat):Int)) (by kernel_rfl) rfl (by kernel_rfl) ?_
 refine L4 ?_
 refine I4 ?_
 refine L5 ?_
 refine Su 6 (fun w'=>Hs (fps [.row (.slice (some ⟨g,0,none⟩) (List.length xs) cap) 192 5 (List.length xs) (List.flatMap Kt.c xs)]) w0 w' [.row (.slice (some ⟨g,0,none⟩) (List.length xs) cap) 192 5 (List.length xs) (List.flatMap Kt.c xs)]) (by kernel_rfl) (by kernel_rfl) (by kernel_rfl) H.drew ?_
 simp only [List.take_succ_cons,List.take_zero,List.drop_succ_cons,List.drop_zero]
 refine Pu (.slice (some ⟨g,0,none⟩) (List.length xs) cap) (by kernel_rfl) (fun _=>by kernel_rfl) ?_
 refine Pu (.int .i64 (q:Int)) (by kernel_rfl) (fun _=>by kernel_rfl) ?_
 refine Pu (.slice (some ⟨g,0,none⟩) q cap) (by kernel_rfl) (fun _=>(Eq.trans (by kernel_rfl) (B14 (P:=Tryz.prog) (t:=56) (g:=g) (n:=(List.length xs)) (c:=cap) (h:=q) (sz:=5) (by kernel_rfl) (by kernel_rfl) (by omega)))) ?_
 refine Pu (.slice (some ⟨g,0,none⟩) (List.length xs) cap) (by kernel_rfl) (fun _=>by kernel_rfl) ?_
 refine Pu (.int .i64 (((q + 1):Nat):Int)) (by kernel_rfl) (fun _=>by kernel_rfl) ?_
 refine Pu ((sliced (some ⟨g,0,none⟩) (q + 1) (List.length xs) cap 5)) (by kernel_rfl) (fun _=>(Eq.trans (by kernel_rfl) (B15 (P:=Tryz.prog) (t:=56) (b:=some ⟨g,0,none⟩) (n:=(List.length xs)) (c:=cap) (l:=(q + 1)) (sz:=5) (by kernel_rfl) (by kernel_rfl) (by omega)))) ?_
 refine Avb ?_
 clear H
 intro v1 H
 refine A21 H 0 56 192 5 g (List.length xs) q (q + 1) cap (List.flatMap Kt.c xs) rfl (by kernel_rfl) (by kernel_rfl) (Xf Kt.one xs) (by omega) (by omega) (by kernel_rfl) rfl (by kernel_rfl) ?_
 clear H
 intro v2 H
 rw [show (List.take (q * 5) (List.flatMap Kt.c xs) ++ List.drop ((q + 1) * 5) (List.flatMap Kt.c xs))=(List.flatMap Kt.c (xs.eraseIdx q)) from (A30 Kt.len xs q)] at H
 replace H:Hs (fps [.row (.slice (some ⟨g,0,none⟩) (List.length xs) cap) 192 5 (List.length xs) (List.flatMap Kt.c xs)]) w0 v2 [.row (.slice (some ⟨g,0,none⟩) (q + ((List.length xs) - (q + 1))) cap) 192 5 (q + ((List.length xs) - (q + 1))) (List.flatMap Kt.c (xs.eraseIdx q))]:=H
 refine D6 (.slice (some ⟨g,0,none⟩) (q + ((List.length xs) - (q + 1))) cap) (by kernel_rfl) rfl (by kernel_rfl) ?_
 refine L4 ?_
 refine I4 ?_
 refine L5 ?_
 refine Gq ?_
 refine D6 (.slice (some ⟨g,0,none⟩) (q + ((List.length xs) - (q + 1))) cap) (by kernel_rfl) rfl (by kernel_rfl) ?_
 refine D6 (.slice (some ⟨g,0,none⟩) (q + ((List.length xs) - (q + 1))) cap) (by kernel_rfl) rfl (by kernel_rfl) ?_
 refine D6 (.int .i64 (((q + ((List.length xs) - (q + 1))):Nat):Int)) (by kernel_rfl) rfl (by kernel_rfl) ?_
 refine D6 (.int .i64 (((List.length xs):Nat):Int)) (by kernel_rfl) rfl (by kernel_rfl) ?_
 refine D6 (.slice (some ⟨g,(q + ((List.length xs) - (q + 1))) * 5,none⟩) ((List.length xs) - (q + ((List.length xs) - (q + 1)))) (cap - (q + ((List.length xs) - (q + 1))))) (by kernel_rfl) rfl (Eq.trans (by kernel_rfl) (Avh (P:=Tryz.prog) (t:=56) (g:=g) (n:=(q + ((List.length xs) - (q + 1)))) (c:=cap) (l:=(q + ((List.length xs) - (q + 1)))) (h:=(List.length xs)) (sz:=5) (by kernel_rfl) (by kernel_rfl) (by omega) (by omega) (by omega))) ?_
 refine Ah1 H 0 56 192 5 g (q + ((List.length xs) - (q + 1))) cap (cap - (q + ((List.length xs) - (q + 1)))) (.agg #[.int .i64 0,.int .i64 0,.int .i64 0,.int .i64 0,.int .i64 0]) (List.flatMap Kt.c (xs.eraseIdx q)) rfl (by kernel_rfl) (fun _=>Aa3 (by kernel_rfl)) rfl (by decide) (by kernel_rfl) (by omega) (by kernel_rfl) rfl rfl (by rw [show List.length xs - (q + (List.length xs - (q + 1)))=1 by omega]; kernel_rfl) ?_
 clear H
 intro v3 H
 refine L4 ?_
 refine I4 ?_
 refine L5 ?_
 refine Gq ?_
 refine D6 (.slice (some ⟨g,0,none⟩) (q + ((List.length xs) - (q + 1))) cap) (by kernel_rfl) rfl (by kernel_rfl) ?_
 refine D6 (.slice (some ⟨g,0,none⟩) (q + ((List.length xs) - (q + 1))) cap) (by kernel_rfl) rfl (by kernel_rfl) ?_
 refine L4 ?_
 refine I4 ?_
 refine A74 ?_
 refine Avr (.slice (some ⟨g,0,none⟩) (q + ((List.length xs) - (q + 1))) cap) (by kernel_rfl) (by kernel_rfl) ?_
 have hm:q + (List.length xs - (q + 1))=(xs.eraseIdx q).length:=by rw [List.length_eraseIdx,if_pos hq]; omega
 rw [hm] at H ⊢
 exact ⟨rfl,H⟩
theorem Arm (l:List Rec) (i j:Int) (room next:Int) (lost:Bool) (hl:l.length<=4096) (h0:0<=i/\i < (l.length:Int)) (hj:j=i + 1):Sp P 337 [.sl 0,vi i,vi j] [.row Kt l,.blk [.sl 0,vi room,vi next,vt lost] 221] (.sl 2) [.gone,.blk [.sl 0,vi room,vi next,vt lost] 221,.row Kt (l.eraseIdx i.toNat)] :=
 Sp.ofDel (by omega) rfl fun g cap w0 H=>Aqm l i.toNat (by omega) hl i j (by omega) (by omega) w0 H
set_option maxRecDepth 100000
theorem Apu (x:Pg) (k:Int) :Sp P 354 [.ag [vi x.k,vi x.b.level,vi x.b.age],.pt 0 0] [.ro (.blk [vi k] 3)] (vt (decide (x.k=k))) [.ro (.blk [vi k] 3)] :=
 so Tryz.f354 3 [.id 0] .nil
def tkw (l:List Pg) (k:Int):Nat:=ff (fun i=>decide ((l.getD i Ee).k=k)) l.length
theorem Ayu {l:List Pg} {k:Int} (h:((tkw l k:Nat):Int) < (l.length:Int)):decide ((l.getD (tkw l k) Ee).k=k)=true:=U0 (p:=fun i=>decide ((l.getD i Ee).k=k)) (n:=l.length) (show tkw l k < l.length by omega)
theorem Apv (l:List Pg) (k:Int):tkw l k<=l.length:=Qd _ _
def B0 (l:List Pg) (k:Int):Int:=bif decide ((((tkw l k):Nat):Int) < (l.length:Int)) then (((tkw l k):Nat):Int) else (-1)
theorem Ayt (l:List Pg) (k:Int) (hl:l.length<=100000):Sp P 353 [.sl 0,.fn (.func 354) [] [.pt 1 0]] [.ro (.row ePg l),.ro (.blk [vi k] 3)] (vi (B0 l k)) [.ro (.row ePg l),.ro (.blk [vi k] 3)]:=by
 have hw:=Apv l k
 have gd1:∀ (i:Nat) (hi:i < (tkw l k)),Good P _ _:=fun i hi=>(.t (sQT ((i:Int) < (l.length:Int)) (by omega)) (.ix (i:=i) (m:=l.length) (by omega) (.el (e:=ePg) (gDx (l:=l) (i:=i) Ee (by omega)) (.c [.id 1] (Apu (l.getD i Ee) k) (.t (show (decide ((l.getD i Ee).k=k))=false from Qe hi) (.e 18 (Ck (a:=(i:Int)) (b:=1) (c:=((i + 1:Nat):Int)) (by omega)) .nil))))))
 generalize d0:B0 l k=yd0
 unfold B0 at d0
 rcases bft (decide ((((tkw l k):Nat):Int) < (l.length:Int))) with q1 | q1
 ·rw [A2 q1] at d0
  have q1':=otq q1
  subst d0
  exact so Tryz.f353 3 [.id 0,.id 1] (.lp (tkw l k) 3 [] [] (fun i=>[(8,vn i)]) (fun i=>[]) gd1 (.t q1 (.ix (i:=(tkw l k)) (m:=l.length) (by have hq:=otq q1; omega) (.el (e:=ePg) (gDx (l:=l) (i:=(tkw l k)) Ee (by have hq:=otq q1; omega)) (.c [.id 1] (Apu (l.getD (tkw l k) Ee) k) (.t (show (decide ((l.getD (tkw l k) Ee).k=k))=true from Ayu (otq q1)) .nil))))))
 ·rw [A1 q1] at d0
  have q1':=ofq q1
  subst d0
  exact so Tryz.f353 3 [.id 0,.id 1] (.lp (tkw l k) 3 [] [] (fun i=>[(8,vn i)]) (fun i=>[]) gd1 (.t q1 .nil))
theorem A1f (l:List Pg) (room:Int) (k:Int) (hl:l.length<=100000):Sp P 339 [.pt 0 0,vi k] [.ro (.blk [.sl 1,vi room,.fn (.func 238) [] []] 322),.ro (.row ePg l)] (vi (B0 l k)) [.ro (.blk [.sl 1,vi room,.fn (.func 238) [] []] 322),.ro (.row ePg l)] :=
 so Tryz.f339 3 [.id 0,.id 1] (.c [.id 1,.id 3] (Ayt l k (by first | assumption | omega)) .nil)
theorem Rd {l:List Pg} {k:Int} (h:¬ (B0 l k < 0)):0<=B0 l k/\B0 l k < (l.length:Int):=by
 have hw:=Apv l k
 unfold B0 at h ⊢
 cases q:decide (((tkw l k:Nat):Int) < (l.length:Int))
 ·rw [q] at h; exact absurd (show (-1:Int) < 0 by decide) h
 ·have:=otq q
  exact ⟨Int.natCast_nonneg _,this⟩
def Pp (l:List Pg) (room:Int) (k:Int):Int:=bif decide ((B0 l k) < 0) then 0 else (l.getD (B0 l k).toNat Ee).b.level
def M3 (l:List Pg) (room:Int) (k:Int):Int:=bif decide ((B0 l k) < 0) then 0 else (l.getD (B0 l k).toNat Ee).b.age
def A6x (l:List Pg) (room:Int) (k:Int):Bool:=bif decide ((B0 l k) < 0) then false else true
theorem B2e (l:List Pg) (room:Int) (k:Int) (hl:l.length<=100000):Sp P 317 [.pt 0 0,vi k] [.ro (.blk [.sl 1,vi room,.fn (.func 238) [] []] 322),.ro (.row ePg l)] (.tu [.ag [vi (Pp l room k),vi (M3 l room k)],vt (A6x l room k)]) [.ro (.blk [.sl 1,vi room,.fn (.func 238) [] []] 322),.ro (.row ePg l)]:=by
 generalize d0:Pp l room k=yd0
 unfold Pp at d0
 generalize d1:M3 l room k=yd1
 unfold M3 at d1
 generalize d2:A6x l room k=yd2
 unfold A6x at d2
 rcases bft (decide ((B0 l k) < 0)) with q1 | q1
 ·rw [A2 q1] at d0 d1 d2
  have q1':=otq q1
  subst d0 d1 d2
  exact so Tryz.f317 4 [.id 0,.id 1] (.c [.id 0,.id 1] (A1f l room k (by first | assumption | omega)) (.t q1 .nil))
 ·rw [A1 q1] at d0 d1 d2
  have q1':=ofq q1
  subst d0 d1 d2
  exact so Tryz.f317 3 [.id 0,.id 1] (.c [.id 0,.id 1] (A1f l room k (by first | assumption | omega)) (.t q1 (.ix (n:=(B0 l k)) (i:=(B0 l k).toNat) (m:=l.length) (e:=(by have hx:=Rd (l:=l) (k:=k) (by omega); omega)) (by have hx:=Rd (l:=l) (k:=k) (by omega); omega) (.el (e:=ePg) (gDx (l:=l) (i:=(B0 l k).toNat) Ee (by have hx:=Rd (l:=l) (k:=k) (by omega); omega)) .nil))))
theorem Agt (b:Bk) :Sp P 238 [.ag [vi b.level,vi b.age]] [] (vi b.level) [] :=
 so Tryz.f238 3 [] .nil
def lgt (l:List Pg):Nat->Int × Int
 | 0=>(0,0)
 | i + 1 => (bif decide (((i : Nat) : Int) = 0) then ((i : Nat) : Int) else bif decide ((l.getD i Ee).b.level < (lgt l i).2) then ((i : Nat) : Int) else (lgt l i).1,
     bif decide ((i:Int)=0) then (l.getD i Ee).b.level else bif decide ((l.getD i Ee).b.level < (lgt l i).2) then (l.getD i Ee).b.level else (lgt l i).2)
theorem An3 (l:List Pg):∀ i,0<=(lgt l i).1/\((lgt l i).1 < (i:Int) ∨ i=0)
 | 0=>⟨Int.le_refl _,.inr rfl⟩
 | i + 1=>by
   have h:=An3 l i
   rw [lgt]
   simp only [Bool.cond_eq_ite,decide_eq_true_eq]
   split
   ·omega
   ·split <;> omega
theorem Ayv (l:List Pg) (room:Int) (hl:l.length<=100000):Sp P 341 [.pt 0 0] [.ro (.blk [.sl 1,vi room,.fn (.func 238) [] []] 322),.ro (.row ePg l)] (vi (lgt l l.length).1) [.ro (.blk [.sl 1,vi room,.fn (.func 238) [] []] 322),.ro (.row ePg l)] :=
 so Tryz.f341 4 [.id 0,.id 1] (.lp l.length 3 [] [] (fun i=>[(13,vn i),(3,vi (lgt l i).1),(4,vi (lgt l i).2)]) (fun i=>[]) (fun i hi=>(.t (sQT ((i:Int) < (l.length:Int)) (by omega)) (.cs 2 (decide ((i:Int)=0)) 3 [] [] (fun z=>[(3,vi (bif z then (i:Int) else (bif (decide ((l.getD i Ee).b.level < (lgt l i).2)) then (i:Int) else (lgt l i).1))),(4,vi (bif z then (l.getD i Ee).b.level else (bif (decide ((l.getD i Ee).b.level < (lgt l i).2)) then (l.getD i Ee).b.level else (lgt l i).2))),(5,vn i),(7,vi (l.getD i Ee).b.level),(15,vn i),(16,.pe 1 i 3 0),(17,.ag [vi (l.getD i Ee).k,vi (l.getD i Ee).b.level,vi (l.getD i Ee).b.age]),(18,.pt 0 0),(19,.pt 0 0),(20,.pt 0 2),(21,.fn (.func 238) [] []),(23,.ag [vi (l.getD i Ee).b.level,vi (l.getD i Ee).b.age]),(24,vi (l.getD i Ee).b.level),(25,vn i),(26,vt (decide ((i:Int)=0))),(27,vt (decide ((i:Int)=0))),(31,vt (bif z then true else (decide ((l.getD i Ee).b.level < (lgt l i).2))))]) (fun z=>[]) (fun hq1=>(.ix (i:=i) (m:=l.length) (by omega) (.el (e:=ePg) (gDx (l:=l) (i:=i) Ee (by omega)) (.c [] (Agt (l.getD i Ee).b) (.t2 hq1 (.t2 hq1 (.y .nil))))))) (fun hq1=>(.ix (i:=i) (m:=l.length) (by omega) (.el (e:=ePg) (gDx (l:=l) (i:=i) Ee (by omega)) (.c [] (Agt (l.getD i Ee).b) (.t2 hq1 (.t2 hq1 (.cs 0 (decide ((l.getD i Ee).b.level < (lgt l i).2)) 5 [] [] (fun z=>[(3,vi (bif z then (i:Int) else (lgt l i).1)),(4,vi (bif z then (l.getD i Ee).b.level else (lgt l i).2))]) (fun z=>[]) (fun hq2=>(.t hq2 .nil)) (fun hq2=>(.t hq2 .nil)) .nil))))))) (.e 34 (Ck (a:=(i:Int)) (b:=1) (c:=((i + 1:Nat):Int)) (by omega)) .nil)))) (.t (sQF ((l.length:Int) < (l.length:Int)) (by omega)) .nil))
theorem Ags (l:List Pg) (room:Int) (i:Int) (hl:l.length<=4096) (hr:0<=i/\i < (l.length:Int)):Sp P 340 [.pt 0 0,vi i] [.blk [.sl 1,vi room,.fn (.func 238) [] []] 322,.row ePg l] (vi (l.getD i.toNat Ee).k) [.blk [.sl 1,vi room,.fn (.func 238) [] []] 322,.row ePg (l.eraseIdx i.toNat)] :=
 so Tryz.f340 3 [.id 0,.id 3] (.ix (n:=i) (i:=i.toNat) (m:=l.length) (e:=(by omega)) (by omega) (.el (e:=ePg) (gDx (l:=l) (i:=i.toNat) Ee (by omega)) (.c [.id 1,.id 0] (Awj l i (IntKind.i64.wrap (i + 1)) room (by first | assumption | omega) (by first | assumption | omega) (Qk ⟨by omega,by omega⟩)) .nil)))
def Tc (l:List Pg) (room:Int) (k:Int) (b:Bk):List Pg:=bif decide (0<=(B0 l k)) then (l.set (B0 l k).toNat (⟨(l.getD (B0 l k).toNat Ee).k,b⟩:Pg)) else (bif decide ((l.length:Int)=room) then ((l.eraseIdx (lgt l l.length).1.toNat) ++ [(⟨k,b⟩:Pg)]) else (l ++ [(⟨k,b⟩:Pg)]))
def A6y (l:List Pg) (room:Int) (k:Int) (b:Bk):Int:=bif decide (0<=(B0 l k)) then 0 else (bif decide ((l.length:Int)=room) then (l.getD (lgt l l.length).1.toNat Ee).k else 0)
def A6z (l:List Pg) (room:Int) (k:Int) (b:Bk):Bool:=bif decide (0<=(B0 l k)) then false else (bif decide ((l.length:Int)=room) then true else false)
theorem B2f (l:List Pg) (room:Int) (k:Int) (b:Bk) (hb:l.length<=256/\1<=room/\(l.length:Int)<=room):Sp P 318 [.pt 0 0,vi k,.ag [vi b.level,vi b.age]] [.blk [.sl 1,vi room,.fn (.func 238) [] []] 322,.row ePg l] (.tu [vi (A6y l room k b),vt (A6z l room k b)]) [.blk [.sl 1,vi room,.fn (.func 238) [] []] 322,.row ePg (Tc l room k b)]:=by
 generalize d0:Tc l room k b=yd0
 unfold Tc at d0
 generalize d1:A6y l room k b=yd1
 unfold A6y at d1
 generalize d2:A6z l room k b=yd2
 unfold A6z at d2
 rcases bft (decide (0<=(B0 l k))) with q1 | q1
 ·rw [A2 q1] at d0 d1 d2
  have q1':=otq q1
  subst d0 d1 d2
  exact so Tryz.f318 4 [.id 0,.id 1] (.c [.id 0,.id 1] (A1f l room k (by first | assumption | omega)) (.t q1 (.ix (n:=(B0 l k)) (i:=(B0 l k).toNat) (m:=l.length) (e:=(by have hx:=Rd (l:=l) (k:=k) (by omega); omega)) (by have hx:=Rd (l:=l) (k:=k) (by omega); omega) (.el (e:=ePg) (gDx (l:=l) (i:=(B0 l k).toNat) Ee (by have hx:=Rd (l:=l) (k:=k) (by omega); omega)) (.sw (e:=ePg) (l:=l) (i:=(B0 l k).toNat) (a:=(⟨(l.getD (B0 l k).toNat Ee).k,b⟩:Pg)) (by have hx:=Rd (l:=l) (k:=k) (by omega); omega) .nil)))))
 ·rw [A1 q1] at d0 d1 d2
  have q1':=ofq q1
  rcases bft (decide ((l.length:Int)=room)) with q2 | q2
  ·rw [A2 q2] at d0 d1 d2
   have q2':=otq q2
   subst d0 d1 d2
   exact so Tryz.f318 6 [.id 0,.id 5] (.c [.id 0,.id 1] (A1f l room k (by first | assumption | omega)) (.t q1 (.t q2 (.c [.id 0,.id 1] (Ayv l room (by first | assumption | omega)) (.c [.id 0,.id 1] (Ags l room (lgt l l.length).1 (by first | assumption | omega) (by have:=An3 l l.length; omega)) (.ap (e:=ePg) (l:=(l.eraseIdx (lgt l l.length).1.toNat)) (l':=[(⟨k,b⟩:Pg)]) .row (.flat [vi k,vi b.level,vi b.age] [(⟨k,b⟩:Pg)] rfl) (by rw [List.length_eraseIdx]; simp only [List.length_cons,List.length_nil]; split <;> omega) .nil))))))
  ·rw [A1 q2] at d0 d1 d2
   have q2':=ofq q2
   subst d0 d1 d2
   exact so Tryz.f318 6 [.id 0,.id 5] (.c [.id 0,.id 1] (A1f l room k (by first | assumption | omega)) (.t q1 (.t q2 (.ap (e:=ePg) (l:=l) (l':=[(⟨k,b⟩:Pg)]) .row (.flat [vi k,vi b.level,vi b.age] [(⟨k,b⟩:Pg)] rfl) (by simp only [List.length_cons,List.length_nil]; omega) .nil))))
def Po (l:List Pg) (room:Int) (k:Int):List Pg:=bif decide ((B0 l k) < 0) then l else (l.eraseIdx (B0 l k).toNat)
def A1e (l:List Pg) (room:Int) (k:Int):Bool:=bif decide ((B0 l k) < 0) then false else true
theorem B18 (l:List Pg) (room:Int) (k:Int) (hb:l.length<=256/\1<=room/\(l.length:Int)<=room):Sp P 347 [.pt 0 0,vi k] [.blk [.sl 1,vi room,.fn (.func 238) [] []] 322,.row ePg l] (vt (A1e l room k)) [.blk [.sl 1,vi room,.fn (.func 238) [] []] 322,.row ePg (Po l room k)]:=by
 generalize d0:Po l room k=yd0
 unfold Po at d0
 generalize d1:A1e l room k=yd1
 unfold A1e at d1
 rcases bft (decide ((B0 l k) < 0)) with q1 | q1
 ·rw [A2 q1] at d0 d1
  have q1':=otq q1
  subst d0 d1
  exact so Tryz.f347 3 [.id 0,.id 1] (.c [.id 0,.id 1] (A1f l room k (by first | assumption | omega)) (.t q1 .nil))
 ·rw [A1 q1] at d0 d1
  have q1':=ofq q1
  subst d0 d1
  exact so Tryz.f347 3 [.id 0,.id 1] (.c [.id 0,.id 1] (A1f l room k (by first | assumption | omega)) (.t q1 (.c [.id 0,.id 1] (Ags l room (B0 l k) (by first | assumption | omega) (Rd (by omega))) .nil)))
theorem Ayx (k:Int) (b:Bk) (r:Rls) :Sp P 300 [vi k,.ag [vi b.level,vi b.age],.pt 0 0] [.ro (.blk [.pt 1 0] 114),.ro (.blk [vi r.rank.limit,vi r.rank.every,vi r.page.limit,vi r.page.every,vi r.room,vi r.heavy,.sl 2,.pt 3 0] 224),.ro (.gone),.ro (.gone)] (.ag [vi (Fj b r.page 1),vi (Gu b r.page 1)]) [.ro (.blk [.pt 1 0] 114),.ro (.blk [vi r.rank.limit,vi r.rank.every,vi r.page.limit,vi r.page.every,vi r.room,vi r.heavy,.sl 2,.pt 3 0] 224),.ro (.gone),.ro (.gone)] :=
 so Tryz.f300 6 (ir 0 4) (.c [] (Ajw b r.page) .nil)
def N2 (r:Rls) (l:List Pg):Nat->List Pg
 | 0=>l
 | i + 1=>(N2 r l i).set i ⟨((N2 r l i).getD i Ee).k,⟨Fj ((N2 r l i).getD i Ee).b r.page 1,Gu ((N2 r l i).getD i Ee).b r.page 1⟩⟩
theorem Mz (r:Rls) (l:List Pg):∀ i,(N2 r l i).length=l.length
 | 0=>rfl
 | i + 1=>by rw [N2,List.length_set,Mz r l i]
theorem Atw (l:List Pg) (room:Int) (r:Rls) (hl:l.length<=100000):Sp P 299 [.pt 0 0,.fn (.func 300) [] [.pt 2 0]] [.blk [.sl 1,vi room,.fn (.func 238) [] []] 322,.row ePg l,.ro (.blk [.pt 3 0] 114),.ro (.blk [vi r.rank.limit,vi r.rank.every,vi r.page.limit,vi r.page.every,vi r.room,vi r.heavy,.sl 4,.pt 0 0] 224),.ro (.gone)] (.tu []) [.blk [.sl 1,vi room,.fn (.func 238) [] []] 322,.row ePg (N2 r l l.length),.ro (.blk [.pt 3 0] 114),.ro (.blk [vi r.rank.limit,vi r.rank.every,vi r.page.limit,vi r.page.every,vi r.room,vi r.heavy,.sl 4,.pt 0 0] 224),.ro (.gone)] :=
 so Tryz.f299 5 (ir 0 5) (.lp l.length 6 [] [] (fun i=>[(11,vn i)]) (fun i=>[(1,.row ePg (N2 r l i))]) (fun i hi=>(.t (sQT ((i:Int) < (l.length:Int)) (by omega)) (.ix (i:=i) (m:=(N2 r l i).length) (by have hu:=Mz r l i; omega) (.el (e:=ePg) (gDx (l:=N2 r l i) (i:=i) Ee (by have hu:=Mz r l i; omega)) (.c (ir 2 3 ++ .id 0 :: []) (Ayx ((N2 r l i).getD i Ee).k ((N2 r l i).getD i Ee).b r) (.ix (i:=i) (m:=(N2 r l i).length) (by have hu:=Mz r l i; omega) (.el (e:=ePg) (gDx (l:=N2 r l i) (i:=i) Ee (by have hu:=Mz r l i; omega)) (.sw (e:=ePg) (l:=N2 r l i) (i:=i) (a:=(⟨((N2 r l i).getD i Ee).k,(⟨Fj ((N2 r l i).getD i Ee).b r.page 1,Gu ((N2 r l i).getD i Ee).b r.page 1⟩:Bk)⟩:Pg)) (by have hu:=Mz r l i; omega) (.e 29 (Ck (a:=(i:Int)) (b:=1) (c:=((i + 1:Nat):Int)) (by omega)) .nil))))))))) (.t (sQF ((l.length:Int) < (l.length:Int)) (by omega)) .nil))
structure LogOk (s:LogS):Prop where
 len:s.l.length<=256
 room:1<=s.room/\(s.l.length:Int)<=s.room
theorem LogOk.le {s:LogS} (h:LogOk s):s.l.length<=100000:=by have:=h.len; omega
theorem Afb (x:Rec) :Sp P 336 [.ag [vi x.seq,vi x.time,vi x.kind,vi x.index,vi x.info]] [] (vt (decide (x.kind=2))) [] :=
 so Tryz.f336 3 [] .nil
theorem An4 (x:Rec) :Sp P 352 [.ag [vi x.seq,vi x.time,vi x.kind,vi x.index,vi x.info]] [] (vt (!(decide (x.kind=2)))) [] :=
 so Tryz.f352 3 [] (.c [] (Afb x) .nil)
def lgw (l:List Rec):Nat:=ff (fun i=>!decide ((l.getD i Pr).kind=2)) l.length
theorem Ay1 {l:List Rec} (h:((lgw l:Nat):Int) < (l.length:Int)):decide ((l.getD (lgw l) Pr).kind=2)=false:=by
 have h:(!decide ((l.getD (lgw l) Pr).kind=2))=true:=U0 (p:=fun i=>!decide ((l.getD i Pr).kind=2)) (n:=l.length) (show lgw l < l.length by omega)
 exact Eq.mp (Bool.not_eq_true' _) h
theorem Ay3 {l:List Rec} {i:Nat} (h:i < lgw l):decide ((l.getD i Pr).kind=2)=true:=by
 have:=Qe (p:=fun i=>!decide ((l.getD i Pr).kind=2)) h
 simpa using this
theorem Ay2 (l:List Rec):lgw l<=l.length:=Qd _ _
def D9 (l:List Rec):Int:=bif decide ((((lgw l):Nat):Int) < (l.length:Int)) then (((lgw l):Nat):Int) else (-1)
theorem Ay4 (l:List Rec) (hl:l.length<=100000):Sp P 351 [.sl 0,.fn (.func 352) [] []] [.ro (.row Kt l)] (vi (D9 l)) [.ro (.row Kt l)]:=by
 have hw:=Ay2 l
 have gd1:∀ (i:Nat) (hi:i < (lgw l)),Good P _ _:=fun i hi=>(.t (sQT ((i:Int) < (l.length:Int)) (by omega)) (.ix (i:=i) (m:=l.length) (by omega) (.el (e:=Kt) (gDx (l:=l) (i:=i) Pr (by omega)) (.c [] (An4 (l.getD i Pr)) (.t (congrArg (!·) (show (decide ((l.getD i Pr).kind=2))=true from Ay3 hi)) (.e 18 (Ck (a:=(i:Int)) (b:=1) (c:=((i + 1:Nat):Int)) (by omega)) .nil))))))
 generalize d0:D9 l=yd0
 unfold D9 at d0
 rcases bft (decide ((((lgw l):Nat):Int) < (l.length:Int))) with q1 | q1
 ·rw [A2 q1] at d0
  have q1':=otq q1
  subst d0
  exact so Tryz.f351 3 [.id 0] (.lp (lgw l) 2 [] [] (fun i=>[(8,vn i)]) (fun i=>[]) gd1 (.t q1 (.ix (i:=(lgw l)) (m:=l.length) (by have hq:=otq q1; omega) (.el (e:=Kt) (gDx (l:=l) (i:=(lgw l)) Pr (by have hq:=otq q1; omega)) (.c [] (An4 (l.getD (lgw l) Pr)) (.t (congrArg (!·) (show (decide ((l.getD (lgw l) Pr).kind=2))=false from Ay1 (otq q1))) .nil))))))
 ·rw [A1 q1] at d0
  have q1':=ofq q1
  subst d0
  exact so Tryz.f351 3 [.id 0] (.lp (lgw l) 2 [] [] (fun i=>[(8,vn i)]) (fun i=>[]) gd1 (.t q1 .nil))
theorem Rx {l:List Rec} (h:¬ (D9 l < 0)):0<=D9 l/\D9 l < (l.length:Int):=by
 unfold D9 at h ⊢
 cases q:decide (((lgw l:Nat):Int) < (l.length:Int))
 ·rw [q] at h; exact absurd (show (-1:Int) < 0 by decide) h
 ·have:=otq q
  exact ⟨Int.natCast_nonneg _,this⟩
theorem Acd (s:LogS) (ok:LogOk s):Sp P 335 [.pt 0 0] (ros (Vj s 0)) (vi (D9 s.l)) (ros (Vj s 0)) :=
 so Tryz.f335 3 [.id 0,.id 1] (.c [.id 1] (Ay4 s.l ok.le) .nil)
def Nq (s:LogS) (x:Rec):LogS:=bif decide ((s.l.length:Int)=s.room) then (bif decide (x.kind=2) then (bif decide ((D9 s.l) < 0) then (⟨s.l,s.room,IntKind.i64.wrap (s.next + 1),true⟩:LogS) else (⟨(s.l.eraseIdx (D9 s.l).toNat) ++ [{ x with seq:=s.next }],s.room,IntKind.i64.wrap (s.next + 1),true⟩:LogS)) else (⟨s.l,s.room,IntKind.i64.wrap (s.next + 1),true⟩:LogS)) else (⟨s.l ++ [{ x with seq:=s.next }],s.room,IntKind.i64.wrap (s.next + 1),s.lost⟩:LogS)
def A5n (s:LogS) (x:Rec):Bool:=bif decide ((s.l.length:Int)=s.room) then (bif decide (x.kind=2) then (bif decide ((D9 s.l) < 0) then false else true) else false) else true
theorem B1x (s:LogS) (x:Rec) (ok:LogOk s):Sp P 315 [.pt 0 0,.ag [vi x.seq,vi x.time,vi x.kind,vi x.index,vi x.info]] (Vj s 0) (.tu [.ag [vi s.next,vi x.time,vi x.kind,vi x.index,vi x.info],vt (A5n s x)]) (Vj (Nq s x) 0):=by
 have h1:=ok.len
 have h2:=ok.room
 generalize d0:Nq s x=yd0
 unfold Nq at d0
 generalize d1:A5n s x=yd1
 unfold A5n at d1
 rcases bft (decide ((s.l.length:Int)=s.room)) with q1 | q1
 ·rw [A2 q1] at d0 d1
  have q1':=otq q1
  rcases bft (decide (x.kind=2)) with q2 | q2
  ·rw [A2 q2] at d0 d1
   have q2':=otq q2
   rcases bft (decide ((D9 s.l) < 0)) with q3 | q3
   ·rw [A2 q3] at d0 d1
    subst d0 d1
    exact so Tryz.f315 4 [.id 0,.id 1] (.t q1 (.c [.id 0,.id 1] (Acd (⟨s.l,s.room,IntKind.i64.wrap (s.next + 1),true⟩:LogS) (⟨ok.len,ok.room⟩)) (.c [] (Afb { x with seq:=s.next }) (.g2 q2 (.g q2 (.t q3 .nil))))))
   ·rw [A1 q3] at d0 d1
    have q3':=ofq q3
    subst d0 d1
    exact so Tryz.f315 8 [.id 0,.id 7] (.t q1 (.c [.id 0,.id 1] (Acd (⟨s.l,s.room,IntKind.i64.wrap (s.next + 1),true⟩:LogS) (⟨ok.len,ok.room⟩)) (.c [] (Afb { x with seq:=s.next }) (.g2 q2 (.g q2 (.t q3 (.c [.id 1,.id 0] (Arm s.l (D9 s.l) (IntKind.i64.wrap ((D9 s.l) + 1)) s.room (IntKind.i64.wrap (s.next + 1)) true (by first | assumption | omega) (Rx (by omega)) (Qk ⟨by have:=Rx (l:=s.l) (by omega); omega,by have:=Rx (l:=s.l) (by omega); omega⟩)) (.ap (e:=Kt) (l:=s.l.eraseIdx (D9 s.l).toNat) (l':=[{ x with seq:=s.next }]) .row (.flat [vi s.next,vi x.time,vi x.kind,vi x.index,vi x.info] [{ x with seq:=s.next }] rfl) (by rw [List.length_eraseIdx]; simp only [List.length_cons,List.length_nil]; split <;> omega) .nil))))))))
  ·rw [A1 q2] at d0 d1
   subst d0 d1
   exact so Tryz.f315 4 [.id 0,.id 1] (.t q1 (.c [.id 0,.id 1] (Acd (⟨s.l,s.room,IntKind.i64.wrap (s.next + 1),true⟩:LogS) (⟨ok.len,ok.room⟩)) (.c [] (Afb { x with seq:=s.next }) (.g2 q2 (.g q2 (.y .nil))))))
 ·rw [A1 q1] at d0 d1
  have q1':=ofq q1
  subst d0 d1
  exact so Tryz.f315 7 [.id 0,.id 6] (.t q1 (.ap (e:=Kt) (l:=s.l) (l':=[{ x with seq:=s.next }]) .row (.flat [vi s.next,vi x.time,vi x.kind,vi x.index,vi x.info] [{ x with seq:=s.next }] rfl) (by simp only [List.length_cons,List.length_nil]; omega) .nil))
def O7 (s:LogS):LogS:=(⟨[],s.room,s.next,false⟩:LogS)
theorem Axx (s:LogS) :Sp P 266 [.pt 0 0] (Vj s 0) (vn s.l.length) (Vj (O7 s) 0) :=
 so Tryz.f266 3 [.id 0,.nil] .nil
theorem A5o (s:LogS) :Sp P 48 [.pt 0 0] (ros (Vj s 0)) (vn s.l.length) (ros (Vj s 0)) :=
 so Tryz.f48 3 [.id 0,.id 1] .nil
theorem Asp {s:LogS} {x:Rec} (h:LogOk s) (hr:s.room<=256):LogOk (Nq s x):=by
 obtain ⟨h1,h2⟩:=h
 unfold Nq
 cases q1:decide ((s.l.length:Int)=s.room)
 ·have q:=ofq q1
  exact ⟨by show (s.l ++ [_]).length<=256; rw [List.length_append]; show s.l.length + 1<=256; omega,by show 1<=s.room/\(((s.l ++ [_]).length:Nat):Int)<=s.room; rw [List.length_append]; show 1<=s.room/\((s.l.length + 1:Nat):Int)<=s.room; omega⟩
 ·cases q2:decide (x.kind=2)
  ·exact ⟨h1,h2⟩
  ·cases q3:decide (D9 s.l < 0)
   ·have q:=ofq q3
    have hx:=Rx q
    have he:(s.l.eraseIdx (D9 s.l).toNat).length=s.l.length - 1:=by rw [List.length_eraseIdx,if_pos (by omega)]
    exact ⟨by show (s.l.eraseIdx _ ++ [_]).length<=256; rw [List.length_append,he]; show s.l.length - 1 + 1<=256; omega,by show 1<=s.room/\(((s.l.eraseIdx _ ++ [_]).length:Nat):Int)<=s.room; rw [List.length_append,he]; show 1<=s.room/\((s.l.length - 1 + 1:Nat):Int)<=s.room; omega⟩
   ·exact ⟨h1,h2⟩
theorem Aih {s:LogS} (h:LogOk s):LogOk (O7 s):=⟨Nat.zero_le _,by have:=h.room; show 1<=s.room/\((0:Nat):Int)<=s.room; omega⟩
structure TrkOk (s:TrkS):Prop where
 pg:s.pages.length<=256/\1<=s.r.room/\(s.pages.length:Int)<=s.r.room
 rk:s.ranks.length<=8
def Cb (r:Rls):Bool:=bif (Fp r.rank) then (bif (Fp r.page) then (bif decide (1<=r.room) then (bif decide (r.room<=256) then (bif decide (1<=r.heavy) then (decide (r.heavy<=65536)) else false) else false) else false) else false) else false
theorem Pj (r:Rls) :Sp P 134 [.ag [vi r.rank.limit,vi r.rank.every,vi r.page.limit,vi r.page.every,vi r.room,vi r.heavy]] [] (vt (Cb r)) []:=by
 generalize d0:Cb r=yd0
 unfold Cb at d0
 rcases bft (Fp r.rank) with q1 | q1
 ·rw [A2 q1] at d0
  rcases bft (Fp r.page) with q2 | q2
  ·rw [A2 q2] at d0
   rcases bft (decide (1<=r.room)) with q3 | q3
   ·rw [A2 q3] at d0
    rcases bft (decide (r.room<=256)) with q4 | q4
    ·rw [A2 q4] at d0
     rcases bft (decide (1<=r.heavy)) with q5 | q5
     ·rw [A2 q5] at d0
      subst d0
      exact so Tryz.f134 3 [] (.c [] (Hl r.rank) (.t2 q1 (.t q1 (.c [] (Hl r.page) (.t q1 (.t4 q2 (.t4 q3 (.t4 q4 (.t4 q5 .nil)))))))))
     ·rw [A1 q5] at d0
      subst d0
      exact so Tryz.f134 3 [] (.c [] (Hl r.rank) (.t2 q1 (.t q1 (.c [] (Hl r.page) (.t q1 (.t4 q2 (.t4 q3 (.t4 q4 (.t4 q5 .nil)))))))))
    ·rw [A1 q4] at d0
     subst d0
     exact so Tryz.f134 3 [] (.c [] (Hl r.rank) (.t2 q1 (.t q1 (.c [] (Hl r.page) (.t q1 (.t4 q2 (.t4 q3 (.t4 q4 (.n4 .nil)))))))))
   ·rw [A1 q3] at d0
    subst d0
    exact so Tryz.f134 3 [] (.c [] (Hl r.rank) (.t2 q1 (.t q1 (.c [] (Hl r.page) (.t q1 (.t4 q2 (.t4 q3 (.n8 .nil))))))))
  ·rw [A1 q2] at d0
   subst d0
   exact so Tryz.f134 3 [] (.c [] (Hl r.rank) (.t2 q1 (.t q1 (.c [] (Hl r.page) (.t q1 (.t4 q2 (.n8 (.n4 .nil))))))))
 ·rw [A1 q1] at d0
  subst d0
  exact so Tryz.f134 3 [] (.c [] (Hl r.rank) (.t4 q1 (.n8 (.n8 .nil))))
def Ix (s:TrkS) (k:Int):Bool:=bif decide (0<=k) then (decide (k < (s.ranks.length:Int))) else false
theorem Amw (s:TrkS) (k:Int) :Sp P 223 [.pt 0 0,vi k] (ros (Th s 0)) (vt (Ix s k)) (ros (Th s 0)):=by
 generalize d0:Ix s k=yd0
 unfold Ix at d0
 rcases bft (decide (0<=k)) with q1 | q1
 ·rw [A2 q1] at d0
  subst d0
  exact so Tryz.f223 3 (ir 0 4) (.t4 q1 (.t4 q1 .nil))
 ·rw [A1 q1] at d0
  subst d0
  exact so Tryz.f223 3 (ir 0 4) (.t4 q1 (.t4 q1 .nil))
theorem Amx {s:TrkS} {k:Int} (h:Ix s k=true):0<=k/\k < (s.ranks.length:Int):=by
 unfold Ix at h; revert h; cases q:decide (0<=k) <;> simp_all
def Cw (s:TrkS) (k:Int) (g:Int) (n:Int):TrkS:=bif (Ix s k) then (bif decide (n < 0) then s else (⟨s.r,(s.ranks.set k.toNat (⟨K8 (s.ranks.getD k.toNat Mk) s.r.rank n,(s.ranks.getD k.toNat Mk).age⟩:Bk)),(Tc s.pages s.r.room g (⟨(K8 (⟨Pp s.pages s.r.room g,M3 s.pages s.r.room g⟩:Bk) s.r.page n),M3 s.pages s.r.room g⟩:Bk))⟩:TrkS)) else s
def Hv (s:TrkS) (k:Int) (g:Int) (n:Int):Bool:=bif (Ix s k) then (bif decide (n < 0) then false else (Nw (s.ranks.getD k.toNat Mk) s.r.rank n)) else false
def Hw (s:TrkS) (k:Int) (g:Int) (n:Int):Bool:=bif (Ix s k) then (bif decide (n < 0) then false else (Nw (⟨Pp s.pages s.r.room g,M3 s.pages s.r.room g⟩:Bk) s.r.page n)) else false
def A01 (s:TrkS) (k:Int) (g:Int) (n:Int):Nat:=bif (Ix s k) then (bif decide (n < 0) then 12 else 0) else 12
theorem Auw (s:TrkS) (k:Int) (g:Int) (n:Int) (ok:TrkOk s):Sp P 296 [.pt 0 0,vi k,vi g,vi n] (Th s 0) (.tu [.ag [vt (Hv s k g n),vt (Hw s k g n)],vn (A01 s k g n)]) (Th (Cw s k g n) 0):=by
 generalize d0:Cw s k g n=yd0
 unfold Cw at d0
 generalize d1:Hv s k g n=yd1
 unfold Hv at d1
 generalize d2:Hw s k g n=yd2
 unfold Hw at d2
 generalize d3:A01 s k g n=yd3
 unfold A01 at d3
 rcases bft (Ix s k) with q1 | q1
 ·rw [A2 q1] at d0 d1 d2 d3
  have q1':=Amx q1
  rcases bft (decide (n < 0)) with q2 | q2
  ·rw [A2 q2] at d0 d1 d2 d3
   subst d0 d1 d2 d3
   exact so Tryz.f296 3 (ir 0 4) (.c (ir 0 4) (Amw s k) (.g2 q1 (.g q1 (.t q2 .nil))))
  ·rw [A1 q2] at d0 d1 d2 d3
   have q2':=ofq q2
   subst d0 d1 d2 d3
   exact so Tryz.f296 12 (ir 0 4) (.c (ir 0 4) (Amw s k) (.g2 q1 (.g q1 (.t q2 (.ix (n:=k) (i:=k.toNat) (m:=s.ranks.length) (e:=(by omega)) (by omega) (.el (e:=eBk) (gDx (l:=s.ranks) (i:=k.toNat) Mk (by omega)) (.c [] (Ajv (s.ranks.getD k.toNat Mk) s.r.rank n) (.ix (n:=k) (i:=k.toNat) (m:=s.ranks.length) (e:=(by omega)) (by omega) (.sw (e:=eBk) (l:=s.ranks) (i:=k.toNat) (a:=(⟨K8 (s.ranks.getD k.toNat Mk) s.r.rank n,(s.ranks.getD k.toNat Mk).age⟩:Bk)) (by omega) (.c [.id 2,.id 3] (B2e s.pages s.r.room g (Nat.le_trans ok.pg.1 (by decide))) (.c [] (Ajv (⟨Pp s.pages s.r.room g,M3 s.pages s.r.room g⟩:Bk) s.r.page n) (.c [.id 2,.id 3] (B2f s.pages s.r.room g (⟨(K8 (⟨Pp s.pages s.r.room g,M3 s.pages s.r.room g⟩:Bk) s.r.page n),M3 s.pages s.r.room g⟩:Bk) ok.pg) .nil))))))))))))
 ·rw [A1 q1] at d0 d1 d2 d3
  subst d0 d1 d2 d3
  exact so Tryz.f296 3 (ir 0 4) (.c (ir 0 4) (Amw s k) (.g2 q1 (.g q1 (.y .nil))))
def Gj (s:TrkS) (k:Int):TrkS:=bif (Ix s k) then { s with ranks:=s.ranks.set k.toNat (⟨0,0⟩:Bk) } else s
theorem Axv (s:TrkS) (k:Int) :Sp P 329 [.pt 0 0,vi k] (Th s 0) (.tu []) (Th (Gj s k) 0):=by
 generalize d0:Gj s k=yd0
 unfold Gj at d0
 rcases bft (Ix s k) with q1 | q1
 ·rw [A2 q1] at d0
  have q1':=Amx q1
  subst d0
  exact so Tryz.f329 3 (ir 0 4) (.c (ir 0 4) (Amw s k) (.t q1 (.ix (n:=k) (i:=k.toNat) (m:=s.ranks.length) (e:=(by omega)) (by omega) (.sw (e:=eBk) (l:=s.ranks) (i:=k.toNat) (a:=(⟨0,0⟩:Bk)) (by omega) .nil))))
 ·rw [A1 q1] at d0
  subst d0
  exact so Tryz.f329 3 (ir 0 4) (.c (ir 0 4) (Amw s k) (.t q1 .nil))
def Y6 (s:TrkS) (k:Int):TrkS:={ s with pages:=Po s.pages s.r.room k }
theorem B02 (s:TrkS) (k:Int) (ok:TrkOk s):Sp P 328 [.pt 0 0,vi k] (Th s 0) (.tu []) (Th (Y6 s k) 0) :=
 so Tryz.f328 3 (ir 0 4) (.c [.id 2,.id 3] (B18 s.pages s.r.room k ok.pg) .nil)
def rkT (r:Rls) (l:List Bk):Nat->List Bk
 | 0=>l
 | i + 1=>(rkT r l i).set i ⟨Fj ((rkT r l i).getD i Mk) r.rank 1,Gu ((rkT r l i).getD i Mk) r.rank 1⟩
theorem Ko (r:Rls) (l:List Bk):∀ i,(rkT r l i).length=l.length
 | 0=>rfl
 | i + 1=>by rw [rkT,List.length_set,Ko r l i]
def Lo (s:TrkS):TrkS:=(⟨s.r,rkT s.r s.ranks s.ranks.length,N2 s.r s.pages s.pages.length⟩:TrkS)
theorem B04 (s:TrkS) (ok:TrkOk s):Sp P 263 [.pt 0 0] (Th s 0) (.tu []) (Th (Lo s) 0):=by
 have hk:=ok.rk
 generalize d0:Lo s=yd0
 unfold Lo at d0
 subst d0
 exact so Tryz.f263 6 (ir 0 4) (.lp s.ranks.length 6 [] [] (fun i=>[(9,vn i)]) (fun i=>[(1,.row eBk (rkT s.r s.ranks i))]) (fun i hi=>(.t (sQT ((i:Int) < (s.ranks.length:Int)) (by omega)) (.ix (i:=i) (m:=(rkT s.r s.ranks i).length) (by have hu:=Ko s.r s.ranks i; omega) (.el (e:=eBk) (gDx (l:=rkT s.r s.ranks i) (i:=i) Mk (by have hu:=Ko s.r s.ranks i; omega)) (.c [] (Ajw ((rkT s.r s.ranks i).getD i Mk) s.r.rank) (.ix (i:=i) (m:=(rkT s.r s.ranks i).length) (by have hu:=Ko s.r s.ranks i; omega) (.sw (e:=eBk) (l:=rkT s.r s.ranks i) (i:=i) (a:=(⟨Fj ((rkT s.r s.ranks i).getD i Mk) s.r.rank 1,Gu ((rkT s.r s.ranks i).getD i Mk) s.r.rank 1⟩:Bk)) (by have hu:=Ko s.r s.ranks i; omega) (.e 27 (Ck (a:=(i:Int)) (b:=1) (c:=((i + 1:Nat):Int)) (by omega)) .nil)))))))) (.t (sQF ((s.ranks.length:Int) < (s.ranks.length:Int)) (by omega)) (.c [.id 2,.id 3,.id 5,.id 0,.id 1] (Atw s.pages s.r.room s.r (Nat.le_trans ok.pg.1 (by decide))) .nil)))
