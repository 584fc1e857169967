/- For every input the Go function ControlBegins returns true. -/
import Derived.Test.YtfhiggfmkjmeiaaGreatF22d
import Derived.Test.YtfhiggfmkjmeiaaGreatOpenG
import Derived.Test.YtfhiggfmkjmeiaaGreatOpenJ
import Derived.Test.YtfhiggfmkjmeiaaGreatJoinJ
import Derived.Lib.Hide
set_option linter.all false
namespace Go.Proofs.YtfhiggfmkjmeiaaGreat.controlBegins
open Go.ChangeShapes Go.WideShapes Go.ChangeAt Go.RowKit
theorem walk (c:Cfg) (g:Gm) (m:Int) (n:Int) (w:World) :
 Calls Tryz.prog 6 #[.agg (V.flat ρN (Xq c)).toArray,.agg (V.flat ρN (gmV g)).toArray,.int .i64 m,.int .i64 n] w fun e w'=>e=.returned (.bool true)/\Below w.heap.size w w':=by
 have h:=Ii c g m n
 have h1:=h.nil w ρN
 have e2:(V.dens ρN [.ag (Xq c),.ag (gmV g),vi m,vi n]).toArray=#[.agg (V.flat ρN (Xq c)).toArray,.agg (V.flat ρN (gmV g)).toArray,.int .i64 m,.int .i64 n]:=by
  rw [V.dens,V.dens,V.dens,V.dens,V.dens,A4i,Jt] <;> rfl
 rw [← e2]; exact h1
theorem own:ownKnob Tryz.prog.godebug=none:=by kernel_rfl
set_option maxRecDepth 100000 in
theorem lifted (os:Os) (started:os.Started) (H:Type) (enc:TypeId × Value->H) :
 ReturnsInHanded {} Tryz.checked os 6 .any (Rows.controlBeginsSpec.pre6 enc Tryz.prog Tryz.f6 Rows.controlBeginsRow.domain false) (Rows.controlBeginsSpec.post enc Tryz.prog Tryz.f6 false true false false):=by
 refine returnsInHanded_of_change (C:=Tryz.checked) own started (by kernel_rfl) Tryz.func6
  (ChangeSpec.witness6 (enc:=enc) (C:=Tryz.checked) false ⟨#[],#[.agg #[.int .i64 0,.int .i64 0,.int .i64 0,.int .i64 0,.int .i64 0,.int .i64 0,.int .i64 0,.int .i64 0,.int .i64 0,.int .i64 0,.int .i64 0,.int .i64 0,.int .i64 0,.int .i64 0,.int .i64 0,.bool false],.agg #[.int .i64 0,.int .i64 0,.int .i64 0,.int .i64 0,.int .i64 0],.int .i64 0,.int .i64 0],[]⟩ 8 (by kernel_rfl) (by kernel_rfl) (by kernel_rfl) (by kernel_rfl)) ?_
 intro W base args ds gs before hval0 hW hcnd _
 have hval:∀ (j:Nat) t v,Tryz.f6.params[j]?=some t->args[j]?=some v->Value.okWide Tryz.prog W .any base t v:=hval0
 have hW':=hW
 obtain ⟨p,q,hA0,hV,rfl,hfz,hnd⟩:=hW
 have hA:DataW.TrodAll enc Tryz.prog W 0 (fun _=>true) true Tryz.f6.params.toList args.toList ds p:=hA0
 rw [Tryz.params6] at hA hval
 obtain ⟨v0,vs0,d0,ds0,p0,q0,hargs,rfl,rfl,h0,r0⟩:=trodAll_cons hA
 obtain ⟨v1,vs1,d1,ds1,p1,q1,rfl,rfl,rfl,h1,r1⟩:=trodAll_cons r0
 obtain ⟨v2,vs2,d2,ds2,p2,q2,rfl,rfl,rfl,h2,r2⟩:=trodAll_cons r1
 obtain ⟨v3,vs3,d3,ds3,p3,q3,rfl,rfl,rfl,h3,r3⟩:=trodAll_cons r2
 obtain ⟨rfl,rfl,rfl⟩:=trodAll_nil r3
 obtain rfl:args=#[v0,v1,v2,v3]:=by cases args; simp_all
 obtain ⟨rfl,rfl⟩:=trodVars_none hV
 have k0:=h0
 have lt0:∀ x ∈ p0,x.block < W.heap.size:=by obtain ⟨m,hm⟩:=k0; exact DataW.trod_lt m _ _ _ hm
 obtain ⟨cs0,rfl,fit0⟩:=Qt 6 Aoe Tryz.underlying31 (hval 0 31 v0 rfl rfl) h0
 obtain ⟨c0,rfl⟩:=Q3 fit0
 have k1:=h1
 have lt1:∀ x ∈ p1,x.block < W.heap.size:=by obtain ⟨m,hm⟩:=k1; exact DataW.trod_lt m _ _ _ hm
 obtain ⟨cs1,rfl,fit1⟩:=Qt 6 M1 Tryz.underlying23 (hval 1 23 v1 rfl rfl) h1
 obtain ⟨c1,rfl⟩:=Dq fit1
 obtain ⟨z2,rfl,rfl,rfl,w2⟩:=open_int Tryz.underlying3 (hval 2 3 v2 rfl rfl) h2
 obtain ⟨z3,rfl,rfl,rfl,w3⟩:=open_int Tryz.underlying3 (hval 3 3 v3 rfl rfl) h3
 clear hA0 hval0
 refine (walk c0 c1 z2 z3 W).mono fun e W' ⟨he,bel⟩=>?_
 subst he
 exact ⟨_,rfl,_,_,_,[],_,[],hW',trodAll_mk1 (shut_bool Tryz.underlying4 _),(trodAll_cons_mk (Below.trod Ub (by kernel_rfl) (otq (by kernel_rfl)) k0 bel lt0) (trodAll_cons_mk (Below.trod Ub (by kernel_rfl) (otq (by kernel_rfl)) k1 bel lt1) (trodAll_cons_mk (shut_int Tryz.underlying3 w2) (trodAll_cons_mk (shut_int Tryz.underlying3 w3) trodAll_mk0)))),rfl,bel.frame _,fun h=>by cases h⟩
theorem j1:(Rows.controlBeginsRow.inPlace == Tryz.prog.inPlace 6)=true:=by kernel_rfl
theorem j2:(Rows.controlBeginsRow.unfollowed == Tryz.prog.unfollowed 6)=true:=by kernel_rfl
theorem j3:(Rows.controlBeginsRow.recurses == Tryz.prog.recurses 6)=true:=by kernel_rfl
theorem j4:(Rows.controlBeginsRow.named == Tryz.prog.varsNamed 6)=true:=by kernel_rfl
theorem j6:Tryz.prog.plainKeys=Rows.controlBeginsRow.plainKeys:=by kernel_rfl
theorem j7:Tryz.prog.liftsFinal=Rows.controlBeginsRow.lifted:=by kernel_rfl
theorem j8:Tryz.prog.make=some Rows.controlBeginsRow.make:=by kernel_rfl
theorem j5:((Rows.controlBeginsRow.wf (OpenSpec.ofChange Rows.controlBeginsSpec) && Tryz.f6.params.all (Tryz.prog.readableRec ·) && namedTie Tryz.prog Rows.controlBeginsRow.named Rows.controlBeginsSpec.vars && (Rows.controlBeginsRow.stops == []) && (Tryz.prog.stops == []) && (Rows.controlBeginsRow.knobs == []) && (Tryz.prog.stopKnobs == [])))=true:=by kernel_rfl
theorem joined:joinedFacts Tryz.prog 6 Tryz.f6 Rows.controlBeginsSpec Rows.controlBeginsRow=true:=by
 have h:=j5
 simp only [bq] at h
 unfold joinedFacts
 refine Ao (Ao (Ao (Ao (Ao (Ao (Ao (Ao (Ao (Ao (Ao (Ao (Ao (Ao (Ao (Ao (Ao (Ao (Ao (Ao (Ao (Ao (Ao (Ao (Ao (Ao (Ao (Ao (Ao (Ao (Ao h.1.1.1.1.1.1 Ub) Aca) h.1.1.1.1.1.2) h.1.1.1.1.2) h.1.1.1.2) h.1.1.2) h.1.2) h.2) j1) j2) j3) j4) ?_) ?_) ?_) ?_) ?_) ?_) ?_) ?_) ?_) (Ahq j6)) ?_) Ac9) Ac8) (Ahq j7)) (by rw [j8]; exact beq_self_eq_true _)) ?_) ?_) ?_) ?_
 all_goals kernel_rfl
theorem over:Rows.controlBeginsRow.holds Tryz.pinned (OpenSpec.ofChange Rows.controlBeginsSpec) :=
 OpenClaim.holds_of_wide 6 Tryz.f6 rfl rfl rfl rfl rfl rfl rfl ⟨rfl,rfl,rfl,rfl,rfl⟩ rfl rfl rfl rfl rfl (by kernel_rfl) Tryz.func6 joined
  (otq (by kernel_rfl)) (by unfold Func.isWrapper; first | (rw [if_pos (by decide +kernel)]; kernel_rfl) | (rw [if_neg (by decide +kernel)]; exact ⟨rfl,rfl⟩))
  (fun os started H enc _=>lifted os started H enc)
theorem proved:Rows.ControlBeginsSaid:=over
#print axioms proved
end Go.Proofs.YtfhiggfmkjmeiaaGreat.controlBegins
