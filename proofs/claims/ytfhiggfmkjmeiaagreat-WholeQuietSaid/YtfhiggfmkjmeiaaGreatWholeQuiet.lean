/- For every input the Go function WholeQuiet returns true. -/
import Derived.Test.YtfhiggfmkjmeiaaGreatFQu
import Derived.Test.YtfhiggfmkjmeiaaGreatOpenJ
import Derived.Test.YtfhiggfmkjmeiaaGreatJoinJ
import Derived.Lib.Hide
set_option linter.all false
namespace Go.Proofs.YtfhiggfmkjmeiaaGreat.wholeQuiet
open Go.ChangeShapes Go.WideShapes Go.ChangeAt Go.RowKit
theorem walk (c:Cfg) (l:List Stp) (hl:∀ x ∈ l,StpOk x) (v:Value) (w:World) (hv:Ah8 Sy l w v) :
 Calls Tryz.prog 12 #[.agg (V.flat ρN (Xq c)).toArray,v] w fun e w'=>e=.returned (.bool true)/\Below w.heap.size w w':=by
 have h:=quiet c l hl
 rw [Ati hl] at h
 obtain ⟨ρ,e,h1⟩:=h.one hv
 have e2:(V.dens ρ [.ag (Xq c),.sl 0]).toArray=#[.agg (V.flat ρN (Xq c)).toArray,v]:=by
  rw [V.dens,V.dens,V.dens,A4i,show V.den ρ (.sl 0)=v from e] <;> rfl
 rw [← e2]; exact h1
theorem own:ownKnob Tryz.prog.godebug=none:=by kernel_rfl
set_option maxRecDepth 100000 in
theorem lifted (os:Os) (started:os.Started) (H:Type) (enc:TypeId × Value->H) :
 ReturnsInHanded {} Tryz.checked os 12 .any (Rows.wholeQuietSpec.pre6 enc Tryz.prog Tryz.f12 Rows.wholeQuietRow.domain false) (Rows.wholeQuietSpec.post enc Tryz.prog Tryz.f12 false true false false):=by
 refine returnsInHanded_of_change (C:=Tryz.checked) own started (by kernel_rfl) Tryz.func12
  (ChangeSpec.witness6 (enc:=enc) (C:=Tryz.checked) false ⟨#[],#[.agg #[.int .i64 0,.int .i64 0,.int .i64 0,.int .i64 0,.int .i64 0,.int .i64 0,.int .i64 0,.int .i64 0,.int .i64 0,.int .i64 0,.int .i64 0,.int .i64 0,.int .i64 0,.int .i64 0,.int .i64 0,.bool false],.slice none 0 0],[]⟩ 8 (by kernel_rfl) (by kernel_rfl) (by kernel_rfl) (by kernel_rfl)) ?_
 intro W base args ds gs before hval0 hW hcnd _
 have hval:∀ (j:Nat) t v,Tryz.f12.params[j]?=some t->args[j]?=some v->Value.okWide Tryz.prog W .any base t v:=hval0
 have hW':=hW
 obtain ⟨p,q,hA0,hV,rfl,hfz,hnd⟩:=hW
 have hA:DataW.TrodAll enc Tryz.prog W 0 (fun _=>true) true Tryz.f12.params.toList args.toList ds p:=hA0
 rw [Tryz.params12] at hA hval
 obtain ⟨v0,vs0,d0,ds0,p0,q0,hargs,rfl,rfl,h0,r0⟩:=trodAll_cons hA
 obtain ⟨v1,vs1,d1,ds1,p1,q1,rfl,rfl,rfl,h1,r1⟩:=trodAll_cons r0
 obtain ⟨rfl,rfl,rfl⟩:=trodAll_nil r1
 obtain rfl:args=#[v0,v1]:=by cases args; simp_all
 obtain ⟨rfl,rfl⟩:=trodVars_none hV
 have k0:=h0
 have lt0:∀ x ∈ p0,x.block < W.heap.size:=by obtain ⟨m,hm⟩:=k0; exact DataW.trod_lt m _ _ _ hm
 obtain ⟨cs0,rfl,fit0⟩:=Qt 6 Aoe Tryz.underlying31 (hval 0 31 v0 rfl rfl) h0
 obtain ⟨c0,rfl⟩:=Q3 fit0
 have k1:=h1
 have lt1:∀ x ∈ p1,x.block < W.heap.size:=by obtain ⟨m,hm⟩:=k1; exact DataW.trod_lt m _ _ _ hm
 obtain ⟨a1,len1,cap1,rows1,rfl,hl1,hm1,hn1,hr1⟩:=Jt 6 Tryz.underlying32 Ad0 (show Tryz.prog.cellsOf 50=Ra.length by kernel_rfl) (hval 1 32 v1 rfl rfl) h1
 obtain ⟨xs1,hlx1,hx,hro⟩:=T7 hr1 hl1 hn1
 clear hA0 hval0
 refine (walk c0 xs1 hx _ W hro).mono fun e W' ⟨he,bel⟩=>?_
 subst he
 exact ⟨_,rfl,_,_,_,[],_,[],hW',trodAll_mk1 (shut_bool Tryz.underlying4 _),(trodAll_cons_mk (Below.trod Ub (by kernel_rfl) (otq (by kernel_rfl)) k0 bel lt0) (trodAll_cons_mk (Below.trod Ub (by kernel_rfl) (otq (by kernel_rfl)) k1 bel lt1) trodAll_mk0)),rfl,bel.frame _,fun h=>by cases h⟩
theorem j1:(Rows.wholeQuietRow.inPlace == Tryz.prog.inPlace 12)=true:=by kernel_rfl
theorem j2:(Rows.wholeQuietRow.unfollowed == Tryz.prog.unfollowed 12)=true:=by kernel_rfl
theorem j3:(Rows.wholeQuietRow.recurses == Tryz.prog.recurses 12)=true:=by kernel_rfl
theorem j4:(Rows.wholeQuietRow.named == Tryz.prog.varsNamed 12)=true:=by kernel_rfl
theorem j6:Tryz.prog.plainKeys=Rows.wholeQuietRow.plainKeys:=by kernel_rfl
theorem j7:Tryz.prog.liftsFinal=Rows.wholeQuietRow.lifted:=by kernel_rfl
theorem j8:Tryz.prog.make=some Rows.wholeQuietRow.make:=by kernel_rfl
theorem j5:((Rows.wholeQuietRow.wf (OpenSpec.ofChange Rows.wholeQuietSpec) && Tryz.f12.params.all (Tryz.prog.readableRec ·) && namedTie Tryz.prog Rows.wholeQuietRow.named Rows.wholeQuietSpec.vars && (Rows.wholeQuietRow.stops == []) && (Tryz.prog.stops == []) && (Rows.wholeQuietRow.knobs == []) && (Tryz.prog.stopKnobs == [])))=true:=by kernel_rfl
theorem joined:joinedFacts Tryz.prog 12 Tryz.f12 Rows.wholeQuietSpec Rows.wholeQuietRow=true:=by
 have h:=j5
 simp only [bq] at h
 unfold joinedFacts
 refine Ao (Ao (Ao (Ao (Ao (Ao (Ao (Ao (Ao (Ao (Ao (Ao (Ao (Ao (Ao (Ao (Ao (Ao (Ao (Ao (Ao (Ao (Ao (Ao (Ao (Ao (Ao (Ao (Ao (Ao (Ao h.1.1.1.1.1.1 Ub) Aca) h.1.1.1.1.1.2) h.1.1.1.1.2) h.1.1.1.2) h.1.1.2) h.1.2) h.2) j1) j2) j3) j4) ?_) ?_) ?_) ?_) ?_) ?_) ?_) ?_) ?_) (Ahq j6)) ?_) Ac9) Ac8) (Ahq j7)) (by rw [j8]; exact beq_self_eq_true _)) ?_) ?_) ?_) ?_
 all_goals kernel_rfl
theorem over:Rows.wholeQuietRow.holds Tryz.pinned (OpenSpec.ofChange Rows.wholeQuietSpec) :=
 OpenClaim.holds_of_wide 12 Tryz.f12 rfl rfl rfl rfl rfl rfl rfl ⟨rfl,rfl,rfl,rfl,rfl⟩ rfl rfl rfl rfl rfl (by kernel_rfl) Tryz.func12 joined
  (otq (by kernel_rfl)) (by unfold Func.isWrapper; first | (rw [if_pos (by decide +kernel)]; kernel_rfl) | (rw [if_neg (by decide +kernel)]; exact ⟨rfl,rfl⟩))
  (fun os started H enc _=>lifted os started H enc)
theorem proved:Rows.WholeQuietSaid:=over
#print axioms proved
end Go.Proofs.YtfhiggfmkjmeiaaGreat.wholeQuiet
