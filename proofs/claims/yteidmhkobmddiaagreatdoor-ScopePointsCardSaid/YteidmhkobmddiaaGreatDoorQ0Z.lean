/-
  Merged by program: XScProof.
-/
import Derived.Test.YteidmhkobmddiaaGreatDoorQ0t
import Derived.Carry
set_option linter.unusedSimpArgs false
set_option maxRecDepth 100000
set_option maxHeartbeats 8000000
namespace Go.Proofs.YteidmhkobmddiaaGreatDoor
open Go Go.RowKit Go.Q Go.ChangeShapes Go.WideShapes Go.ChangeAt
theorem env_of {W:World}(h:laidMetH Tryz.prog laidL W)(hs:W.ShapedOpen Tryz.prog):Env W:=by
 obtain⟨h1,h2,h3⟩:=laid_facts h hs
 refine⟨h1,h2,h3,?_⟩
 have l1:=World.block_lt_of_cell? W _ (h1.1 0 (by decide));have l2:=World.block_lt_of_cell? W _ (h1.2 0 (by decide)).1;have l3:=World.block_lt_of_cell? W _ (h2.cell (by kernel_rfl:Tryz.prog.globalNamed "internal/strconv.uint64pow10" = some 1) 0 (by rw[Lib.pow10Tab_length];decide));obtain⟨m,hm⟩:=h3
 have l4:=World.block_lt_of_cell? W _ hm;simp only at l1 l2 l3 l4
 unfold gLim;omega
theorem spoints_lifted (os:Os)(started:os.Started)(H:Type)(enc:TypeId × Value→H) :
  ReturnsInHanded {} Tryz.checked os 5 .any (fun w args=>(Rows.scopePointsSpec.pre enc Tryz.prog Tryz.f5 [] false w args∧laidMetH Tryz.prog laidL w)∧sizedMet enc Tryz.prog Tryz.f5 (OpenSpec.ofChange Rows.scopePointsSpec) false w args)
   (Rows.scopePointsSpec.post enc Tryz.prog Tryz.f5 false true false false):=by
 refine handed_both (C:=Tryz.checked) (X:=fun w _=>laidMetH Tryz.prog laidL w) (fun _ _ _ hh h=>h.of_heap hh) ownP started (by kernel_rfl) Tryz.func5
  (ChangeSpec.witness_shaped (enc:=enc) (C:=Tryz.checked) (os:=os) (X:=fun w _=>laidMetH Tryz.prog laidL w) false (World.laidAll Tryz.prog os laidL) #[.agg #[.bool false,.slice none 0 0,.slice none 0 0,.slice none 0 0,.int .i64 0,.int .i64 0,.slice none 0 0,.slice none 0 0,.slice none 0 0,.slice none 0 0],.agg #[.slice none 0 0,.slice none 0 0,.slice none 0 0,.bool false,.int .i64 0,.slice none 0 0,.slice none 0 0,.slice none 0 0,.bool false]] 8 (World.laidAll_os _ _ _)
    (laid_shaped os _) (by kernel_rfl) (by kernel_rfl) (by kernel_rfl) (laid_world os _)) ?_
 intro W base args ds gs before hval0 hW hL hS;have hval:∀ (j:Nat) t v,Tryz.f5.params[j]? = some t→args[j]? = some v→Value.okWide Tryz.prog W .any base t v:=hval0;have hW':=hW;obtain⟨p,q,hA0,hV,rfl,_,_⟩:=hW
 have hA:DataW.TrodAll enc Tryz.prog W 0 (fun _=>true) true Tryz.f5.params.toList args.toList ds p:=hA0;rw[Tryz.params5]at hA hval
 obtain⟨v0,v1,d0,d1,p0,p1,rfl,rfl,rfl,h0,h1⟩:=trodAll_two hA
 obtain⟨rfl,rfl⟩:=trodVars_none hV
 obtain⟨cs,rfl,-⟩:=okWide_struct Tryz.underlying82 (hval 0 82 v0 rfl rfl)
 obtain⟨ds2,rfl,-⟩:=okWide_struct Tryz.underlying85 (hval 1 85 v1 rfl rfl)
 have k0:=h0;have k1:=h1;have lt0:∀ x∈p0,x.block<W.heap.size:=by obtain⟨m,hm⟩:=k0;exact DataW.trod_lt m _ _ _ hm
 have lt1:∀ x∈p1,x.block<W.heap.size:=by obtain⟨m,hm⟩:=k1;exact DataW.trod_lt m _ _ _ hm
 obtain⟨m0,e0⟩:=h0
 obtain⟨m1,e1⟩:=h1
 obtain⟨ya,u1,u2,u3,u4,u5,u6,u7,q0,ha⟩:=rd_cert e0
 obtain rfl:cs=#[.bool ya.below,u1,u2,u3,.int .i64 ya.t0,.int .i64 ya.t1,u4,u5,u6,u7]:=by
  apply Array.toList_inj.1
  have q:cs.toList=[.bool ya.below,u1,u2,u3,.int .i64 ya.t0,.int .i64 ya.t1,u4,u5,u6,u7]:=by simpa [Value.cells] using q0
  rw[q]
 obtain⟨yb,t1,t2,t3,t4,t5,t6,q1,hb⟩:=rd_view e1
 obtain rfl:ds2=#[t1,t2,t3,.bool yb.au,.int .i64 yb.pa,t4,t5,t6,.bool yb.nc]:=by
  apply Array.toList_inj.1
  have q:ds2.toList=[t1,t2,t3,.bool yb.au,.int .i64 yb.pa,t4,t5,t6,.bool yb.nc]:=by simpa [Value.cells] using q1
  rw[q]
 clear hA0 hval0;refine(scWalk_any _ _ _ _ _ _ _ ya yb W ⟨_,_,_,_,_,_,_,rfl,ha⟩ hb (env_of hL hS)).mono fun e W' ⟨he,F⟩=>?_
 subst he;have bel:Below W.heap.size W W':=F.below (Nat.le_refl _) (fun _ _ h=>h);exact⟨_,rfl,_,_,_,[],_,[],hW',trodAll_mk1 (shut_bool Tryz.underlying4 _),
  (trodAll_cons_mk (Below.trod laidOutP (by kernel_rfl) (of_decide_eq_true (by kernel_rfl)) k0 bel lt0) (trodAll_cons_mk (Below.trod laidOutP (by kernel_rfl) (of_decide_eq_true (by kernel_rfl)) k1 bel lt1) trodAll_mk0)),rfl,bel.frame _,fun h=>by cases h⟩
theorem spoints_named:Tryz.pinned.checked.prog.funcNamed "quittance/quittancelaw23.ScopePoints" = some 5:=by kernel_rfl
theorem spoints_joined:joinedFacts Tryz.pinned.checked.prog 5 Tryz.f5 Rows.scopePointsSpec Rows.scopePointsRow=true:=by
 unfold joinedFacts;simp only[Bool.and_eq_true]
 and_intros
 all_goals as_aux_lemma=>kernel_rfl
theorem spoints_inst:decide (Tryz.f5.isInstance Tryz.pinned.checked.prog Rows.scopePointsRow.origin Rows.scopePointsRow.targs)=true:=by kernel_rfl
theorem spoints_row:Rows.ScopePointsSaid:=
 OpenClaim.holds_of_wide 5 Tryz.f5 rfl rfl rfl rfl rfl rfl rfl ⟨rfl,rfl,rfl,rfl,rfl⟩ rfl rfl rfl rfl rfl spoints_named Tryz.func5 spoints_joined
  (of_decide_eq_true spoints_inst) (by unfold Func.isWrapper;rw[if_neg (of_decide_eq_false (by as_aux_lemma=>kernel_rfl))];exact⟨rfl,rfl⟩)
  (fun os started H enc _=>spoints_lifted os started H enc)
theorem spoints_holds:Rows.ScopePointsCardSaid:=
 Claim7.holds_tied_plain_at .later [] [.data,.data,.data,.data,.pinned] true Rows.scopePointsCard.stood.harness false
  spoints_row (fun _ h=>by cases h) (by as_aux_lemma=>kernel_rfl) (fun _ h=>by cases h) scopePoints_row_tie rfl ⟨rfl,rfl⟩ (by as_aux_lemma=>kernel_rfl) rfl
  (fun f fn hf hfn=>by
    obtain rfl:f=5:=Option.some.inj ((show Tryz.prog.funcNamed "quittance/quittancelaw23.ScopePoints" = some 5 from spoints_named).symm.trans hf) |>.symm
    obtain rfl:fn=Tryz.f5:=(Option.some.inj (Tryz.func5.symm.trans hfn)).symm
    exact⟨by as_aux_lemma=>kernel_rfl,fun j t ht=>by
     rw[Tryz.params5]at ht
     have hm:t∈[82,85]:=by simpa using Array.mem_of_getElem? ht
     have hall:([82,85].all fun u=>!Tryz.prog.wantsStandIn u)=true:=by as_aux_lemma=>kernel_rfl
     exact(show Tryz.prog.wantsStandIn t=false by simpa using List.all_eq_true.1 hall t hm)⟩)
  (by as_aux_lemma=>kernel_rfl)
#print axioms spoints_holds
end Go.Proofs.YteidmhkobmddiaaGreatDoor
