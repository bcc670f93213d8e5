/-
  Merged by program: XIxFiProof.
-/
import Derived.Test.YtehlipgmkinfbaaGreatDoorP0bb
import Derived.Carry
set_option linter.unusedSimpArgs false
set_option maxRecDepth 100000
set_option maxHeartbeats 8000000
namespace Go.Proofs.YtehlipgmkinfbaaGreatDoor
open Go Go.RowKit Go.Q Go.ChangeShapes Go.WideShapes Go.ChangeAt
theorem env_of {W:World}(h:laidMetH Tryz.prog laidL W)(hs:W.ShapedOpen Tryz.prog):Env W:=by
 obtain⟨h1,h2,h3⟩:=laid_facts h hs
 refine⟨h1,h2,h3,?_⟩
 have l1:=World.block_lt_of_cell? W _ (h1.1 0 (by decide));have l2:=World.block_lt_of_cell? W _ (h1.2 0 (by decide)).1;have l3:=World.block_lt_of_cell? W _ (h2.cell (by kernel_rfl:Tryz.prog.globalNamed "internal/strconv.uint64pow10" = some 1) 0 (by rw[Lib.pow10Tab_length];decide));obtain⟨m,hm⟩:=h3
 have l4:=World.block_lt_of_cell? W _ hm;simp only at l1 l2 l3 l4
 unfold gLim;omega
theorem ifinds_lifted (os:Os)(started:os.Started)(H:Type)(enc:TypeId × Value→H) :
  ReturnsInHanded {} Tryz.checked os 6 .any (fun w args=>(Rows.indexFindsSpec.pre enc Tryz.prog Tryz.f6 [] false w args∧laidMetH Tryz.prog laidL w)∧sizedMet enc Tryz.prog Tryz.f6 (OpenSpec.ofChange Rows.indexFindsSpec) false w args)
   (Rows.indexFindsSpec.post enc Tryz.prog Tryz.f6 false true false false):=by
 refine handed_both (C:=Tryz.checked) (X:=fun w _=>laidMetH Tryz.prog laidL w) (fun _ _ _ hh h=>h.of_heap hh) ownP started (by kernel_rfl) Tryz.func6
  (ChangeSpec.witness_shaped (enc:=enc) (C:=Tryz.checked) (os:=os) (X:=fun w _=>laidMetH Tryz.prog laidL w) false (World.laidAll Tryz.prog os laidL) #[.slice none 0 0,.slice none 0 0,.agg #[.bool false,.slice none 0 0]] 8 (World.laidAll_os _ _ _)
    (laid_shaped os _) (by kernel_rfl) (by kernel_rfl) (by kernel_rfl) (laid_world os _)) ?_
 intro W base args ds gs before hval0 hW hL hS;have hval:∀ (j:Nat) t v,Tryz.f6.params[j]? = some t→args[j]? = some v→Value.okWide Tryz.prog W .any base t v:=hval0;have hW':=hW;obtain⟨p,q,hA0,hV,rfl,_,_⟩:=hW
 have hA:DataW.TrodAll enc Tryz.prog W 0 (fun _=>true) true Tryz.f6.params.toList args.toList ds p:=hA0;rw[Tryz.params6]at hA hval
 obtain⟨v0,v1,v2,d0,d1,d2,p0,p1,p2,rfl,rfl,rfl,h0,h1,h2⟩:=trodAll_three hA
 obtain⟨rfl,rfl⟩:=trodVars_none hV
 obtain⟨a0,n0,c0,rfl⟩:=okWide_slice Tryz.underlying22 (hval 0 22 v0 rfl rfl)
 obtain⟨a1,n1,c1,rfl⟩:=okWide_slice Tryz.underlying53 (hval 1 53 v1 rfl rfl)
 obtain⟨cs2,rfl,-⟩:=okWide_struct Tryz.underlying54 (hval 2 54 v2 rfl rfl)
 have k0:=h0;have k1:=h1;have k2:=h2;have lt0:∀ x∈p0,x.block<W.heap.size:=by obtain⟨m,hm⟩:=k0;exact DataW.trod_lt m _ _ _ hm
 have lt2:∀ x∈p2,x.block<W.heap.size:=by obtain⟨m,hm⟩:=k2;exact DataW.trod_lt m _ _ _ hm
 have lt1:∀ x∈p1,x.block<W.heap.size:=by obtain⟨m,hm⟩:=k1;exact DataW.trod_lt m _ _ _ hm
 obtain⟨m0,e0⟩:=h0
 obtain⟨m1,e1⟩:=h1
 obtain⟨m2,e2⟩:=h2
 obtain⟨u0,n,q0,hn⟩:=rd_rows e0
 obtain⟨u1,l,q1,hl⟩:=rd_name e1
 obtain⟨sb,vz,z,q2,hz⟩:=rd_num e2
 obtain rfl:u0=.slice a0 n0 c0:=by simpa [Value.cells] using q0.symm
 obtain rfl:u1=.slice a1 n1 c1:=by simpa [Value.cells] using q1.symm
 obtain rfl:cs2=#[.bool sb,vz]:=by
  have:cs2.toList=[.bool sb,vz]:=by simpa [Value.cells] using q2
  exact Array.toList_inj.1 (by simpa using this)
 clear hA0 hval0;refine(fiWalk_any _ _ vz n l sb z W hn hl hz (env_of hL hS)).mono fun e W' ⟨he,F⟩=>?_
 subst he;have bel:Below W.heap.size W W':=F.below (Nat.le_refl _) (fun _ _ h=>h);exact⟨_,rfl,_,_,_,[],_,[],hW',trodAll_mk1 (shut_bool Tryz.underlying4 _),
  (trodAll_cons_mk (Below.trod laidOutP (by kernel_rfl) (of_decide_eq_true (by kernel_rfl)) k0 bel lt0) (trodAll_cons_mk (Below.trod laidOutP (by kernel_rfl) (of_decide_eq_true (by kernel_rfl)) k1 bel lt1) (trodAll_cons_mk (Below.trod laidOutP (by kernel_rfl) (of_decide_eq_true (by kernel_rfl)) k2 bel lt2) trodAll_mk0))),rfl,bel.frame _,fun h=>by cases h⟩
theorem ifinds_named:Tryz.pinned.checked.prog.funcNamed "quittance/quittancelaw22.IndexFinds" = some 6:=by kernel_rfl
theorem ifinds_joined:joinedFacts Tryz.pinned.checked.prog 6 Tryz.f6 Rows.indexFindsSpec Rows.indexFindsRow=true:=by
 unfold joinedFacts;simp only[Bool.and_eq_true]
 and_intros
 all_goals as_aux_lemma=>kernel_rfl
theorem ifinds_inst:decide (Tryz.f6.isInstance Tryz.pinned.checked.prog Rows.indexFindsRow.origin Rows.indexFindsRow.targs)=true:=by kernel_rfl
theorem ifinds_row:Rows.IndexFindsSaid:=
 OpenClaim.holds_of_wide 6 Tryz.f6 rfl rfl rfl rfl rfl rfl rfl ⟨rfl,rfl,rfl,rfl,rfl⟩ rfl rfl rfl rfl rfl ifinds_named Tryz.func6 ifinds_joined
  (of_decide_eq_true ifinds_inst) (by unfold Func.isWrapper;rw[if_neg (of_decide_eq_false (by as_aux_lemma=>kernel_rfl))];exact⟨rfl,rfl⟩)
  (fun os started H enc _=>ifinds_lifted os started H enc)
theorem ifinds_holds:Rows.IndexFindsCardSaid:=
 Claim7.holds_tied_plain_at .later [] [.data,.data,.data,.data,.pinned] true Rows.indexFindsCard.stood.harness false
  ifinds_row (fun _ h=>by cases h) (by as_aux_lemma=>kernel_rfl) (fun _ h=>by cases h) indexFinds_row_tie rfl ⟨rfl,rfl⟩ (by as_aux_lemma=>kernel_rfl) rfl
  (fun f fn hf hfn=>by
    obtain rfl:f=6:=Option.some.inj ((show Tryz.prog.funcNamed "quittance/quittancelaw22.IndexFinds" = some 6 from ifinds_named).symm.trans hf) |>.symm
    obtain rfl:fn=Tryz.f6:=(Option.some.inj (Tryz.func6.symm.trans hfn)).symm
    exact⟨by as_aux_lemma=>kernel_rfl,fun j t ht=>by
     rw[Tryz.params6]at ht
     have hm:t∈[22,53,54]:=by simpa using Array.mem_of_getElem? ht
     have hall:([22,53,54].all fun u=>!Tryz.prog.wantsStandIn u)=true:=by as_aux_lemma=>kernel_rfl
     exact(show Tryz.prog.wantsStandIn t=false by simpa using List.all_eq_true.1 hall t hm)⟩)
  (by as_aux_lemma=>kernel_rfl)
#print axioms ifinds_holds
end Go.Proofs.YtehlipgmkinfbaaGreatDoor
