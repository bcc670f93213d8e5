/-
  Merged by program: XGwProof.
-/
import Derived.Test.YtacekpdjapgfcaaGreatDoorH0aa
import Derived.Test.YtacekpdjapgfcaaGreatDoorH0an
import Derived.Test.YtacekpdjapgfcaaGreatDoorH0aw
import Derived.Carry
namespace Go.Proofs.YtacekpdjapgfcaaGreatDoor
open Go Go.RowKit Go.Q Go.ChangeShapes Go.WideShapes Go.ChangeAt
theorem env_of {W : World} (h : laidMetH Tryz.prog laidL W) (hs : W.ShapedOpen Tryz.prog) : Env W := by
  obtain ⟨h1, h2, h3⟩ := laid_facts h hs
  refine ⟨h1, h2, h3, ?_⟩
  have l1 := World.block_lt_of_cell? W _ (h1.1 0 (by decide))
  have l2 := World.block_lt_of_cell? W _ (h1.2 0 (by decide)).1
  have l3 := World.block_lt_of_cell? W _ (h2.cell (by kernel_rfl : Tryz.prog.globalNamed "internal/strconv.uint64pow10" = some 0) 0 (by rw [Lib.pow10Tab_length]; decide))
  obtain ⟨m, hm⟩ := h3
  have l4 := World.block_lt_of_cell? W _ hm
  simp only at l1 l2 l3 l4
  unfold gLim
  omega
set_option maxRecDepth 100000 in
theorem gwrites_lifted (os : Os) (started : os.Started) (H : Type) (enc : TypeId × Value → H) :
    ReturnsInHanded {} Tryz.checked os 7 .any (fun w args => (Rows.generalWritesSpec.pre enc Tryz.prog Tryz.f7 [] false w args ∧ laidMetH Tryz.prog laidL w) ∧ sizedMet enc Tryz.prog Tryz.f7 (OpenSpec.ofChange Rows.generalWritesSpec) false w args)
      (Rows.generalWritesSpec.post enc Tryz.prog Tryz.f7 false true false false) := by
  refine handed_both (C := Tryz.checked) (X := fun w _ => laidMetH Tryz.prog laidL w) (fun _ _ _ hh h => h.of_heap hh) ownP started (by kernel_rfl) Tryz.func7
    (ChangeSpec.witness_shaped (enc := enc) (C := Tryz.checked) (os := os) (X := fun w _ => laidMetH Tryz.prog laidL w) false (World.laidAll Tryz.prog os laidL) #[.agg #[.int .i64 0, .slice none 0 0, .slice none 0 0]] 8 (World.laidAll_os _ _ _)
      (laid_shaped os _) (by kernel_rfl) (by kernel_rfl) (by kernel_rfl) (laid_world os _)) ?_
  intro W base args ds gs before hval0 hW hL hS
  have hval : ∀ (j : Nat) t v, Tryz.f7.params[j]? = some t → args[j]? = some v → Value.okWide Tryz.prog W .any base t v := hval0
  have hW' := hW
  obtain ⟨p, q, hA0, hV, rfl, _, _⟩ := hW
  have hA : DataW.TrodAll enc Tryz.prog W 0 (fun _ => true) true Tryz.f7.params.toList args.toList ds p := hA0
  rw [Tryz.params7] at hA hval
  obtain ⟨v0, d0, rfl, rfl, h0⟩ := trodAll_one hA
  obtain ⟨rfl, rfl⟩ := trodVars_none hV
  obtain ⟨cs, rfl, -⟩ := okWide_struct Tryz.underlying46 (hval 0 46 v0 rfl rfl)
  have k0 := h0
  have lt0 : ∀ x ∈ p, x.block < W.heap.size := by obtain ⟨m, hm⟩ := k0; exact DataW.trod_lt m _ _ _ hm
  obtain ⟨m0, e0⟩ := h0
  obtain ⟨g, vb, vn, q0, hb, hn⟩ := rd_gen e0
  have q1 : cs.toList = [.int .i64 g.k, vb, vn] := by simpa [Value.cells] using q0
  obtain rfl : cs = #[.int .i64 g.k, vb, vn] := by
    apply Array.toList_inj.1
    rw [q1]
  clear hA0 hval0
  refine (gwWalk_any _ g W ⟨vb, vn, rfl, hb, hn⟩ (env_of hL hS)).mono fun e W' ⟨he, F⟩ => ?_
  subst he
  have bel : Below W.heap.size W W' := F.below (Nat.le_refl _) (fun _ _ h => h)
  exact ⟨_, rfl, _, _, _, [], _, [], hW', trodAll_mk1 (shut_bool Tryz.underlying4 _),
    (trodAll_mk1 (Below.trod laidOutP (by kernel_rfl) (of_decide_eq_true (by kernel_rfl)) k0 bel lt0)), rfl, bel.frame _, fun h => by cases h⟩
theorem gwrites_named : Tryz.pinned.checked.prog.funcNamed "quittance/quittancelaw15.GeneralWrites" = some 7 := by kernel_rfl
set_option maxHeartbeats 4000000 in
theorem gwrites_joined : joinedFacts Tryz.pinned.checked.prog 7 Tryz.f7 Rows.generalWritesSpec Rows.generalWritesRow = true := by
  unfold joinedFacts
  simp only [Bool.and_eq_true]
  and_intros
  all_goals as_aux_lemma => kernel_rfl
theorem gwrites_inst : decide (Tryz.f7.isInstance Tryz.pinned.checked.prog Rows.generalWritesRow.origin Rows.generalWritesRow.targs) = true := by kernel_rfl
theorem gwrites_row : Rows.GeneralWritesSaid :=
  OpenClaim.holds_of_wide 7 Tryz.f7 rfl rfl rfl rfl rfl rfl rfl ⟨rfl, rfl, rfl, rfl, rfl⟩ rfl rfl rfl rfl rfl gwrites_named Tryz.func7 gwrites_joined
    (of_decide_eq_true gwrites_inst) (by unfold Func.isWrapper; rw [if_neg (of_decide_eq_false (by as_aux_lemma => kernel_rfl))]; exact ⟨rfl, rfl⟩)
    (fun os started H enc _ => gwrites_lifted os started H enc)
theorem gwrites_holds : Rows.GeneralWritesCardSaid :=
  Claim7.holds_tied_plain_at .later [] [.data, .data, .data, .data, .pinned] true Rows.generalWritesCard.stood.harness false
    gwrites_row (fun _ h => by cases h) (by as_aux_lemma => kernel_rfl) (fun _ h => by cases h) generalWrites_row_tie rfl ⟨rfl, rfl⟩ (by as_aux_lemma => kernel_rfl) rfl
    (fun f fn hf hfn => by
      obtain rfl : f = 7 := Option.some.inj ((show Tryz.prog.funcNamed "quittance/quittancelaw15.GeneralWrites" = some 7 from gwrites_named).symm.trans hf) |>.symm
      obtain rfl : fn = Tryz.f7 := (Option.some.inj (Tryz.func7.symm.trans hfn)).symm
      exact ⟨by as_aux_lemma => kernel_rfl, fun j t ht => by
        rw [Tryz.params7] at ht
        have hm : t ∈ [46] := by simpa using Array.mem_of_getElem? ht
        have hall : ([46].all fun u => !Tryz.prog.wantsStandIn u) = true := by as_aux_lemma => kernel_rfl
        exact (show Tryz.prog.wantsStandIn t = false by simpa using List.all_eq_true.1 hall t hm)⟩)
    (by as_aux_lemma => kernel_rfl)
#print axioms gwrites_holds
end Go.Proofs.YtacekpdjapgfcaaGreatDoor
