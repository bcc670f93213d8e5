/-
  Merged by program: XIxOrProof.
-/
import Derived.Test.YtehlipgmkinfbaaGreatDoorO0a
import Derived.Test.YtehlipgmkinfbaaGreatDoorO0j
import Derived.Test.YtehlipgmkinfbaaGreatDoorO0t
import Derived.Carry
namespace Go.Proofs.YtehlipgmkinfbaaGreatDoor
open Go Go.RowKit Go.Q Go.ChangeShapes Go.WideShapes Go.ChangeAt
theorem env_of {W : World} (h : laidMetH Tryz.prog laidL W) (hs : W.ShapedOpen Tryz.prog) : Env W := by
  obtain ⟨h1, h2, h3⟩ := laid_facts h hs
  refine ⟨h1, h2, h3, ?_⟩
  have l1 := World.block_lt_of_cell? W _ (h1.1 0 (by decide))
  have l2 := World.block_lt_of_cell? W _ (h1.2 0 (by decide)).1
  have l3 := World.block_lt_of_cell? W _ (h2.cell (by kernel_rfl : Tryz.prog.globalNamed "internal/strconv.uint64pow10" = some 1) 0 (by rw [Lib.pow10Tab_length]; decide))
  obtain ⟨m, hm⟩ := h3
  have l4 := World.block_lt_of_cell? W _ hm
  simp only at l1 l2 l3 l4
  unfold gLim
  omega
set_option maxRecDepth 100000 in
theorem orders_lifted (os : Os) (started : os.Started) (H : Type) (enc : TypeId × Value → H) :
    ReturnsInHanded {} Tryz.checked os 7 .any (fun w args => (Rows.indexOrdersSpec.pre enc Tryz.prog Tryz.f7 [] false w args ∧ laidMetH Tryz.prog laidL w) ∧ sizedMet enc Tryz.prog Tryz.f7 (OpenSpec.ofChange Rows.indexOrdersSpec) false w args)
      (Rows.indexOrdersSpec.post enc Tryz.prog Tryz.f7 false true false false) := by
  refine handed_both (C := Tryz.checked) (X := fun w _ => laidMetH Tryz.prog laidL w) (fun _ _ _ hh h => h.of_heap hh) ownP started (by kernel_rfl) Tryz.func7
    (ChangeSpec.witness_shaped (enc := enc) (C := Tryz.checked) (os := os) (X := fun w _ => laidMetH Tryz.prog laidL w) false (World.laidAll Tryz.prog os laidL) #[.slice none 0 0, .int .i64 0] 8 (World.laidAll_os _ _ _)
      (laid_shaped os _) (by kernel_rfl) (by kernel_rfl) (by kernel_rfl) (laid_world os _)) ?_
  intro W base args ds gs before hval0 hW hL hS
  have hval : ∀ (j : Nat) t v, Tryz.f7.params[j]? = some t → args[j]? = some v → Value.okWide Tryz.prog W .any base t v := hval0
  have hW' := hW
  obtain ⟨p, q, hA0, hV, rfl, _, _⟩ := hW
  have hA : DataW.TrodAll enc Tryz.prog W 0 (fun _ => true) true Tryz.f7.params.toList args.toList ds p := hA0
  rw [Tryz.params7] at hA hval
  obtain ⟨v0, v1, d0, d1, p0, p1, rfl, rfl, rfl, h0, h1⟩ := trodAll_two hA
  obtain ⟨rfl, rfl⟩ := trodVars_none hV
  obtain ⟨a0, n0, c0, rfl⟩ := okWide_slice Tryz.underlying22 (hval 0 22 v0 rfl rfl)
  obtain ⟨k1, rfl, rfl, rfl, w1⟩ := open_int Tryz.underlying3 (hval 1 3 v1 rfl rfl) h1
  have k0 := h0
  have lt0 : ∀ x ∈ p0, x.block < W.heap.size := by obtain ⟨m, hm⟩ := k0; exact DataW.trod_lt m _ _ _ hm
  obtain ⟨m0, e0⟩ := h0
  obtain ⟨u0, l, q0, hl⟩ := rd_rows e0
  obtain rfl : u0 = .slice a0 n0 c0 := by simpa [Value.cells] using q0.symm
  clear hA0 hval0
  refine (orWalk_any _ l k1 W hl (env_of hL hS)).mono fun e W' ⟨he, F⟩ => ?_
  subst he
  have bel : Below W.heap.size W W' := F.below (Nat.le_refl _) (fun _ _ h => h)
  exact ⟨_, rfl, _, _, _, [], _, [], hW', trodAll_mk1 (shut_bool Tryz.underlying4 _),
    (trodAll_cons_mk (Below.trod laidOutP (by kernel_rfl) (of_decide_eq_true (by kernel_rfl)) k0 bel lt0) (trodAll_cons_mk (shut_int Tryz.underlying3 w1) trodAll_mk0)), rfl, bel.frame _, fun h => by cases h⟩
theorem orders_named : Tryz.pinned.checked.prog.funcNamed "quittance/quittancelaw22.IndexOrders" = some 7 := by kernel_rfl
set_option maxHeartbeats 4000000 in
theorem orders_joined : joinedFacts Tryz.pinned.checked.prog 7 Tryz.f7 Rows.indexOrdersSpec Rows.indexOrdersRow = true := by
  unfold joinedFacts
  simp only [Bool.and_eq_true]
  and_intros
  all_goals as_aux_lemma => kernel_rfl
theorem orders_inst : decide (Tryz.f7.isInstance Tryz.pinned.checked.prog Rows.indexOrdersRow.origin Rows.indexOrdersRow.targs) = true := by kernel_rfl
theorem orders_row : Rows.IndexOrdersSaid :=
  OpenClaim.holds_of_wide 7 Tryz.f7 rfl rfl rfl rfl rfl rfl rfl ⟨rfl, rfl, rfl, rfl, rfl⟩ rfl rfl rfl rfl rfl orders_named Tryz.func7 orders_joined
    (of_decide_eq_true orders_inst) (by unfold Func.isWrapper; rw [if_neg (of_decide_eq_false (by as_aux_lemma => kernel_rfl))]; exact ⟨rfl, rfl⟩)
    (fun os started H enc _ => orders_lifted os started H enc)
theorem orders_holds : Rows.IndexOrdersCardSaid :=
  Claim7.holds_tied_plain_at .later [] [.data, .data, .data, .data, .pinned] true Rows.indexOrdersCard.stood.harness false
    orders_row (fun _ h => by cases h) (by as_aux_lemma => kernel_rfl) (fun _ h => by cases h) indexOrders_row_tie rfl ⟨rfl, rfl⟩ (by as_aux_lemma => kernel_rfl) rfl
    (fun f fn hf hfn => by
      obtain rfl : f = 7 := Option.some.inj ((show Tryz.prog.funcNamed "quittance/quittancelaw22.IndexOrders" = some 7 from orders_named).symm.trans hf) |>.symm
      obtain rfl : fn = Tryz.f7 := (Option.some.inj (Tryz.func7.symm.trans hfn)).symm
      exact ⟨by as_aux_lemma => kernel_rfl, fun j t ht => by
        rw [Tryz.params7] at ht
        have hm : t ∈ [22, 3] := by simpa using Array.mem_of_getElem? ht
        have hall : ([22, 3].all fun u => !Tryz.prog.wantsStandIn u) = true := by as_aux_lemma => kernel_rfl
        exact (show Tryz.prog.wantsStandIn t = false by simpa using List.all_eq_true.1 hall t hm)⟩)
    (by as_aux_lemma => kernel_rfl)
#print axioms orders_holds
end Go.Proofs.YtehlipgmkinfbaaGreatDoor
