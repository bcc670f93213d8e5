/-
  NameWrites answers true whatever it is given, and leaves its arguments as they were. The listed tables of Go's library lie as the program's text lays them (the card ties that). No other condition.
-/
import Derived.Test.YtgffhiopbnkjbaaGreatDoorW0a
import Derived.Test.YtgffhiopbnkjbaaGreatDoorW0e
import Derived.Carry
namespace Go.Proofs.YtgffhiopbnkjbaaGreatDoor
open Go Go.RowKit Go.Q Go.ChangeShapes Go.WideShapes Go.ChangeAt

/-- What the listed variables give the walks. -/
theorem env_of {W : World} (h : laidMetH Tryz.prog laidL W) (hs : W.ShapedOpen Tryz.prog) : Env W := by
  obtain ⟨h1, h2, h3⟩ := laid_facts h hs
  refine ⟨h1, h2, h3, ?_⟩
  have l1 := World.block_lt_of_cell? W _ (h1.1 0 (by decide))
  have l2 := World.block_lt_of_cell? W _ (h1.2 0 (by decide)).1
  have l3 := World.block_lt_of_cell? W _ (h2.cell (by kernel_rfl : Tryz.prog.globalNamed "internal/strconv.uint64pow10" = some 3) 0 (by rw [Lib.pow10Tab_length]; decide))
  obtain ⟨m, hm⟩ := h3
  have l4 := World.block_lt_of_cell? W _ hm
  simp only at l1 l2 l3 l4
  unfold gLim
  omega

set_option maxRecDepth 100000 in
theorem writes_lifted (os : Os) (started : os.Started) (H : Type) (enc : TypeId × Value → H) :
    ReturnsInHanded {} Tryz.checked os 7 .any (fun w args => (Rows.nameWritesSpec.pre enc Tryz.prog Tryz.f7 [] false w args ∧ laidMetH Tryz.prog laidL w) ∧ sizedMet enc Tryz.prog Tryz.f7 (OpenSpec.ofChange Rows.nameWritesSpec) false w args)
      (Rows.nameWritesSpec.post enc Tryz.prog Tryz.f7 false true false false) := by
  refine handed_both (C := Tryz.checked) (X := fun w _ => laidMetH Tryz.prog laidL w) (fun _ _ _ hh h => h.of_heap hh) ownP started (by kernel_rfl) Tryz.func7
    (ChangeSpec.witness_shaped (enc := enc) (C := Tryz.checked) (os := os) (X := fun w _ => laidMetH Tryz.prog laidL w) false (World.laidAll Tryz.prog os laidL) #[.slice none 0 0] 8 (World.laidAll_os _ _ _)
      (laid_shaped os _) (by kernel_rfl) (by kernel_rfl) (by kernel_rfl) (laid_world os _)) ?_
  intro W base args ds gs before hval0 hW hL hS
  have hval : ∀ (j : Nat) t v, Tryz.f7.params[j]? = some t → args[j]? = some v → Value.okWide Tryz.prog W .any base t v := hval0
  have hW' := hW
  obtain ⟨p, q, hA0, hV, rfl, _, _⟩ := hW
  have hA : DataW.TrodAll enc Tryz.prog W 0 (fun _ => true) true Tryz.f7.params.toList args.toList ds p := hA0
  rw [Tryz.params7] at hA hval
  obtain ⟨v0, d0, rfl, rfl, h0⟩ := trodAll_one hA
  obtain ⟨rfl, rfl⟩ := trodVars_none hV
  obtain ⟨a0, n0, c0, rfl⟩ := okWide_slice Tryz.underlying46 (hval 0 46 v0 rfl rfl)
  have k0 := h0
  have lt0 : ∀ x ∈ p, x.block < W.heap.size := by obtain ⟨m, hm⟩ := k0; exact DataW.trod_lt m _ _ _ hm
  obtain ⟨m0, e0⟩ := h0
  obtain ⟨u0, l, q0, hl⟩ := rd_name e0
  obtain rfl : u0 = .slice a0 n0 c0 := by simpa [Value.cells] using q0.symm
  clear hA0 hval0
  refine (nwWalk_any _ l W hl (env_of hL hS)).mono fun e W' ⟨he, F⟩ => ?_
  subst he
  have bel : Below W.heap.size W W' := F.below (Nat.le_refl _) (fun _ _ h => h)
  exact ⟨_, rfl, _, _, _, [], _, [], hW', trodAll_mk1 (shut_bool Tryz.underlying4 _),
    (trodAll_mk1 (Below.trod laidOutP (by kernel_rfl) (of_decide_eq_true (by kernel_rfl)) k0 bel lt0)), rfl, bel.frame _, fun h => by cases h⟩

theorem writes_row : Rows.NameWritesSaid :=
  OpenClaim.holds_of_wide 7 Tryz.f7 rfl rfl rfl rfl rfl rfl rfl ⟨rfl, rfl, rfl, rfl, rfl⟩ rfl rfl rfl rfl rfl (by kernel_rfl) Tryz.func7 (by kernel_rfl)
    (of_decide_eq_true (by kernel_rfl)) (by unfold Func.isWrapper; rw [if_neg (of_decide_eq_false (by kernel_rfl))]; exact ⟨rfl, rfl⟩)
    (fun os started H enc _ => writes_lifted os started H enc)

theorem writes_holds : Rows.NameWritesCardSaid :=
  Claim7.holds_tied_plain_at .later [] [.data, .data, .data, .data, .pinned] true Rows.nameWritesCard.stood.harness false
    writes_row (fun _ h => by cases h) (by kernel_rfl) (fun _ h => by cases h) nameWrites_row_tie rfl ⟨rfl, rfl⟩ (by kernel_rfl) rfl
    (fun f fn hf hfn => by
      obtain rfl : f = 7 := Option.some.inj ((show Tryz.prog.funcNamed "quittance/quittancelaw14.NameWrites" = some 7 by kernel_rfl).symm.trans hf) |>.symm
      obtain rfl : fn = Tryz.f7 := (Option.some.inj (Tryz.func7.symm.trans hfn)).symm
      exact ⟨by kernel_rfl, fun j t ht => by
        rw [Tryz.params7] at ht
        have hm : t ∈ [46] := by simpa using Array.mem_of_getElem? ht
        have hall : ([46].all fun u => !Tryz.prog.wantsStandIn u) = true := by kernel_rfl
        exact (show Tryz.prog.wantsStandIn t = false by simpa using List.all_eq_true.1 hall t hm)⟩)
    (by kernel_rfl)
#print axioms writes_holds
end Go.Proofs.YtgffhiopbnkjbaaGreatDoor
