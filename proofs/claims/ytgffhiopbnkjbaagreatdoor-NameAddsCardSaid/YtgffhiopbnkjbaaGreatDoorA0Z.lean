/-
  NameAdds answers true whatever it is given, and leaves its arguments as they were. The listed tables of Go's library lie as the program's text lays them (the card ties that). No other condition.
-/
import Derived.Test.YtgffhiopbnkjbaaGreatDoorA0a
import Derived.Test.YtgffhiopbnkjbaaGreatDoorA0b
import Derived.Test.YtgffhiopbnkjbaaGreatDoorA0e
import Derived.Carry
namespace Go.Proofs.YtgffhiopbnkjbaaGreatDoor
open Go Go.RowKit Go.Q Go.ChangeShapes Go.WideShapes Go.ChangeAt

/-- What the listed variables give the walks. -/
theorem env_of {W : World} (h : laidMetH Tryz.prog laidL W) (hs : W.ShapedOpen Tryz.prog) : Env W := by
  obtain ⟨h1, h2, h3⟩ := laid_facts h hs
  refine ⟨h1, h2, h3, ?_⟩
  have l1 := World.block_lt_of_cell? W _ (h1.1 0 (by decide))
  have l2 := World.block_lt_of_cell? W _ (h1.2 0 (by decide)).1
  have l3 := World.block_lt_of_cell? W _ (h2.cell (by kernel_rfl : Tryz.prog.globalNamed "internal/strconv.uint64pow10" = some 3) 0 (by rw [Lib.pow10Tab_length]; decide))
  obtain ⟨m, hm⟩ := h3
  have l4 := World.block_lt_of_cell? W _ hm
  simp only at l1 l2 l3 l4
  unfold gLim
  omega

set_option maxRecDepth 100000 in
theorem adds_lifted (os : Os) (started : os.Started) (H : Type) (enc : TypeId × Value → H) :
    ReturnsInHanded {} Tryz.checked os 5 .any (fun w args => (Rows.nameAddsSpec.pre enc Tryz.prog Tryz.f5 [] false w args ∧ laidMetH Tryz.prog laidL w) ∧ sizedMet enc Tryz.prog Tryz.f5 (OpenSpec.ofChange Rows.nameAddsSpec) false w args)
      (Rows.nameAddsSpec.post enc Tryz.prog Tryz.f5 false true false false) := by
  refine handed_both (C := Tryz.checked) (X := fun w _ => laidMetH Tryz.prog laidL w) (fun _ _ _ hh h => h.of_heap hh) ownP started (by kernel_rfl) Tryz.func5
    (ChangeSpec.witness_shaped (enc := enc) (C := Tryz.checked) (os := os) (X := fun w _ => laidMetH Tryz.prog laidL w) false (World.laidAll Tryz.prog os laidL) #[.slice none 0 0, .slice none 0 0, .slice none 0 0, .slice none 0 0] 8 (World.laidAll_os _ _ _)
      (laid_shaped os _) (by kernel_rfl) (by kernel_rfl) (by kernel_rfl) (laid_world os _)) ?_
  intro W base args ds gs before hval0 hW hL hS
  have hval : ∀ (j : Nat) t v, Tryz.f5.params[j]? = some t → args[j]? = some v → Value.okWide Tryz.prog W .any base t v := hval0
  have hW' := hW
  obtain ⟨p, q, hA0, hV, rfl, _, _⟩ := hW
  have hA : DataW.TrodAll enc Tryz.prog W 0 (fun _ => true) true Tryz.f5.params.toList args.toList ds p := hA0
  rw [Tryz.params5] at hA hval
  obtain ⟨v0, v1, v2, v3, d0, d1, d2, d3, p0, p1, p2, p3, rfl, rfl, rfl, h0, h1, h2, h3⟩ := trodAll_four hA
  obtain ⟨rfl, rfl⟩ := trodVars_none hV
  obtain ⟨a0, n0, c0, rfl⟩ := okWide_slice Tryz.underlying46 (hval 0 46 v0 rfl rfl)
  obtain ⟨a1, n1, c1, rfl⟩ := okWide_slice Tryz.underlying46 (hval 1 46 v1 rfl rfl)
  obtain ⟨a2, n2, c2, rfl⟩ := okWide_slice Tryz.underlying53 (hval 2 53 v2 rfl rfl)
  obtain ⟨a3, n3, c3, rfl⟩ := okWide_slice Tryz.underlying22 (hval 3 22 v3 rfl rfl)
  have k0 := h0
  have k1 := h1
  have k2 := h2
  have k3 := h3
  have lt0 : ∀ x ∈ p0, x.block < W.heap.size := by obtain ⟨m, hm⟩ := k0; exact DataW.trod_lt m _ _ _ hm
  have lt1 : ∀ x ∈ p1, x.block < W.heap.size := by obtain ⟨m, hm⟩ := k1; exact DataW.trod_lt m _ _ _ hm
  have lt2 : ∀ x ∈ p2, x.block < W.heap.size := by obtain ⟨m, hm⟩ := k2; exact DataW.trod_lt m _ _ _ hm
  have lt3 : ∀ x ∈ p3, x.block < W.heap.size := by obtain ⟨m, hm⟩ := k3; exact DataW.trod_lt m _ _ _ hm
  obtain ⟨m0, e0⟩ := h0
  obtain ⟨m1, e1⟩ := h1
  obtain ⟨m2, e2⟩ := h2
  obtain ⟨m3, e3⟩ := h3
  obtain ⟨u0, l0, q0, r0⟩ := rd_name e0
  obtain ⟨u1, l1, q1, r1⟩ := rd_name e1
  obtain ⟨u2, l2, q2, r2⟩ := rd_strs e2
  obtain ⟨u3, l3, q3, r3⟩ := rd_ints e3
  obtain rfl : u0 = .slice a0 n0 c0 := by simpa [Value.cells] using q0.symm
  obtain rfl : u1 = .slice a1 n1 c1 := by simpa [Value.cells] using q1.symm
  obtain rfl : u2 = .slice a2 n2 c2 := by simpa [Value.cells] using q2.symm
  obtain rfl : u3 = .slice a3 n3 c3 := by simpa [Value.cells] using q3.symm
  clear hA0 hval0
  refine (naWalk_any _ _ _ _ l0 l1 l2 l3 W r0 r1 r2 r3 (env_of hL hS)).mono fun e W' ⟨he, F⟩ => ?_
  subst he
  have bel : Below W.heap.size W W' := F.below (Nat.le_refl _) (fun _ _ h => h)
  exact ⟨_, rfl, _, _, _, [], _, [], hW', trodAll_mk1 (shut_bool Tryz.underlying4 _),
    (trodAll_cons_mk (Below.trod laidOutP (by kernel_rfl) (of_decide_eq_true (by kernel_rfl)) k0 bel lt0) (trodAll_cons_mk (Below.trod laidOutP (by kernel_rfl) (of_decide_eq_true (by kernel_rfl)) k1 bel lt1) (trodAll_cons_mk (Below.trod laidOutP (by kernel_rfl) (of_decide_eq_true (by kernel_rfl)) k2 bel lt2) (trodAll_cons_mk (Below.trod laidOutP (by kernel_rfl) (of_decide_eq_true (by kernel_rfl)) k3 bel lt3) trodAll_mk0)))), rfl, bel.frame _, fun h => by cases h⟩

theorem adds_row : Rows.NameAddsSaid :=
  OpenClaim.holds_of_wide 5 Tryz.f5 rfl rfl rfl rfl rfl rfl rfl ⟨rfl, rfl, rfl, rfl, rfl⟩ rfl rfl rfl rfl rfl (by kernel_rfl) Tryz.func5 (by kernel_rfl)
    (of_decide_eq_true (by kernel_rfl)) (by unfold Func.isWrapper; rw [if_neg (of_decide_eq_false (by kernel_rfl))]; exact ⟨rfl, rfl⟩)
    (fun os started H enc _ => adds_lifted os started H enc)

theorem adds_holds : Rows.NameAddsCardSaid :=
  Claim7.holds_tied_plain_at .later [] [.data, .data, .data, .data, .pinned] true Rows.nameAddsCard.stood.harness false
    adds_row (fun _ h => by cases h) (by kernel_rfl) (fun _ h => by cases h) nameAdds_row_tie rfl ⟨rfl, rfl⟩ (by kernel_rfl) rfl
    (fun f fn hf hfn => by
      obtain rfl : f = 5 := Option.some.inj ((show Tryz.prog.funcNamed "quittance/quittancelaw14.NameAdds" = some 5 by kernel_rfl).symm.trans hf) |>.symm
      obtain rfl : fn = Tryz.f5 := (Option.some.inj (Tryz.func5.symm.trans hfn)).symm
      exact ⟨by kernel_rfl, fun j t ht => by
        rw [Tryz.params5] at ht
        have hm : t ∈ [46, 46, 53, 22] := by simpa using Array.mem_of_getElem? ht
        have hall : ([46, 46, 53, 22].all fun u => !Tryz.prog.wantsStandIn u) = true := by kernel_rfl
        exact (show Tryz.prog.wantsStandIn t = false by simpa using List.all_eq_true.1 hall t hm)⟩)
    (by kernel_rfl)
#print axioms adds_holds
end Go.Proofs.YtgffhiopbnkjbaaGreatDoor
