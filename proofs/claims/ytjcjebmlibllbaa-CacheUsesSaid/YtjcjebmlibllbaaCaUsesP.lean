/-
  CacheUses answers true whatever it is given, and leaves its arguments as they were. No condition.
-/
import Derived.Test.YtjcjebmlibllbaaCaUsesW
import Derived.Test.YtjcjebmlibllbaaCaAct
import Derived.OpenShut
import Derived.ShutString
import Derived.ChangeOld
namespace Go.Proofs.Ytjcjebmlibllbaa
open Go Go.RowKit Go.Q Go.ChangeShapes Go.WideShapes Go.ChangeAt

theorem Try.ownU : ownKnob Try.prog.godebug = none := by kernel_rfl
theorem Try.laidOutU : laidOutB Try.prog = true := by kernel_rfl

/-- A slice of strings that came in: where there is one, its cells lie behind one another. -/
theorem open_strs1 {H : Type} {enc : TypeId × Value → H} {w : World} {base : Nat} {spare : Nat → Bool} {held : Bool} {a : Option Addr} {len cap : Nat} {d : DataW H} {ps : List MemPlace} (h : DataW.Trod enc Try.prog w base spare held 32 (.slice a len cap) d ps) :
    ∃ (b o : Nat) (l : Nat → ByteArray), (0 < len → a = some ⟨b, o, none⟩) ∧ ∀ i, i < len → w.cell? ⟨b, o + i, none⟩ = some (.string (l i)) ∧ (l i).size ≤ maxLen := by
  obtain ⟨fuel, hf⟩ := h
  rcases open_strings Try.underlying32 Try.underlying9 c9 hf with ⟨hcs, _⟩ | ⟨a', len', cap', ss, hcs, _, hl, hm, hlen, _, hx, hs⟩
  · simp [Value.cells] at hcs
    obtain ⟨rfl, rfl, rfl⟩ := hcs
    exact ⟨0, 0, fun _ => ⟨#[]⟩, fun h => absurd h (Nat.lt_irrefl _), fun i hi => absurd hi (Nat.not_lt_zero _)⟩
  · simp [Value.cells] at hcs
    obtain ⟨rfl, rfl, rfl⟩ := hcs
    have hls : len ≤ ss.length := by rw [hlen]; split <;> omega
    by_cases h0 : len = 0
    · subst h0
      exact ⟨0, 0, fun _ => ⟨#[]⟩, fun h => absurd h (Nat.lt_irrefl _), fun i hi => absurd hi (Nat.not_lt_zero _)⟩
    · have sp : a'.spot = none := by
        have e := hx 0 (by omega)
        have := World.cell?_spot e
        simpa [Addr.add] using this
      obtain ⟨b, o, spt⟩ := a'
      simp only at sp
      subst sp
      refine ⟨b, o, fun i => ss.getD i ByteArray.empty, fun _ => rfl, fun i hi => ⟨?_, ?_⟩⟩
      · have e := hx i (by omega)
        have : (⟨b, o, none⟩ : Addr).add i = ⟨b, o + i, none⟩ := by unfold Addr.add; split <;> simp_all
        rw [this] at e
        exact e
      · have hi' : i < ss.length := by omega
        have : ss.getD i ByteArray.empty ∈ ss := by simp [List.getD, hi']
        exact hs _ this

set_option maxRecDepth 100000 in
theorem uses_lifted (os : Os) (started : os.Started) (H : Type) (enc : TypeId × Value → H) :
    ReturnsInHanded {} Try.checked os 4 .any (Rows.cacheUsesSpec.pre6 enc Try.prog Try.f4 Rows.cacheUsesRow.domain false) (Rows.cacheUsesSpec.post enc Try.prog Try.f4 false true false false) := by
  refine returnsInHanded_of_change (C := Try.checked) Try.ownU started (by kernel_rfl) Try.func4
    (ChangeSpec.witness6 (enc := enc) (C := Try.checked) false ⟨#[], #[.int .i64 0, .slice none 0 0], []⟩ 8 (by kernel_rfl) (by kernel_rfl) (by kernel_rfl) (by kernel_rfl)) ?_
  intro W base args ds gs before hval0 hW hcnd _
  have hval : ∀ (j : Nat) t v, Try.f4.params[j]? = some t → args[j]? = some v → Value.okWide Try.prog W .any base t v := hval0
  have hW' := hW
  obtain ⟨p, q, hA0, hV, rfl, hfz, hnd⟩ := hW
  have hA : DataW.TrodAll enc Try.prog W 0 (fun _ => true) true Try.f4.params.toList args.toList ds p := hA0
  rw [Try.params4] at hA hval
  obtain ⟨v0, v1, d0, d1, p0, p1, rfl, rfl, rfl, h0, h1⟩ := trodAll_two hA
  obtain ⟨rfl, rfl⟩ := trodVars_none hV
  obtain ⟨a0, rfl, rfl, rfl, w0⟩ := open_int Try.underlying3 (hval 0 3 v0 rfl rfl) h0
  obtain ⟨a1, len1, cap1, rfl⟩ := okWide_slice Try.underlying32 (hval 1 32 v1 rfl rfl)
  have k1 := h1
  have lt1 : ∀ x ∈ p1, x.block < W.heap.size := by obtain ⟨m, hm⟩ := k1; exact DataW.trod_lt m _ _ _ hm
  obtain ⟨b, o, l, ha, hl⟩ := open_strs1 h1
  clear hA0 hval0
  refine (uses_walk a0 a1 b o len1 cap1 l W ha hl).mono fun e W' ⟨he, fr⟩ => ?_
  subst he
  have bel : Below W.heap.size W W' := fr.below (Nat.le_refl _) (fun _ _ h => h)
  exact ⟨_, rfl, _, _, _, [], _, [], hW', trodAll_mk1 (shut_bool Try.underlying4 _), (trodAll_cons_mk (shut_int Try.underlying3 w0) (trodAll_cons_mk (Below.trod Try.laidOutU (by kernel_rfl) (of_decide_eq_true (by kernel_rfl)) k1 bel lt1) trodAll_mk0)), rfl, bel.frame _, fun h => by cases h⟩

theorem uses_holds : Rows.CacheUsesSaid :=
  OpenClaim.holds_of_wide 4 Try.f4 rfl rfl rfl rfl rfl rfl rfl ⟨rfl, rfl, rfl, rfl, rfl⟩ rfl rfl rfl rfl rfl (by kernel_rfl) Try.func4 (by kernel_rfl)
    (of_decide_eq_true (by kernel_rfl)) (by unfold Func.isWrapper; rw [if_neg (of_decide_eq_false (by kernel_rfl))]; exact ⟨rfl, rfl⟩)
    (fun os started H enc _ => uses_lifted os started H enc)
#print axioms uses_holds
end Go.Proofs.Ytjcjebmlibllbaa
