/-
  CachePlays answers true whatever it is given, and leaves its arguments as they were. No condition.
-/
import Derived.Test.YtjcjebmlibllbaaCaPlaysW
import Derived.Test.YtjcjebmlibllbaaCaAct
import Derived.OpenShut
import Derived.ShutString
import Derived.ChangeOld
namespace Go.Proofs.Ytjcjebmlibllbaa
open Go Go.RowKit Go.Q Go.ChangeShapes Go.WideShapes Go.ChangeAt

theorem Try.ownP : ownKnob Try.prog.godebug = none := by kernel_rfl
theorem Try.laidOutP : laidOutB Try.prog = true := by kernel_rfl

/-- A slice of strings that came in, as a list. -/
theorem open_strs2 {H : Type} {enc : TypeId × Value → H} {w : World} {base : Nat} {spare : Nat → Bool} {held : Bool} {a : Option Addr} {len cap n : Nat} {y : DataW H × List MemPlace} (h : DataW.trod enc Try.prog w base spare held n 32 [.slice a len cap] = some y) :
    ∃ ks, Strs w (.slice a len cap) ks := by
  rcases open_strings Try.underlying32 Try.underlying9 c9 h with ⟨hcs, _⟩ | ⟨a', len', cap', ss, hcs, _, hl, hm, hlen, _, hx, hs⟩
  · simp at hcs
    obtain ⟨rfl, rfl, rfl⟩ := hcs
    exact ⟨[], none, 0, rfl, Nat.le_refl _, fun h => absurd h (Nat.lt_irrefl _)⟩
  · simp at hcs
    obtain ⟨rfl, rfl, rfl⟩ := hcs
    have hls : len ≤ ss.length := by rw [hlen]; split <;> omega
    have hll : (ss.take len).length = len := by rw [List.length_take]; omega
    refine ⟨ss.take len, some a', cap, by rw [hll], by omega, fun h0 => ?_⟩
    have sp : a'.spot = none := by
      have e := hx 0 (by omega)
      have := World.cell?_spot e
      simpa [Addr.add] using this
    obtain ⟨b, o, spt⟩ := a'
    simp only at sp
    subst sp
    refine ⟨b, o, rfl, fun i hi => ?_⟩
    rw [hll] at hi
    have e := hx i (by omega)
    rw [add_none] at e
    rw [e]
    simp only [List.getD_eq_getElem?_getD]
    rw [List.getElem?_take, if_pos hi, List.getElem?_eq_getElem (by omega)]
    simp

set_option maxRecDepth 100000 in
theorem plays_lifted (os : Os) (started : os.Started) (H : Type) (enc : TypeId × Value → H) :
    ReturnsInHanded {} Try.checked os 6 .any (Rows.cachePlaysSpec.pre6 enc Try.prog Try.f6 Rows.cachePlaysRow.domain false) (Rows.cachePlaysSpec.post enc Try.prog Try.f6 false true false false) := by
  refine returnsInHanded_of_change (C := Try.checked) Try.ownP started (by kernel_rfl) Try.func6
    (ChangeSpec.witness6 (enc := enc) (C := Try.checked) false ⟨#[], #[.int .i64 0, .slice none 0 0], []⟩ 8 (by kernel_rfl) (by kernel_rfl) (by kernel_rfl) (by kernel_rfl)) ?_
  intro W base args ds gs before hval0 hW hcnd _
  have hval : ∀ (j : Nat) t v, Try.f6.params[j]? = some t → args[j]? = some v → Value.okWide Try.prog W .any base t v := hval0
  have hW' := hW
  obtain ⟨p, q, hA0, hV, rfl, hfz, hnd⟩ := hW
  have hA : DataW.TrodAll enc Try.prog W 0 (fun _ => true) true Try.f6.params.toList args.toList ds p := hA0
  rw [Try.params6] at hA hval
  obtain ⟨v0, v1, d0, d1, p0, p1, rfl, rfl, rfl, h0, h1⟩ := trodAll_two hA
  obtain ⟨rfl, rfl⟩ := trodVars_none hV
  obtain ⟨a0, rfl, rfl, rfl, w0⟩ := open_int Try.underlying3 (hval 0 3 v0 rfl rfl) h0
  obtain ⟨a1, len1, cap1, rfl⟩ := okWide_slice Try.underlying22 (hval 1 22 v1 rfl rfl)
  have k1 := h1
  have lt1 : ∀ x ∈ p1, x.block < W.heap.size := by obtain ⟨m, hm⟩ := k1; exact DataW.trod_lt m _ _ _ hm
  obtain ⟨b, o, l, ha, hl⟩ := open_acts h1
  clear hA0 hval0
  refine (plays_walk a0 a1 b o len1 cap1 l W ha (fun i hi => ⟨(hl i hi).1, (hl i hi).2.1, ?_⟩)).mono fun e W' ⟨he, fr⟩ => ?_
  · obtain ⟨_, n, y, hy⟩ := (hl i hi).2
    exact open_strs2 hy
  subst he
  have bel : Below W.heap.size W W' := fr.below (Nat.le_refl _) (fun _ _ h => h)
  exact ⟨_, rfl, _, _, _, [], _, [], hW', trodAll_mk1 (shut_bool Try.underlying4 _), (trodAll_cons_mk (shut_int Try.underlying3 w0) (trodAll_cons_mk (Below.trod Try.laidOutP (by kernel_rfl) (of_decide_eq_true (by kernel_rfl)) k1 bel lt1) trodAll_mk0)), rfl, bel.frame _, fun h => by cases h⟩

theorem plays_holds : Rows.CachePlaysSaid :=
  OpenClaim.holds_of_wide 6 Try.f6 rfl rfl rfl rfl rfl rfl rfl ⟨rfl, rfl, rfl, rfl, rfl⟩ rfl rfl rfl rfl rfl (by kernel_rfl) Try.func6 (by kernel_rfl)
    (of_decide_eq_true (by kernel_rfl)) (by unfold Func.isWrapper; rw [if_neg (of_decide_eq_false (by kernel_rfl))]; exact ⟨rfl, rfl⟩)
    (fun os started H enc _ => plays_lifted os started H enc)
#print axioms plays_holds
end Go.Proofs.Ytjcjebmlibllbaa
