/-
  CacheNil answers true whatever it is given, and leaves its argument as it was. No condition.
-/
import Derived.Test.YtjcjebmlibllbaaCaNil
namespace Go.Proofs.Ytjcjebmlibllbaa
open Go Go.RowKit Go.Q Go.ChangeShapes Go.WideShapes Go.ChangeAt

theorem Try.ownN : ownKnob Try.prog.godebug = none := by kernel_rfl
theorem Try.laidOutN : laidOutB Try.prog = true := by kernel_rfl

theorem agg_form {w : World} {r : Reach} {base : Nat} {v : Value} (h : Value.okWide Try.prog w r base 34 v) : ∃ cs, v = .agg cs ∧ cs.size = 10 := by
  simp only [Value.okWide, Try.underlying34] at h
  obtain ⟨cs, h1, h2, _⟩ := h
  exact ⟨cs, h1, h2.trans c34⟩

theorem ten {α : Type} {l : List α} {x0 x1 x2 x3 x4 x5 x6 x7 x8 x9 : α} (hl : l.length = 10) (h0 : l[0]? = some x0) (h1 : l[1]? = some x1) (h2 : l[2]? = some x2) (h3 : l[3]? = some x3) (h4 : l[4]? = some x4)
    (h5 : l[5]? = some x5) (h6 : l[6]? = some x6) (h7 : l[7]? = some x7) (h8 : l[8]? = some x8) (h9 : l[9]? = some x9) : l = [x0, x1, x2, x3, x4, x5, x6, x7, x8, x9] := by
  refine List.ext_getElem? fun i => ?_
  match i with
  | 0 => exact h0
  | 1 => exact h1
  | 2 => exact h2
  | 3 => exact h3
  | 4 => exact h4
  | 5 => exact h5
  | 6 => exact h6
  | 7 => exact h7
  | 8 => exact h8
  | 9 => exact h9
  | i + 10 => rw [List.getElem?_eq_none (by omega), List.getElem?_eq_none (by simp)]

set_option maxRecDepth 100000 in
theorem nil_lifted (os : Os) (started : os.Started) (H : Type) (enc : TypeId × Value → H) :
    ReturnsInHanded {} Try.checked os 7 .any (Rows.cacheNilSpec.pre6 enc Try.prog Try.f7 Rows.cacheNilRow.domain false) (Rows.cacheNilSpec.post enc Try.prog Try.f7 false true false false) := by
  refine returnsInHanded_of_change (C := Try.checked) Try.ownN started (by kernel_rfl) Try.func7
    (ChangeSpec.witness6 (enc := enc) (C := Try.checked) false ⟨#[], #[.agg #[.int .i64 0, .string ⟨#[]⟩, .int .i64 0, .int .i64 0, .int .i64 0, .int .i64 0, .int .i64 0, .int .i64 0, .int .i64 0, .slice none 0 0]], []⟩ 8 (by kernel_rfl) (by kernel_rfl) (by kernel_rfl) (by kernel_rfl)) ?_
  intro W base args ds gs before hval0 hW hcnd _
  have hval : ∀ (j : Nat) t v, Try.f7.params[j]? = some t → args[j]? = some v → Value.okWide Try.prog W .any base t v := hval0
  have hW' := hW
  obtain ⟨p, q, hA0, hV, rfl, hfz, hnd⟩ := hW
  have hA : DataW.TrodAll enc Try.prog W 0 (fun _ => true) true Try.f7.params.toList args.toList ds p := hA0
  rw [Try.params7] at hA hval
  obtain ⟨v0, vs0, d0, ds0, p0, q0, hargs, rfl, rfl, h0, r0⟩ := trodAll_cons hA
  obtain ⟨rfl, rfl, rfl⟩ := trodAll_nil r0
  obtain rfl : args = #[v0] := by cases args; simp_all
  obtain ⟨rfl, rfl⟩ := trodVars_none hV
  obtain ⟨cs, rfl, hsz⟩ := agg_form (hval 0 34 v0 rfl rfl)
  have k0 := h0
  have lt0 : ∀ x ∈ p0, x.block < W.heap.size := by obtain ⟨m, hm⟩ := k0; exact DataW.trod_lt m _ _ _ hm
  obtain ⟨a, hcs⟩ : ∃ a : Act, cs = #[.int .i64 a.kind, .string a.s.key, .int .i64 a.s.k, .int .i64 a.s.date, .int .i64 a.s.reason, .int .i64 a.s.cause, .int .i64 a.s.fr, .int .i64 a.s.to, .int .i64 a.now, .slice a.ka a.kl a.kc] := by
    obtain ⟨fuel, hf⟩ := h0
    have hf' : DataW.trod enc Try.prog W 0 (fun _ => true) true fuel 34 cs.toList = some (d0, p0) := by simpa [Value.cells] using hf
    obtain ⟨a, _, _, g0, g1, g2, g3, g4, g5, g6, g7, g8, g9, _⟩ := act_cells hf'
    refine ⟨a, ?_⟩
    have := ten (by simpa using hsz) g0 g1 g2 g3 g4 g5 g6 g7 g8 g9
    exact Array.toList_inj.1 this
  clear hA0 hval0
  have hw : Calls Try.prog 7 #[.agg cs] W fun e w' => e = .returned (.bool true) ∧ Fr (fun _ => False) W w' := by rw [hcs]; exact nil_walk a W
  refine hw.mono fun e W' ⟨he, fr⟩ => ?_
  subst he
  have bel : Below W.heap.size W W' := fr.below (Nat.le_refl _) (fun _ _ h => h)
  exact ⟨_, rfl, _, _, _, [], _, [], hW', trodAll_mk1 (shut_bool Try.underlying4 _), (trodAll_cons_mk (Below.trod Try.laidOutN (by kernel_rfl) (of_decide_eq_true (by kernel_rfl)) k0 bel lt0) trodAll_mk0), rfl, bel.frame _, fun h => by cases h⟩

theorem nil_holds : Rows.CacheNilSaid :=
  OpenClaim.holds_of_wide 7 Try.f7 rfl rfl rfl rfl rfl rfl rfl ⟨rfl, rfl, rfl, rfl, rfl⟩ rfl rfl rfl rfl rfl (by kernel_rfl) Try.func7 (by kernel_rfl)
    (of_decide_eq_true (by kernel_rfl)) (by unfold Func.isWrapper; rw [if_neg (of_decide_eq_false (by kernel_rfl))]; exact ⟨rfl, rfl⟩)
    (fun os started H enc _ => nil_lifted os started H enc)
#print axioms nil_holds
end Go.Proofs.Ytjcjebmlibllbaa
