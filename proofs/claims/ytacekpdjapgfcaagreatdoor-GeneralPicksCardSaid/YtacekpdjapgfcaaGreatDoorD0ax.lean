/-
  Merged by program: XNAdd XGenN XGpLaw XGenD.
-/
import Derived.Test.YtacekpdjapgfcaaGreatDoorD0ak
import Derived.Test.YtacekpdjapgfcaaGreatDoorD0am
import Derived.Test.YtacekpdjapgfcaaGreatDoorD0aj
import Derived.Test.YtacekpdjapgfcaaGreatDoorD0at
import Derived.Test.YtacekpdjapgfcaaGreatDoorD0au
namespace Go.Q
open Go Go.RowKit
def KRow (t : TypeId) (w : World) (base : Nat) (v : Value) (l : List Part) : Prop :=
  ∃ cs : List Value, w.ownsRow base t 2 v l.length cs ∧ ∀ (i : Nat) (p : Part), l[i]? = some p → ∃ x y, cs[2 * i]? = some x ∧ cs[2 * i + 1]? = some y ∧ Kept (fun W => Ints W x p.o ∧ Bytes W y p.b) (fun k => v.ownBlock = some k ∨ k < base) w
theorem KRow.nil (t : TypeId) (w : World) (base : Nat) : KRow t w base (.slice none 0 0) [] := ⟨[], ⟨rfl, .inl ⟨rfl, rfl⟩⟩, fun i p hp => by simp at hp⟩
theorem KRow.keep {t : TypeId} {w : World} {base : Nat} {v : Value} {l : List Part} (h : KRow t w base v l) : ∀ k, v.ownBlock = some k → base ≤ k ∧ k < w.heap.size := fun k hk => by
  obtain ⟨us, h1, -⟩ := h
  exact h1.lt k hk
theorem KRow.at {t : TypeId} {w : World} {base : Nat} {v : Value} {l : List Part} (h : KRow t w base v l) : Attrs w v l := by
  obtain ⟨cs, h1, h2⟩ := h
  exact ARow.at (t := t) (w := w) (base := base) ⟨cs, h1, fun i p hp => by
    obtain ⟨x, y, e1, e2, e3⟩ := h2 i p hp
    exact ⟨x, y, e1, e2, e3.now.1, e3.now.2⟩⟩ (Fr.refl w)
theorem KRow.fr {t : TypeId} {S : Nat → Prop} {w w' : World} {base : Nat} {v : Value} {l : List Part} (h : KRow t w base v l) (f : Fr S w w') (hS : ∀ k, S k → k < base) : KRow t w' base v l := by
  have hk := h.keep
  obtain ⟨cs, h1, h2⟩ := h
  refine ⟨cs, Go.Proofs.YtacekpdjapgfcaaGreatDoor.ownsRow_fr h1 f (fun k e hs => by have := (hk k e).1; have := hS k hs; omega), fun i p hp => ?_⟩
  obtain ⟨x, y, e1, e2, e3⟩ := h2 i p hp
  exact ⟨x, y, e1, e2, e3.step f (fun k _ hs => .inr (hS k hs)) (fun k hk => .inl hk)⟩
theorem KRow.kept {t : TypeId} {w : World} {base : Nat} {v : Value} {l : List Part} (h : KRow t w base v l) : Kept (fun W => Attrs W v l) (fun k => k < base) w := fun _ f => (h.fr f (fun _ hk => hk)).at
theorem KRow.add {P : Program} {t s : TypeId} (hu0 : P.underlying s = some (.slice t)) (hinf : Info P t (.agg #[.slice none 0 0, .slice none 0 0]) 2 48) {w wa : World} {base : Nat} {v x y : Value} {l : List Part} (h : KRow t w base v l) (hb : base ≤ w.heap.size) (F1 : Fr (fun _ => False) w wa) (g : Nat) (BX : Blk wa g t #[x, y]) (p : Part) (hk : Kept (fun W => Ints W x p.o ∧ Bytes W y p.b) (fun k => v.ownBlock = some k ∨ k < base) w) (hn : l.length ≤ 109951162777) :
    ∃ a c w', (Builtin.append_ #[s, s] s #[v, .slice (some ⟨g, 0, none⟩) 1 1]).run P wa = .ok (.slice a (l.length + 1) c) w' ∧ KRow t w' base (.slice a (l.length + 1) c) (l ++ [p]) ∧ Fr (fun k => v.ownBlock = some k) w w' := by
  obtain ⟨cs, h1, h2⟩ := h
  have hcl : cs.length = l.length * 2 := h1.1
  obtain ⟨ax, cx, rfl, -⟩ := Ints.form hk.now.1
  obtain ⟨ay, cy, rfl, -⟩ := Vals.form hk.now.2
  obtain ⟨a, c, w', hrun, h4, F2, h5⟩ := add_gen hu0 hinf rfl (by decide) (by decide) h1 hb F1 g [.slice ax p.o.length cx, .slice ay p.b.length cy] rfl BX (by intro u hu; simp at hu; rcases hu with rfl | rfl <;> rfl) hn
  have hst : ∀ (x y : Value) (q : Part), Kept (fun W => Ints W x q.o ∧ Bytes W y q.b) (fun k => v.ownBlock = some k ∨ k < base) w → Kept (fun W => Ints W x q.o ∧ Bytes W y q.b) (fun k => (Value.slice a (l.length + 1) c).ownBlock = some k ∨ k < base) w' := fun x y q hq =>
    hq.step F2 (fun _ _ h => .inl h) (fun k hk => by
      rcases hk with h | h
      · rcases h5 k h with h | h
        · exact .inl (.inl h)
        · exact .inr h
      · exact .inl (.inr h))
  refine ⟨a, c, w', hrun, ⟨cs ++ [.slice ax p.o.length cx, .slice ay p.b.length cy], by rw [List.length_append]; exact h4, fun i q hq => ?_⟩, F2⟩
  rcases Nat.lt_or_ge i l.length with hi | hi
  · rw [List.getElem?_append_left hi] at hq
    obtain ⟨x, y, e1, e2, e3⟩ := h2 i q hq
    exact ⟨x, y, by rw [List.getElem?_append_left (by omega)]; exact e1, by rw [List.getElem?_append_left (by omega)]; exact e2, hst _ _ _ e3⟩
  · obtain rfl : i = l.length := by
      have := (List.getElem?_eq_some_iff.1 hq).1
      simp at this
      omega
    rw [List.getElem?_append_right (Nat.le_refl _)] at hq
    simp at hq
    subst hq
    refine ⟨_, _, ?_, ?_, hst _ _ _ hk⟩
    · rw [List.getElem?_append_right (by omega), show 2 * l.length - cs.length = 0 from by omega]; rfl
    · rw [List.getElem?_append_right (by omega), show 2 * l.length + 1 - cs.length = 1 from by omega]; rfl
theorem listOf {α : Type} {p : Nat → α → Prop} : ∀ n, (∀ i, i < n → ∃ a, p i a) → ∃ l : List α, l.length = n ∧ ∀ i a, l[i]? = some a → p i a
  | 0, _ => ⟨[], rfl, fun i a h => by simp at h⟩
  | n + 1, h => by
    obtain ⟨l, hl, hp⟩ := listOf n (fun i hi => h i (by omega))
    obtain ⟨a, ha⟩ := h n (by omega)
    refine ⟨l ++ [a], by simp [hl], fun i b hb => ?_⟩
    rcases Nat.lt_or_ge i l.length with hi | hi
    · rw [List.getElem?_append_left hi] at hb
      exact hp i b hb
    · rw [List.getElem?_append_right hi] at hb
      have h0 : i - l.length = 0 := by
        have := (List.getElem?_eq_some_iff.1 hb).1
        simp at this
        omega
      rw [h0] at hb
      simp only [List.getElem?_cons_zero, Option.some.injEq] at hb
      subst hb
      obtain rfl : i = n := by omega
      exact ha
theorem NameAt.vals {w : World} {v : Value} {n : List (List Part)} (h : NameAt w v n) : ∃ us, Vals w v us ∧ us.length = n.length ∧ (∀ u ∈ us, u.oneCell' = true) ∧ ∀ (i : Nat) (u : Value) (r : List Part), us[i]? = some u → n[i]? = some r → Attrs w u r := by
  obtain ⟨a, cap, rfl, h1, h2, h3⟩ := h
  rcases Nat.eq_zero_or_pos n.length with h0 | h0
  · exact ⟨[], ⟨a, cap, by rw [h0]; rfl, by simp, h2, fun h => by simp at h⟩, by rw [h0]; rfl, by simp, fun i u r h => by simp at h⟩
  · obtain ⟨b, o, rfl, hy⟩ := h3 h0
    obtain ⟨us, hl, hp⟩ := listOf (p := fun i u => w.cell? ⟨b, o + i, none⟩ = some u ∧ ∀ r, n[i]? = some r → Attrs w u r) n.length (fun i hi => by
      obtain ⟨x, e1, e2⟩ := hy i _ (List.getElem?_eq_getElem hi)
      exact ⟨x, e1, fun r hr => by rw [List.getElem?_eq_getElem hi] at hr; cases hr; exact e2⟩)
    refine ⟨us, ⟨_, cap, by rw [hl], by omega, h2, fun _ => ⟨b, o, rfl, fun i u hu => (hp i u hu).1⟩⟩, hl, fun u hu => ?_, fun i u r hu hr => (hp i u hu).2 r hr⟩
    obtain ⟨i, hi⟩ := List.mem_iff_getElem?.1 hu
    have hil : i < n.length := by have := (List.getElem?_eq_some_iff.1 hi).1; omega
    obtain ⟨ax, cx, rfl⟩ := ((hp i u hi).2 _ (List.getElem?_eq_getElem hil)).form
    rfl
def NamesAt (wb w : World) (v : Value) (L : List (List (List Part))) : Prop :=
  ∃ a cap, v = .slice a L.length cap ∧ (0 < L.length → ∃ b o, a = some ⟨b, o, none⟩ ∧ ∀ i n, L[i]? = some n → ∃ x, w.cell? ⟨b, o + i, none⟩ = some x ∧ NameAt wb x n)
def CRow (t : TypeId) (w wr : World) (base : Nat) (v : Value) (n : List (List Part)) : Prop :=
  ∃ us : List Value, wr.ownsRow base t 1 v n.length us ∧ us.length = n.length ∧ ∀ (i : Nat) (u : Value) (r : List Part), us[i]? = some u → n[i]? = some r → Attrs w u r
theorem CRow.at {t : TypeId} {w wr : World} {base : Nat} {v : Value} {n : List (List Part)} (h : CRow t w wr base v n) (F : Fr (fun _ => False) w wr) : NameAt wr v n := by
  obtain ⟨us, h1, h2, h3⟩ := h
  obtain ⟨a, cap, he, hc, hm, hx⟩ := (Vals.of_own h1).1
  rw [h2] at he hc hx
  refine ⟨a, cap, he, hc, hm, fun h0 => ?_⟩
  obtain ⟨b, o, rfl, hy⟩ := hx h0
  refine ⟨b, o, rfl, fun i r hr => ?_⟩
  have hi : i < us.length := by rw [h2]; exact (List.getElem?_eq_some_iff.1 hr).1
  exact ⟨us[i], hy i _ (List.getElem?_eq_getElem hi), (h3 i _ r (List.getElem?_eq_getElem hi) hr).old F⟩
theorem CRow.keep {t : TypeId} {w wr : World} {base : Nat} {v : Value} {n : List (List Part)} (h : CRow t w wr base v n) : ∀ k, v.ownBlock = some k → base ≤ k ∧ k < wr.heap.size := fun k hk => by
  obtain ⟨us, h1, -⟩ := h
  exact h1.lt k hk
theorem CRow.fr {t : TypeId} {S : Nat → Prop} {w wr w' : World} {base : Nat} {v : Value} {n : List (List Part)} (h : CRow t w wr base v n) (f : Fr S wr w') (hS : ∀ k, v.ownBlock = some k → ¬ S k) : CRow t w w' base v n := by
  obtain ⟨us, h1, h2⟩ := h
  exact ⟨us, Go.Proofs.YtacekpdjapgfcaaGreatDoor.ownsRow_fr h1 f hS, h2⟩
theorem CRow.shape {t : TypeId} {w wr : World} {base : Nat} {v : Value} {n : List (List Part)} (h : CRow t w wr base v n) : ∃ a c, v = .slice a n.length c := by
  obtain ⟨us, h1, -⟩ := h
  obtain ⟨a, m, c, rfl, rfl⟩ := own_shape h1
  exact ⟨a, c, rfl⟩
theorem CRow.add {P : Program} {t s : TypeId} (hu0 : P.underlying s = some (.slice t)) (hinf : Info P t (.slice none 0 0) 1 24) {w wr : World} {base : Nat} {v u : Value} {n r : List (List Part)} (h : CRow t w wr base v n) (hb : base ≤ wr.heap.size) (F : Fr (fun _ => False) w wr) (hr : NameAt w u r) (hn : n.length + r.length ≤ 1099511627776) :
    ∃ a c w', (Builtin.append_ #[s, s] s #[v, u]).run P wr = .ok (.slice a (n.length + r.length) c) w' ∧ CRow t w w' base (.slice a (n.length + r.length) c) (n ++ r) ∧ Fr (fun k => v.ownBlock = some k) wr w' := by
  obtain ⟨us, h1, h2, h3⟩ := h
  obtain ⟨ns, g1, g2, g3, g4⟩ := hr.vals
  obtain ⟨a, c, w', hrun, h4, F2, -⟩ := append_vals hu0 hinf rfl (by decide) h1 hb (g1.old F) g3 (by rw [g2]; exact hn)
  rw [g2] at hrun h4
  refine ⟨a, c, w', hrun, ⟨us ++ ns, by rw [List.length_append]; exact h4, by rw [List.length_append, List.length_append, h2, g2], fun i x q hx hq => ?_⟩, F2⟩
  rcases Nat.lt_or_ge i us.length with hi | hi
  · rw [List.getElem?_append_left hi] at hx
    rw [List.getElem?_append_left (by omega)] at hq
    exact h3 i x q hx hq
  · rw [List.getElem?_append_right hi] at hx
    rw [List.getElem?_append_right (by omega)] at hq
    rw [h2] at hx
    exact g4 _ x q hx hq
end Go.Q
namespace Go.Proofs.YtacekpdjapgfcaaGreatDoor
open Go Go.RowKit Go.Q
set_option linter.unusedSimpArgs false
set_option maxRecDepth 20000 in
set_option maxHeartbeats 1000000 in
theorem growRdn_any (n : Nat) (w : World) (hn : n ≤ 1000000000) :
    Calls Tryz.prog 167 #[.slice none 0 0, .int .i64 n] w fun e w' => (∃ a c, e = .returned (.slice a 0 c) ∧ w'.ownsRow w.heap.size 90 1 (.slice a 0 c) 0 []) ∧ Fr (fun _ => False) w w' := by
  obtain ⟨i0, hi0, hz0, hz1, hz2⟩ := info_parts info90
  have w0 : wrap64 ((n : Int) - 0) = (n : Int) := by unfold wrap64; omega
  rcases Nat.eq_zero_or_pos n with rfl | h0
  · go_enter Tryz.func167, Tryz.ntmps167
    go_wp2_with fail
    go_ret
    exact ⟨⟨none, 0, rfl, rfl, .inl ⟨rfl, rfl⟩⟩, Fr.refl _⟩
  · have hrz := fun ty => Lib.run_append_grow_zeros (P := Tryz.prog) w 25 3 ty 90 i0 _ .i64 .i64 Tryz.underlying25 Tryz.underlying3 hi0 hz0 none 0 0 [] (by rw [hz1]; rfl) n h0 (by rw [hz1]; decide) (by omega) (by omega) (by rw [hz2]; omega) (growslice_fits (by omega) (by rw [hz2]; omega))
    have hG := grownCap_ge w (0 + n) 0 90
    have hG2 := grownCap_le_maxLen w (0 + n) 0 90 (by unfold maxLen; omega)
    have hcsz : (([] : List Value).toArray ++ Builtin.zeroCells (Value.slice none 0 0).cells n ++ Builtin.zeroCells (Value.slice none 0 0).cells (grownCap w (0 + n) 0 90 - (0 + n))).size = grownCap w (0 + n) 0 90 * 1 := by
      simp only [Array.size_append, size_zeroCells, List.size_toArray, List.length_nil]
      have : (Value.slice none 0 0).cells.size = 1 := rfl
      rw [this]
      omega
    generalize ([] : List Value).toArray ++ Builtin.zeroCells (Value.slice none 0 0).cells n ++ Builtin.zeroCells (Value.slice none 0 0).cells (grownCap w (0 + n) 0 90 - (0 + n)) = cs at *
    generalize grownCap w (0 + n) 0 90 = G at *
    rw [Nat.zero_add] at hrz hG
    have BX := (Blk.new w.drew 90 cs)
    have F : Fr (fun _ => False) w (w.drew.alloc (.cells cs 90)) := (Fr.refl w).drew.alloc _
    have hown : (w.drew.alloc (.cells cs 90)).ownsRow w.heap.size 90 1 (.slice (some ⟨w.heap.size, 0, none⟩) 0 G) 0 [] := ⟨rfl, .inr ⟨w.heap.size, G, cs, rfl, Nat.le_refl _, BX, Nat.zero_le _, hG2, hcsz, rfl⟩⟩
    have HO := Lib.hid hown
    have HF := Lib.hid F
    have HRZ := Lib.hid hrz
    have hG63 : (G : Int) ≤ 9223372036854775807 := by unfold maxLen at hG2; omega
    have h1 : (0 : Int) < (n : Int) := by omega
    have hgn : (n : Int) ≤ (G : Int) := by omega
    clear hown F BX hrz hi0 hz0 hz1 hz2 hcsz hG2
    go_enter Tryz.func167, Tryz.ntmps167
    go_wp2_with (at_builtin; refine Lib.wpList_append_run _ rfl _ _ _ _ rfl _ _ rfl rfl _ _ (HRZ.out _) ?_)
    all_goals
      go_ret
      exact ⟨⟨_, _, rfl, HO.out⟩, HF.out⟩
set_option maxRecDepth 20000 in
set_option maxHeartbeats 2000000 in
theorem concatName_any (v : Value) (L : List (List (List Part))) (wb w : World) (h : NamesAt wb w v L) (Fb : Fr (fun _ => False) wb w) (hn : L.length ≤ 1000) (hr : ∀ n ∈ L, n.length ≤ 1000) :
    Calls Tryz.prog 129 #[v] w fun e w' => (∃ a c, e = .returned (.slice a L.flatten.length c) ∧ CRow 90 wb w' w.heap.size (.slice a L.flatten.length c) L.flatten) ∧ Fr (fun _ => False) w w' := by
  have H := Lib.hid h
  have HR := Lib.hid hr
  have HFB := Lib.hid Fb
  obtain ⟨a, cap, rfl, -⟩ := h
  have hfl : ∀ j, ((L.take j).flatten).length ≤ 1000 * 1000 := fun j => by
    have : ∀ m : List (List (List Part)), (∀ r ∈ m, r.length ≤ 1000) → m.flatten.length ≤ m.length * 1000 := by
      intro m
      induction m with
      | nil => intro _; simp
      | cons x t ih =>
        intro hm
        have h1 := hm x (by simp)
        have h2 := ih (fun r hr => hm r (by simp [hr]))
        simp only [List.flatten_cons, List.length_append, List.length_cons, Nat.add_mul]
        omega
    have h1 := this (L.take j) (fun r hm => HR.out r (List.mem_of_mem_take hm))
    have h2 : (L.take j).length * 1000 ≤ 1000 * 1000 := Nat.mul_le_mul_right _ (by rw [List.length_take]; omega)
    omega
  have hft : ∀ j n, L[j]? = some n → (L.take (j + 1)).flatten = (L.take j).flatten ++ n := fun j n h => by
    rw [List.take_add_one, h]
    simp
  have HFL := Lib.hid hfl
  have HFT0 := Lib.hid hft
  clear hr hfl hft Fb
  go_enter Tryz.func129, Tryz.ntmps129
  go_wp2_with fail
  go_loopg [3, 11] L.length (fun g s i wr => ∃ (j m : Nat), g = L.length - j ∧ j ≤ L.length ∧ s = .int .i64 m ∧ i = .int .i64 j ∧ m = ((L.take j).flatten).length ∧ wr = w)
  case atStart => exact ⟨0, 0, rfl, Nat.zero_le _, rfl, rfl, rfl, rfl⟩
  case round =>
    obtain ⟨j, m, hg, hj, rfl, rfl, hm, rfl⟩ := hrel
    have HG := Lib.hid hg
    have hml : m ≤ 1000 * 1000 := by rw [hm]; exact HFL.out j
    have HM := Lib.hid hm
    clear hg hm
    by_cases hjl : j < L.length
    · obtain ⟨a0, cap0, he, hx⟩ := H.out
      simp only [Value.slice.injEq, true_and] at he
      obtain ⟨rfl, rfl⟩ := he
      obtain ⟨b, off, rfl, hy⟩ := hx (by omega)
      obtain ⟨r, hr⟩ : ∃ r, L[j]? = some r := ⟨_, List.getElem?_eq_getElem hjl⟩
      obtain ⟨x, e1, hA⟩ := hy j r hr
      obtain ⟨ax, cx, rfl, -⟩ := hA
      have HFT := Lib.hid (HFT0.out j r hr)
      have b2 := HR.out r (List.mem_of_getElem? hr)
      have r1 : (0 : Int) ≤ (j : Int) := by omega
      have r2 : (j : Int) < (L.length : Int) := by omega
      clear hx hy hr
      have hnn : ¬ ((m : Int) + (r.length : Int)) < 0 := by omega
      go_wp2_with fail
      go_roundg (L.length - (j + 1))
      case measure => rw [HG.out]; omega
      case rel => exact ⟨j + 1, m + r.length, rfl, by omega, by go_num, by go_num, by rw [HFT.out, HM.out, List.length_append], rfl⟩
    · obtain rfl : j = L.length := by omega
      obtain ⟨wo, rfl⟩ : ∃ wo : World, wo = wr := ⟨_, rfl⟩
      have HGR := Lib.hid (growRdn_any m wo (by omega))
      clear hjl
      go_wp2_with fail
      refine HGR.out.mono ?_
      rintro e w1 ⟨⟨a1, c1, rfl, hown1⟩, F1⟩
      have HO1 := Lib.hid hown1
      have HF1 := Lib.hid F1
      clear HGR hown1 F1
      go_wp2_with fail
      go_loopg [6, 27] L.length (fun g s i w2 => ∃ (j : Nat) (l : List (List Part)) (a2 : Option Addr) (c2 : Nat), g = L.length - j ∧ j ≤ L.length ∧ s = .slice a2 l.length c2 ∧ i = .int .i64 j ∧ l = (L.take j).flatten ∧ CRow 90 wb w2 wo.heap.size (.slice a2 l.length c2) l ∧ Fr (fun _ => False) wo w2)
      case atStart => exact ⟨0, [], a1, c1, rfl, Nat.zero_le _, rfl, rfl, rfl, ⟨[], HO1.out, rfl, fun i u r h => by simp at h⟩, HF1.out⟩
      case round =>
        obtain ⟨j, l, a2, c2, hg, hj, rfl, rfl, hl, hrow, F2⟩ := hrel
        have HG := Lib.hid hg
        have HRW := Lib.hid hrow
        have HF2 := Lib.hid F2
        have hll : l.length ≤ 1000 * 1000 := by rw [hl]; exact HFL.out j
        have HL := Lib.hid hl
        clear hg hrow hl
        by_cases hjl : j < L.length
        · obtain ⟨a0, cap0, he, hx⟩ := H.out
          simp only [Value.slice.injEq, true_and] at he
          obtain ⟨rfl, rfl⟩ := he
          obtain ⟨b, off, rfl, hy⟩ := hx (by omega)
          obtain ⟨r, hr⟩ : ∃ r, L[j]? = some r := ⟨_, List.getElem?_eq_getElem hjl⟩
          obtain ⟨x, e0, hA⟩ := hy j r hr
          have e1 := F2.cell e0 (fun h => h)
          have hrr := HR.out r (List.mem_of_getElem? hr)
          have HFT := Lib.hid (HFT0.out j r hr)
          have hs2 := F2.size
          obtain ⟨a4, c4, w4, hrun, hrow4, F4⟩ := CRow.add Tryz.underlying25 info90 HRW.out hs2 (HFB.out.trans F2) hA (by omega)
          obtain ⟨ax, cx, rfl, -⟩ := hA
          have hbk := HRW.out.keep
          have HF4 := Lib.hid (F2.trans' F4 (fun i hi e => by have := (hbk i e).1; omega))
          have HRUN := Lib.hid hrun
          have HRW4 := Lib.hid hrow4
          have r1 : (0 : Int) ≤ (j : Int) := by omega
          have r2 : (j : Int) < (L.length : Int) := by omega
          clear hx hy hr hbk F4 hrun hrow4 F2 HRW HF2 e0
          go_wp2_with (at_builtin; refine wpList_append_run (by rfl) (.tmp 31) (.tmp 32) 25 (by rfl) _ w4 (by exact HRUN.out) ?_)
          go_roundg (L.length - (j + 1))
          case measure => rw [HG.out]; omega
          case rel => exact ⟨j + 1, l ++ r, a4, c4, rfl, by omega, by rw [List.length_append], by go_num, by rw [HFT.out, HL.out], by rw [List.length_append]; exact HRW4.out, HF4.out⟩
        · obtain rfl : j = L.length := by omega
          have hl2 := HL.out
          rw [List.take_length] at hl2
          have hrw := HRW.out
          rw [hl2] at hrw
          have HAT := Lib.hid hrw
          have hln : l.length = L.flatten.length := by rw [hl2]
          have HLN := Lib.hid hln
          have HL2 := Lib.hid hl2
          clear hl2 HRW hrw hln
          go_wp2_with fail
          go_ret
          exact ⟨⟨a2, c2, by rw [← HLN.out]; rfl, HAT.out⟩, HF2.out⟩
set_option maxRecDepth 20000 in
set_option maxHeartbeats 4000000 in
theorem copied_any (v : Value) (l : List Part) (w : World) (h : Attrs w v l) (hl : l.length ≤ 1000000) (ho : ∀ p ∈ l, p.o.length ≤ 100000000000 ∧ p.b.length ≤ 100000000000) :
    Calls Tryz.prog 130 #[v] w fun e w' => (∃ a c, e = .returned (.slice a l.length c) ∧ KRow 108 w' w.heap.size (.slice a l.length c) l) ∧ Fr (fun _ => False) w w' := by
  have H := Lib.hid h
  have HO := Lib.hid ho
  obtain ⟨a, cap, rfl, -⟩ := h
  clear ho
  go_enter Tryz.func130, Tryz.ntmps130
  go_wp2_with fail
  go_loopg [3, 8] l.length (fun g u i wr => ∃ (j : Nat) (au : Option Addr) (cu : Nat), g = l.length - j ∧ j ≤ l.length ∧ u = .slice au j cu ∧ i = .int .i64 j ∧ KRow 108 wr w.heap.size (.slice au j cu) (l.take j) ∧ Fr (fun _ => False) w wr)
  case atStart => exact ⟨0, none, 0, rfl, Nat.zero_le _, rfl, rfl, KRow.nil _ _ _, Fr.refl _⟩
  case round =>
    obtain ⟨j, au, cu, hg, hj, rfl, rfl, hrow, F⟩ := hrel
    have HG := Lib.hid hg
    have HRW := Lib.hid hrow
    have HF := Lib.hid F
    have hml : (l.take j).length = j := by rw [List.length_take]; omega
    have HML := Lib.hid hml
    clear hg hrow hml
    by_cases hjl : j < l.length
    · obtain ⟨a0, cap0, he, _, _, hx⟩ := H.out.old F
      simp only [Value.slice.injEq, true_and] at he
      obtain ⟨rfl, rfl⟩ := he
      obtain ⟨b, off, rfl, hy⟩ := hx (by omega)
      obtain ⟨p, hp⟩ : ∃ p, l[j]? = some p := ⟨_, List.getElem?_eq_getElem hjl⟩
      obtain ⟨x, y, e1, e2, hpx, hpy⟩ := hy j p hp
      have HPL := Lib.hid (HO.out p (List.mem_of_getElem? hp))
      obtain ⟨ax, cx, rfl, -⟩ := Ints.form hpx
      obtain ⟨ay, cy, rfl, -⟩ := Vals.form hpy
      have e1' : wr.cell? ⟨b, off + j * 2, none⟩ = some (.slice ax p.o.length cx) := by rw [Nat.mul_comm]; exact e1
      have e2' : wr.cell? ⟨b, off + j * 2 + 1, none⟩ = some (.slice ay p.b.length cy) := by rw [Nat.mul_comm]; exact e2
      have HPX := Lib.hid hpx
      have HPY := Lib.hid hpy
      have HMT := Lib.hid (show l.take (j + 1) = l.take j ++ [p] from by rw [List.take_add_one, hp]; rfl)
      have r1 : (0 : Int) ≤ (j : Int) := by omega
      have r2 : (j : Int) < (l.length : Int) := by omega
      clear hx hy hp e1 e2 hpx hpy F
      go_upto_region 5 with fail
      obtain ⟨z, hz⟩ : ∃ z, z = wr.heap.size := ⟨_, rfl⟩
      have BA := Blk.new wr 108 #[.slice ax p.o.length cx, .slice ay p.b.length cy]
      have F1 : Fr (fun _ => False) wr (wr.alloc (.cells #[.slice ax p.o.length cx, .slice ay p.b.length cy] 108)) := (Fr.refl wr).alloc _
      rw [← hz] at BA ⊢
      have HZ := Lib.hid hz
      have HKL := Lib.hid (show ∀ k, ((Value.slice au j cu).ownBlock = some k ∨ k < w.heap.size) → k < wr.heap.size from fun k hk => by
        rcases hk with h | h
        · exact (HRW.out.keep k h).2
        · have := HF.out.size; omega)
      clear hz e1' e2'
      generalize (wr.alloc (.cells #[.slice ax p.o.length cx, .slice ay p.b.length cy] 108)) = w1 at *
      have B := BA.drew
      have G : Fr (fun _ => False) wr w1.drew := F1.drew
      clear BA F1
      go_region_held3 (fun w' => ∀ j, w'.cell? ⟨z, j, none⟩ = (#[.slice ax p.o.length cx, .slice ay p.b.length cy] : Array Value)[j]?) (first | exact B.cell | exact (B.alloc _).cell) (first
        | (go_at_call 87; refine (cloneInt_any _ p.o _ (HPX.out.old G) HPL.out.1).mono ?_; rintro e w' ⟨⟨u, rfl, hu⟩, F⟩; obtain ⟨ai, mi, ci, rfl, rfl⟩ := own_shape hu; have hkI := own_kept hu (fun k => (Value.slice au j cu).ownBlock = some k ∨ k < w.heap.size) (fun k hk => Nat.lt_of_lt_of_le (HKL.out k hk) G.size); (try replace hkB := hkB.old F); replace B := B.fr F (fun h => h); replace G := G.trans F; clear hu F)
        | (go_at_call 88; refine (cloneByte_any _ p.b _ (HPY.out.old G) HPL.out.2).mono ?_; rintro e w' ⟨⟨u, rfl, hu⟩, F⟩; obtain ⟨ab, mb, cb, rfl, rfl⟩ := own_shape hu; have hkB := own_kept hu (fun k => (Value.slice au j cu).ownBlock = some k ∨ k < w.heap.size) (fun k hk => Nat.lt_of_lt_of_le (HKL.out k hk) G.size); (try replace hkI := hkI.old F); replace B := B.fr F (fun h => h); replace G := G.trans F; clear hu F)
        | (obtain ⟨a7, c7, w7, hrun, hrow7, F7⟩ := KRow.add Tryz.underlying90 info108 (HRW.out.fr G (fun _ h => h.elim)) (HF.out.trans G).size ((Fr.refl w').alloc (.cells #[.slice ai p.o.length ci, .slice ab p.b.length cb] 108)) w'.heap.size (Blk.new w' 108 #[.slice ai p.o.length ci, .slice ab p.b.length cb]) p (fun W f => ⟨hkI W f, hkB W f⟩) (by rw [HML.out]; omega); rw [HML.out] at hrun hrow7; refine step_append_run (by rfl) (.tmp 12) (.tmp 20) 90 (by rfl) _ w7 (by exact hrun) ?_; have hG7 := (HF.out.trans G).trans' F7 (fun i hi e => absurd hi (by have := (HRW.out.keep i e).1; omega)); replace B := B.fr F7 (fun e => by have := (HRW.out.keep z e).2; have := HZ.out; omega); clear hrun F7))
      all_goals
        have HG7 := Lib.hid hG7
        have HROW7 := Lib.hid hrow7
        clear hG7 hrow7 G B hkI hkB
        go_wp2_with fail
        go_roundg (l.length - (j + 1))
        case measure => rw [HG.out]; omega
        case rel => exact ⟨j + 1, a7, c7, rfl, by omega, rfl, by go_num, by rw [HMT.out]; exact HROW7.out, HG7.out⟩
    · obtain rfl : j = l.length := by omega
      have hrow := HRW.out
      rw [List.take_length] at hrow
      have HROW := Lib.hid hrow
      clear hrow
      go_wp2_with fail
      go_ret
      exact ⟨⟨au, cu, rfl, HROW.out⟩, F⟩
def AddOut (w' : World) (n : List (List Part)) (e : Ending) : Prop :=
  if nameOk n = true then ∃ a c, e = .returned (.tuple #[.slice a n.length c, .int .i64 0]) ∧ NameAt w' (.slice a n.length c) n else e = .returned (.tuple #[.slice none 0 0, .int .i64 1])
def AddKeep (K : Nat → Prop) (w' : World) (n : List (List Part)) (e : Ending) : Prop :=
  if nameOk n = true then ∃ a c, e = .returned (.tuple #[.slice a n.length c, .int .i64 0]) ∧ Kept (fun W => NameAt W (.slice a n.length c) n) K w' else e = .returned (.tuple #[.slice none 0 0, .int .i64 1])
theorem AddKeep.out {K : Nat → Prop} {w' : World} {n : List (List Part)} {e : Ending} (h : AddKeep K w' n e) : AddOut w' n e := by
  unfold AddKeep at h
  unfold AddOut
  split at h
  · obtain ⟨a, c, h1, h2⟩ := h
    rw [if_pos (by assumption)]
    exact ⟨a, c, h1, h2.now⟩
  · rw [if_neg (by assumption)]
    exact h
set_option maxRecDepth 20000 in
set_option maxHeartbeats 4000000 in
theorem nameAddK_any (v u : Value) (n m : List (List Part)) (w : World) (h : NameAt w v n) (hm : NameAt w u m) (hnl : n.length ≤ 1000) (hml : m.length ≤ 1000) (hs : ∀ r ∈ n ++ m, fewB r ∧ r.length ≤ 1000000 ∧ ∀ p ∈ r, p.o.length ≤ 100000000000) :
    Calls Tryz.prog 83 #[v, u] w fun e w' => AddKeep (fun k => k < w.heap.size) w' (n ++ m) e ∧ Fr (fun _ => False) w w' := by
  obtain ⟨av, cv, rfl, -⟩ := h.form
  obtain ⟨au, cu, rfl, -⟩ := hm.form
  have H := Lib.hid h
  have HM := Lib.hid hm
  have HS := Lib.hid hs
  obtain ⟨L, hL⟩ : ∃ L, L = n ++ m := ⟨_, rfl⟩
  have hLl : L.length ≤ 2000 := by rw [hL, List.length_append]; omega
  rw [← hL] at HS ⊢
  have HLL := Lib.hid hL
  clear h hm hs hL
  go_enter Tryz.func83, Tryz.ntmps83
  go_upto_region 2 with fail
  have B0 := Blk.new w 90 #[]
  have F0 : Fr (fun _ => False) w (w.alloc (.cells #[] 90)) := (Fr.refl w).alloc _
  have N0 : GRow 1 RStep (fun k => k < w.heap.size) 90 (w.alloc (.cells #[] 90)) w.heap.size (.slice (some ⟨w.heap.size, 0, none⟩) 0 0) [] := ⟨[], own_block B0 0 (Nat.le_refl _) (Nat.zero_le _) w.heap.size (Nat.le_refl _), fun i r h => by simp at h⟩
  have F1 : Fr (fun _ => False) (w.alloc (.cells #[] 90)) ((w.alloc (.cells #[] 90)).alloc (.cells #[.slice av n.length cv, .slice au m.length cu] 25)) := (Fr.refl _).alloc _
  have B1 := Blk.new (w.alloc (.cells #[] 90)) 25 #[.slice av n.length cv, .slice au m.length cu]
  have hNA : NamesAt w ((w.alloc (.cells #[] 90)).alloc (.cells #[.slice av n.length cv, .slice au m.length cu] 25)) (.slice (some ⟨w.heap.size + 1, 0, none⟩) 2 2) [n, m] := by
    refine ⟨_, 2, rfl, fun _ => ⟨w.heap.size + 1, 0, rfl, fun i q hq => ?_⟩⟩
    rw [World.size_alloc] at B1
    match i, hq with
    | 0, hq =>
      simp only [List.getElem?_cons_zero, Option.some.injEq] at hq
      subst hq
      exact ⟨_, B1.cell 0, H.out⟩
    | 1, hq =>
      simp only [List.getElem?_cons_succ, List.getElem?_cons_zero, Option.some.injEq] at hq
      subst hq
      exact ⟨_, B1.cell 1, HM.out⟩
    | i + 2, hq => simp at hq
  have HC := Lib.hid (concatName_any _ [n, m] w _ hNA (F0.trans F1) (by simp) (by simp; omega))
  rw [show ([n, m] : List (List (List Part))).flatten = L from by rw [HLL.out]; simp] at HC
  have HN0 := Lib.hid (N0.old F1)
  have HF1 := Lib.hid (F0.trans F1)
  clear N0 B0 B1 F0 F1 hNA
  go_wp2_with fail
  refine HC.out.mono ?_
  rintro e w2 ⟨⟨ac, cc, rfl, hat⟩, F2⟩
  have hs1 : w.heap.size + 2 ≤ w2.heap.size := by have := F2.size; simp only [World.size_alloc] at this; omega
  have HN2 := Lib.hid (HN0.out.old F2)
  have HF2 := Lib.hid (HF1.out.trans F2)
  have hbk := hat.keep
  simp only [World.size_alloc] at hbk
  have HBK := Lib.hid hbk
  have HAT := Lib.hid hat
  clear HC F2 hat HN0 HF1 hbk
  go_wp2_with fail
  go_loopg [6, 15] L.length (fun g s i wr => ∃ (j : Nat) (a3 : Option Addr) (c3 : Nat) (base : Nat), g = L.length - j ∧ j ≤ L.length ∧ s = .slice a3 j c3 ∧ i = .int .i64 j ∧ GRow 1 RStep (fun k => k < w.heap.size) 90 wr w.heap.size (.slice a3 j c3) (L.take j) ∧ Fr (fun _ => False) w wr ∧ w2.heap.size ≤ wr.heap.size ∧ CRow 90 w wr base (.slice ac L.length cc) L ∧ (∀ k, (Value.slice a3 j c3).ownBlock = some k → k = w.heap.size ∨ w2.heap.size ≤ k))
  case atStart => exact ⟨0, _, 0, _, rfl, Nat.zero_le _, rfl, rfl, HN2.out, HF2.out, Nat.le_refl _, HAT.out, fun k hk => .inl (by simpa [Value.ownBlock] using hk.symm)⟩
  case round =>
    obtain ⟨j, a3, c3, base, hg, hj, rfl, rfl, hrow, F, hsz, hcr, hown⟩ := hrel
    have HG := Lib.hid hg
    have HRW := Lib.hid hrow
    have HF := Lib.hid F
    have HCR := Lib.hid hcr
    have HOWN := Lib.hid hown
    have hml : (L.take j).length = j := by rw [List.length_take]; omega
    have HML := Lib.hid hml
    clear hg hrow hml hcr hown
    by_cases hjl : j < L.length
    · obtain ⟨us, g1, g2, g3⟩ := HCR.out
      obtain ⟨a0, cap0, he, _, _, hx⟩ := (Vals.of_own g1).1
      rw [g2] at he hx
      simp only [Value.slice.injEq, true_and] at he
      obtain ⟨rfl, rfl⟩ := he
      obtain ⟨b, off, rfl, hy⟩ := hx (by omega)
      obtain ⟨r, hr⟩ : ∃ r, L[j]? = some r := ⟨_, List.getElem?_eq_getElem hjl⟩
      obtain ⟨x, hxu⟩ : ∃ x, us[j]? = some x := ⟨_, List.getElem?_eq_getElem (by omega)⟩
      have e1 := hy j x hxu
      have hA := (g3 j x r hxu hr).old F
      obtain ⟨ar, cr, rfl⟩ := hA.form
      have hmem := List.mem_of_getElem? hr
      obtain ⟨h1, h2, h3⟩ := HS.out r hmem
      have HCP := Lib.hid (copied_any _ r wr hA h2 (fun p hp => ⟨h3 p hp, by have := h1 p hp; omega⟩))
      have HMT := Lib.hid (show L.take (j + 1) = L.take j ++ [r] from by rw [List.take_add_one, hr]; rfl)
      have r1 : (0 : Int) ≤ (j : Int) := by omega
      have r2 : (j : Int) < (L.length : Int) := by omega
      clear g1 g2 g3 hx hy hr hxu hA hmem h1 h3 F
      obtain ⟨wo, hwo⟩ : ∃ wo : World, wo = wr := ⟨_, rfl⟩
      obtain rfl := hwo
      go_wp2_with fail
      refine HCP.out.mono ?_
      rintro e w3 ⟨⟨a2, c2, rfl, hrow2⟩, F3⟩
      have hkp := HRW.out.keep
      have hk2 : Kept (fun W => RStep W [.slice a2 r.length c2] r) (fun k => (Value.slice a3 j c3).ownBlock = some k ∨ k < w.heap.size) w3 := step_of (hrow2.kept.weaken (fun k e => by
        rcases e with e | e
        · exact (hkp k e).2
        · exact Nat.lt_of_lt_of_le e HF.out.size))
      obtain ⟨a7, c7, w7, hrun, hrow7, F7, hown7⟩ := GRow.add Tryz.underlying25 info90 rfl (by decide) (by decide) (HRW.out.old F3) (HF.out.trans F3).size ((Fr.refl w3).alloc (.cells #[.slice a2 r.length c2] 90)) w3.heap.size [.slice a2 r.length c2] rfl (Blk.new w3 90 #[.slice a2 r.length c2]) (by intro u hu; simp at hu; subst hu; rfl) r hk2 (by rw [HML.out]; omega)
      have HG7 := Lib.hid ((HF.out.trans F3).trans' F7 (fun i hi e => absurd hi (by have := (hkp i e).1; omega)))
      have hs7 : w2.heap.size ≤ w7.heap.size := by have := F3.size; have := F7.size; omega
      have hcr7 := (HCR.out.fr F3 (fun _ _ h => h)).fr F7 (fun k hk e => by
        have := HBK.out k hk
        rcases HOWN.out k e with h | h <;> omega)
      rw [HML.out] at hrun hrow7 hown7
      have HRUN := Lib.hid hrun
      have HROW7 := Lib.hid hrow7
      have HCR7 := Lib.hid hcr7
      have HOWN7 := Lib.hid (show ∀ k, (Value.slice a7 (j + 1) c7).ownBlock = some k → k = w.heap.size ∨ w2.heap.size ≤ k from fun k hk => by
        rcases hown7 k hk with h | h
        · exact HOWN.out k h
        · have := F3.size; exact .inr (by omega))
      clear hrun hrow7 F7 hk2 hkp hrow2 F3 e1 HCP hcr7 hown7
      go_wp2_with (at_builtin; refine wpList_append_run (by rfl) (.tmp 19) (.tmp 22) 25 (by rfl) _ w7 (by exact HRUN.out) ?_)
      go_roundg (L.length - (j + 1))
      case measure => rw [HG.out]; omega
      case rel => exact ⟨j + 1, a7, c7, base, rfl, by omega, rfl, by go_num, by rw [HMT.out]; exact HROW7.out, HG7.out, hs7, HCR7.out, HOWN7.out⟩
    · obtain rfl : j = L.length := by omega
      have hrow := HRW.out
      rw [List.take_length] at hrow
      have HAT2 := Lib.hid (hrow.at (by decide)).name
      have HKP := Lib.hid ((hrow.kept (by decide) (fun k => k < w.heap.size) (fun k h => ⟨h, h⟩)).imp (fun W h => h.name))
      have hfw : ∀ r ∈ L, fewB r := fun r hr => (HS.out r hr).1
      have HFW := Lib.hid hfw
      have HRI := Lib.hid (right_any _ L wr HAT2.out hfw)
      clear hrow hfw
      go_wp2_with fail
      refine HRI.out.mono ?_
      rintro e w3 ⟨rfl, F3⟩
      have HG3 := Lib.hid (HF.out.trans F3)
      have HAT3 := Lib.hid (HKP.out.old F3)
      clear F3 HRI
      cases hok : nameOk L with
      | false =>
        have HK := Lib.hid hok
        clear hok
        go_wp2_with fail
        refine bodyPost_ret (v := .tuple #[.slice none 0 0, .int .i64 1]) (by simp [results, Tryz.results83, go_sem]) rfl ⟨?_, HG3.out⟩
        unfold AddKeep
        rw [if_neg (by rw [HK.out]; simp)]
      | true =>
        have HK := Lib.hid hok
        clear hok
        go_wp2_with fail
        refine bodyPost_ret (v := .tuple #[.slice a3 L.length c3, .int .i64 0]) (by simp [results, Tryz.results83, go_sem]) rfl ⟨?_, HG3.out⟩
        unfold AddKeep
        rw [if_pos HK.out]
        exact ⟨_, _, rfl, HAT3.out⟩
end Go.Proofs.YtacekpdjapgfcaaGreatDoor

namespace Go.Q
open Go Go.RowKit
def RName (W : World) (cs : List Value) (n : List (List Part)) : Prop := ∃ u, cs = [u] ∧ NameAt W u n
abbrev NamesL (W : World) (v : Value) (l : List (List (List Part))) : Prop := LAt 1 RName W v l
theorem RName.old (w w' : World) (cs : List Value) (n : List (List Part)) (h : RName w cs n) (f : Fr (fun _ => False) w w') : RName w' cs n := by
  obtain ⟨u, rfl, h1⟩ := h
  exact ⟨u, rfl, h1.old f⟩
theorem NamesL.old {w w' : World} {v : Value} {l : List (List (List Part))} (h : NamesL w v l) (f : Fr (fun _ => False) w w') : NamesL w' v l := LAt.old RName.old h f
def namesS (l : List Gen) : List (List (List Part)) := (l.filter fun g => decide (g.k = 4) && genOk g).map (·.n)
theorem names_take {l : List Gen} {j : Nat} {x : Gen} (h : l[j]? = some x) : namesS (l.take (j + 1)) = namesS (l.take j) ++ if (decide (x.k = 4) && genOk x) = true then [x.n] else [] := by
  unfold namesS
  rw [List.take_add_one, h]
  simp only [Option.toList_some, List.filter_append, List.map_append, List.filter_cons, List.filter_nil]
  congr 1
  split <;> simp_all
theorem nok_of {g : Gen} (h : genOk g = true) (h4 : g.k = 4) : nameOk g.n = true := by
  unfold genOk at h
  rw [if_pos h4, Bool.and_eq_true] at h
  exact h.2
def fitN (n : List (List Part)) : Prop := n.length ≤ 1000 ∧ ∀ r ∈ n, fewB r ∧ r.length ≤ 1000000 ∧ ∀ p ∈ r, p.o.length ≤ 100000000000
end Go.Q
namespace Go.Proofs.YtacekpdjapgfcaaGreatDoor
open Go Go.RowKit Go.Q
set_option linter.unusedSimpArgs false
theorem info25 : (Tryz.prog.info? 25).map (fun i => (i.zero, i.size, i.bytes)) = some (some (.slice none 0 0), 1, 24) := by kernel_rfl
theorem nameAdd_ok (v : Value) (n : List (List Part)) (w : World) (h : NameAt w v n) (hf : fitN n) (hok : nameOk n = true) :
    Calls Tryz.prog 83 #[v, .slice none 0 0] w fun e w' => (∃ a c, e = .returned (.tuple #[.slice a n.length c, .int .i64 0]) ∧ Kept (fun W => NameAt W (.slice a n.length c) n) (fun k => k < w.heap.size) w') ∧ Fr (fun _ => False) w w' :=
  (nameAddK_any v (.slice none 0 0) n [] w h (name_nil (fun _ => True) w).now hf.1 (by simp) (by rw [List.append_nil]; exact hf.2)).mono fun e w' ⟨h1, h2⟩ => by
    unfold AddKeep at h1
    rw [List.append_nil, if_pos hok] at h1
    exact ⟨h1, h2⟩
set_option maxRecDepth 20000 in
set_option maxHeartbeats 4000000 in
theorem names_any (v : Value) (l : List Gen) (w : World) (h : Gens w v l) (hf : ∀ g ∈ l, fewG g ∧ fitN g.n) (hl : l.length ≤ 1000000) :
    Calls Tryz.prog 35 #[v] w fun e w' => (∃ a c, e = .returned (.slice a (namesS l).length c) ∧ NamesL w' (.slice a (namesS l).length c) (namesS l)) ∧ Fr (fun _ => False) w w' := by
  have H := Lib.hid h
  have HFW := Lib.hid hf
  obtain ⟨a0, cap0, rfl, -⟩ := h
  clear hf
  go_enter Tryz.func35, Tryz.ntmps35
  go_wp2_with fail
  go_loopg [3, 10] l.length (fun g u i wr => ∃ (j : Nat) (a : Option Addr) (c : Nat) (ks : List (List (List Part))), g = l.length - j ∧ j ≤ l.length ∧ u = .slice a ks.length c ∧ i = .int .i64 j ∧ ks.length ≤ j ∧ Hid (ks = namesS (l.take j)) ∧ GRow 1 RName (fun _ => False) 25 wr w.heap.size (.slice a ks.length c) ks ∧ Fr (fun _ => False) w wr)
  case atStart => exact ⟨0, none, 0, [], rfl, Nat.zero_le _, rfl, rfl, by simp, Lib.hid rfl, GRow.nil _ _ _ _ _ _, Fr.refl _⟩
  case round =>
    obtain ⟨j, a, c, ks, hg, hj, rfl, rfl, hkl, HKS, ho, F⟩ := hrel
    have HG := Lib.hid hg
    have HOW := Lib.hid ho
    have HF := Lib.hid F
    clear hg ho
    by_cases hjl : j < l.length
    · obtain ⟨x, hx⟩ : ∃ x, l[j]? = some x := ⟨_, List.getElem?_eq_getElem hjl⟩
      obtain ⟨b, o, ab, cb, an, cn, rfl, -, hga, e0, e1, e2⟩ := (H.out.old F).get hx
      have r1 : (0 : Int) ≤ (j : Int) := by omega
      have r2 : (j : Int) < (l.length : Int) := by omega
      have HX := Lib.hid hx
      have hfx := HFW.out x (List.mem_of_getElem? hx)
      have HFT := Lib.hid hfx.2
      obtain ⟨y, hy⟩ : ∃ y, y = wr.heap.size := ⟨_, rfl⟩
      have F1 : Fr (fun _ => False) wr (wr.alloc (.cells #[.int .i64 x.k, .slice ab x.b.length cb, .slice an x.n.length cn] 42)) := (Fr.refl wr).alloc _
      have BY := Blk.new wr 42 #[.int .i64 x.k, .slice ab x.b.length cb, .slice an x.n.length cn]
      rw [← hy] at BY
      have HGA := Lib.hid (hga.old F1)
      have HF1 := Lib.hid (F.trans F1)
      have HOW1 := Lib.hid (HOW.out.old F1)
      have HR := Lib.hid (genRight_any _ x _ (hga.old F1) hfx.1)
      clear hx hga F F1 HOW HF hfx
      go_upto_region 5 with fail
      rw [← hy]
      clear hy e0 e1 e2
      generalize (wr.alloc (.cells #[.int .i64 x.k, .slice ab x.b.length cb, .slice an x.n.length cn] 42)) = w1 at *
      have HBY := Lib.hid BY
      have y0 := BY.cell 0
      have y1 := BY.cell 1
      have y2 := BY.cell 2
      simp only [List.getElem?_toArray, List.getElem?_cons_succ, List.getElem?_cons_zero] at y0 y1 y2
      have skip : (decide (x.k = 4) && genOk x) = false → Hid (ks = namesS (l.take (j + 1))) := fun h => Lib.hid (by rw [names_take HX.out, ← HKS.out, h]; simp)
      have HSK := Lib.hid skip
      have more : (decide (x.k = 4) && genOk x) = true → Hid (ks ++ [x.n] = namesS (l.take (j + 1))) := fun h => Lib.hid (by rw [names_take HX.out, ← HKS.out, h]; simp)
      have HMO := Lib.hid more
      clear skip more BY
      by_cases h6 : x.k = 4
      · have q1 : (x.k == 4) = true := by rw [h6]; rfl
        obtain ⟨d, hd⟩ : ∃ d, d = genOk x := ⟨_, rfl⟩
        have HD := Lib.hid (show (decide (x.k = 4) && genOk x) = d by rw [decide_eq_true h6, hd]; rfl)
        have HNO := Lib.hid (show d = true → nameOk x.n = true from fun h => nok_of (hd.symm.trans h) h6)
        rw [← hd] at HR
        clear hd h6
        go_wp2_with fail
        refine HR.out.mono ?_
        rintro e w2 ⟨rfl, F2⟩
        have HF2 := Lib.hid (HF1.out.trans F2)
        have HOW2 := Lib.hid (HOW1.out.old F2)
        have BY2 := HBY.out.fr F2 (fun h => h)
        clear y0 y1 y2
        have y2 := BY2.cell 2
        simp only [List.getElem?_toArray, List.getElem?_cons_succ, List.getElem?_cons_zero] at y2
        cases d with
        | false =>
          have HN := HSK.out HD.out
          clear F2 BY2 HOW1 HF1 HR y2
          go_wp2_with fail
          go_roundg (l.length - (j + 1))
          case measure => rw [HG.out]; omega
          case rel => exact ⟨j + 1, a, c, ks, rfl, by omega, rfl, by go_num, by omega, HN, HOW2.out, HF2.out⟩
        | true =>
          have HN := HMO.out HD.out
          obtain ⟨vb, vn, heq, -, hnx⟩ := HGA.out.old F2
          simp only [Value.agg.injEq, Array.mk.injEq, List.cons.injEq, and_true, true_and] at heq
          obtain ⟨rfl, rfl⟩ := heq
          have HAD := Lib.hid (nameAdd_ok _ x.n w2 hnx HFT.out (HNO.out rfl))
          clear F2 BY2 HOW1 HF1 HR hnx HNO
          go_wp2_with fail
          refine HAD.out.mono ?_
          rintro e w3 ⟨⟨a3, c3, rfl, hkn⟩, F3⟩
          have hkp := HOW2.out.keep
          obtain ⟨a7, c7, w7, hr7, ho7, F7, -⟩ := GRow.add Tryz.underlying66 info25 rfl (by decide) (by decide) (HOW2.out.old F3) (HF2.out.trans F3).size ((Fr.refl w3).alloc (.cells #[.slice a3 x.n.length c3] 25)) w3.heap.size [.slice a3 x.n.length c3] rfl (Blk.new w3 25 #[.slice a3 x.n.length c3]) (by intro u hu; simp at hu; subst hu; rfl) x.n
            (show Kept (fun W => RName W [.slice a3 x.n.length c3] x.n) (fun k => (Value.slice a ks.length c).ownBlock = some k ∨ False) w3 from (hkn.weaken (fun k e => by rcases e with e | e; exact (hkp k e).2; exact e.elim)).imp (fun W h => ⟨_, rfl, h⟩)) (by omega)
          have HF7 := Lib.hid ((HF2.out.trans F3).trans' F7 (fun i hi e => absurd hi (by have := (hkp i e).1; omega)))
          have HO7 := Lib.hid ho7
          have HRUN := Lib.hid hr7
          clear hr7 ho7 F7 hkn F3 HAD hkp y2 HOW2 HF2
          go_wp2_with (at_builtin; refine wpList_append_run (by rfl) (.tmp 27) (.tmp 29) 66 (by rfl) _ w7 (by exact HRUN.out) ?_)
          go_roundg (l.length - (j + 1))
          case measure => rw [HG.out]; omega
          case rel => exact ⟨j + 1, a7, c7, ks ++ [x.n], rfl, by omega, by rw [List.length_append]; rfl, by go_num, by rw [List.length_append]; simp; omega, HN, by rw [List.length_append]; exact HO7.out, HF7.out⟩
      · have q1 : (x.k == 4) = false := beq_eq_false_iff_ne.2 h6
        have HN := HSK.out (by rw [decide_eq_false h6]; rfl)
        clear h6
        go_wp2_with fail
        go_roundg (l.length - (j + 1))
        case measure => rw [HG.out]; omega
        case rel => exact ⟨j + 1, a, c, ks, rfl, by omega, rfl, by go_num, by omega, HN, HOW1.out, HF1.out⟩
    · have hks := HKS.out
      rw [List.take_of_length_le (by omega)] at hks
      have HE := Lib.hid hks
      clear hks
      go_wp2_with fail
      go_ret
      rw [← HE.out]
      exact ⟨⟨a, c, rfl, HOW.out.at (by decide)⟩, F⟩
set_option maxRecDepth 20000 in
set_option maxHeartbeats 2000000 in
theorem uri_any (l : List UInt8) (w : World) (hl : l.length ≤ 1099511627776) :
    Calls Tryz.prog 39 #[str l] w fun e w' => (∃ a c, e = .returned (.agg #[.int .i64 6, .slice a l.length c, .slice none 0 0]) ∧ Kept (fun W => Bytes W (.slice a l.length c) l) (fun k => k < w.heap.size) w') ∧ Fr (fun _ => False) w w' := by
  obtain ⟨z, hz⟩ : ∃ z, z = w.heap.size := ⟨_, rfl⟩
  have HZ := Lib.hid hz
  have F1 : Fr (fun _ => False) w (w.alloc (.cells #[.int .i64 0, .slice none 0 0, .slice none 0 0] 42)) := (Fr.refl w).alloc _
  have B := Blk.new w 42 #[.int .i64 0, .slice none 0 0, .slice none 0 0]
  rw [← hz] at B
  clear hz
  go_enter Tryz.func39, Tryz.ntmps39
  go_upto_region 1 with fail
  rw [← HZ.out]
  generalize w.alloc (.cells #[.int .i64 0, .slice none 0 0, .slice none 0 0] 42) = w1 at *
  obtain ⟨c, w2, hrun, hB, F2, hsz⟩ := bytes_of_str w1 l hl
  have D := B.fr F2 (fun h => h)
  have d0 := D.cell 0
  have d1 := D.cell 1
  have d2 := D.cell 2
  have f0 := D.frozen 0
  have f1 := D.frozen 1
  have f2 := D.frozen 2
  have D5 := set3 D (.int .i64 6) (.slice (some ⟨w1.heap.size, 0, none⟩) l.length c) (.slice none 0 0)
  have n0 := D5.1.cell 0
  have n1 := D5.1.cell 1
  have n2 := D5.1.cell 2
  simp only [List.getElem?_toArray, List.getElem?_cons_succ, List.getElem?_cons_zero] at d0 d1 d2 n0 n1 n2
  have hz1 := B.lt
  have HB := Lib.hid (show Kept (fun W => Bytes W (.slice (some ⟨w1.heap.size, 0, none⟩) l.length c) l) (fun k => k < w.heap.size) _ from fun W f => hB.fr (S := fun k => k = z ∨ k < w.heap.size) ((D5.2.mono (fun _ _ h => .inl h)).trans (f.mono (fun _ _ h => .inr h))) (fun _ k hk hs => by simp [Value.ownBlock] at hk; have := HZ.out; omega))
  have HF := Lib.hid ((F1.trans F2).trans' D5.2 (fun i hi e => by have := HZ.out; omega))
  clear hB F1 F2 D D5 B hsz hz1
  go_wp2_with fail
  exact bodyPost_ret (v := .agg #[.int .i64 6, .slice (some ⟨w1.heap.size, 0, none⟩) l.length c, .slice none 0 0]) (by simp [results, Tryz.results39, go_sem, n0, n1, n2]) rfl ⟨⟨_, c, rfl, HB.out⟩, HF.out⟩
end Go.Proofs.YtacekpdjapgfcaaGreatDoor

namespace Go.Q
open Go Go.RowKit
theorem filt_cut {α β : Type} (p : α → Bool) (f : α → β) {l : List α} {j : Nat} {x : α} (hx : l[j]? = some x) (hp : p x = true) : (l.filter p).map f = ((l.take j).filter p).map f ++ f x :: ((l.drop (j + 1)).filter p).map f := by
  have h : l = l.take j ++ x :: l.drop (j + 1) := by
    obtain ⟨hj, rfl⟩ := List.getElem?_eq_some_iff.1 hx
    rw [List.getElem_cons_drop, List.take_append_drop]
  conv => lhs; rw [h]
  rw [List.filter_append, List.map_append, List.filter_cons_of_pos hp, List.map_cons]
theorem names_at {l : List Gen} {j : Nat} {x : Gen} (hx : l[j]? = some x) (hp : (decide (x.k = 4) && genOk x) = true) : (namesS l)[(namesS (l.take j)).length]? = some x.n := by
  unfold namesS
  rw [filt_cut _ _ hx hp, List.getElem?_append_right (Nat.le_refl _), Nat.sub_self]
  rfl
theorem uris_at {l : List Gen} {j : Nat} {x : Gen} (hx : l[j]? = some x) (hp : (decide (x.k = 6) && genOk x) = true) : (urisS l)[(urisS (l.take j)).length]? = some x.b := by
  unfold urisS
  rw [filt_cut _ _ hx hp, List.getElem?_append_right (Nat.le_refl _), Nat.sub_self]
  rfl
theorem names_len (l : List Gen) : (namesS l).length ≤ l.length := by
  unfold namesS
  rw [List.length_map]
  exact List.length_filter_le _ _
theorem uris_len (l : List Gen) : (urisS l).length ≤ l.length := by
  unfold urisS
  rw [List.length_map]
  exact List.length_filter_le _ _
theorem names_next {l : List Gen} {j : Nat} {x : Gen} (h : l[j]? = some x) : (namesS (l.take (j + 1))).length = (namesS (l.take j)).length + if (decide (x.k = 4) && genOk x) = true then 1 else 0 := by
  rw [names_take h, List.length_append]
  split <;> rfl
theorem uris_next {l : List Gen} {j : Nat} {x : Gen} (h : l[j]? = some x) : (urisS (l.take (j + 1))).length = (urisS (l.take j)).length + if (decide (x.k = 6) && genOk x) = true then 1 else 0 := by
  rw [uris_take h, List.length_append]
  split <;> rfl
theorem NamesL.get {w : World} {a : Option Addr} {n c : Nat} {l : List (List (List Part))} (h : NamesL w (.slice a n c) l) {i : Nat} {x : List (List Part)} (hi : l[i]? = some x) : ∃ b o an cn, a = some ⟨b, o, none⟩ ∧ n = l.length ∧ NameAt w (.slice an x.length cn) x ∧ w.cell? ⟨b, o + i, none⟩ = some (.slice an x.length cn) := by
  obtain ⟨a0, c0, he, h1, h2, h3⟩ := h
  simp only [Value.slice.injEq] at he
  obtain ⟨rfl, rfl, rfl⟩ := he
  have hil := (List.getElem?_eq_some_iff.1 hi).1
  obtain ⟨b, o, rfl, hy⟩ := h3 (by omega)
  obtain ⟨cs, -, e2, u, rfl, g1⟩ := hy i x hi
  have g2 := g1
  obtain ⟨an, cn, rfl, -⟩ := g2
  have := e2 0 _ rfl
  rw [Nat.one_mul] at this
  exact ⟨b, o, an, cn, rfl, rfl, g1, this⟩
theorem cutName_fit (n : List (List Part)) : fitN (cutName n) := by
  refine ⟨by have := cutName_len n; omega, fun r hr => ⟨cutName_few n r hr, ?_, fun p hp => ?_⟩⟩
  · obtain ⟨s, -, rfl⟩ := List.mem_map.1 hr
    have := cutStep_len s
    omega
  · obtain ⟨s, -, rfl⟩ := List.mem_map.1 hr
    obtain ⟨q, -, rfl⟩ := List.mem_map.1 hp
    show (q.o.take 40).length ≤ _
    rw [List.length_take]
    omega
theorem few_fit {l : List Gen} : ∀ g ∈ fewS l, fewG g ∧ fitN g.n := fun g hg => by
  obtain ⟨q, -, rfl⟩ := List.mem_map.1 hg
  refine ⟨⟨?_, fun r hr => ((cutName_fit (q.n.take 5)).2 r hr).1⟩, cutName_fit (q.n.take 5)⟩
  show (q.b.take 300).length ≤ _
  rw [List.length_take]
  omega
theorem few_wide {l : List Gen} : ∀ g ∈ fewS l, g.n.length ≤ 1000000 ∧ ∀ r ∈ g.n, r.length ≤ 1000000 := fun g hg => by
  have h := (few_fit g hg).2
  exact ⟨by have := h.1; omega, fun r hr => (h.2 r hr).2.1⟩
theorem few_most (l : List Gen) : (fewS l).length ≤ 20 := by
  unfold fewS
  rw [List.length_map, List.length_take]
  omega
def Bag (t : TypeId) (w0 W : World) (l : List Nat) : Prop := Fr (fun _ => False) w0 W ∧ l.Nodup ∧ ∀ z ∈ l, w0.heap.size ≤ z ∧ Blk W z t #[.int .i64 0, .slice none 0 0, .slice none 0 0]
theorem Bag.lt {t : TypeId} {w0 W : World} {l : List Nat} (h : Bag t w0 W l) : ∀ z ∈ l, z < W.heap.size := fun z hz => (h.2.2 z hz).2.lt
theorem Bag.more {t : TypeId} {w0 W : World} {l : List Nat} (h : Bag t w0 W l) : Bag t w0 (W.alloc (.cells #[.int .i64 0, .slice none 0 0, .slice none 0 0] t)) (W.heap.size :: l) := by
  refine ⟨h.1.alloc _, List.nodup_cons.2 ⟨fun hm => Nat.lt_irrefl _ (h.lt _ hm), h.2.1⟩, fun z hz => ?_⟩
  rcases List.mem_cons.1 hz with rfl | hz
  · exact ⟨h.1.size, Blk.new _ _ _⟩
  · exact ⟨(h.2.2 z hz).1, (h.2.2 z hz).2.alloc _⟩
theorem Bag.call {t : TypeId} {w0 W W' : World} {l : List Nat} (h : Bag t w0 W l) (F : Fr (fun _ => False) W W') : Bag t w0 W' l := ⟨h.1.trans F, h.2.1, fun z hz => ⟨(h.2.2 z hz).1, (h.2.2 z hz).2.fr F (fun h => h)⟩⟩
theorem Bag.drew {t : TypeId} {w0 W : World} {l : List Nat} (h : Bag t w0 W l) : Bag t w0 W.drew l := ⟨h.1.drew, h.2.1, fun z hz => ⟨(h.2.2 z hz).1, (h.2.2 z hz).2.drew⟩⟩
abbrev Held (R : World → Prop) (l : List Nat) (W : World) : Prop := Kept R (fun k => k ∈ l) W
theorem Held.more {R : World → Prop} {l : List Nat} {W : World} (h : Held R l W) (o : Obj) : Held R (W.heap.size :: l) (W.alloc o) := Kept.step h (S := fun _ => False) ((Fr.refl W).alloc o) (fun _ _ h => h.elim) (fun k hk => by
  rcases List.mem_cons.1 hk with rfl | hk
  · exact .inr (Nat.le_refl _)
  · exact .inl hk)
theorem Bag.held {t : TypeId} {w0 W : World} {l : List Nat} (h : Bag t w0 W l) {R : World → Prop} {w' : World} (hk : Kept R (fun k => k < W.heap.size) w') : Held R l w' := fun V f => hk V (f.mono (fun k _ hm => h.lt k hm))
def put3 (W : World) (z : Nat) (a b c : Value) : World := ((W.setCell ⟨z, 0, none⟩ a).setCell ⟨z, 1, none⟩ b).setCell ⟨z, 2, none⟩ c
def Done (t : TypeId) (w0 : World) (R : World → Prop) (a b c d e f : Value) (V : World) (p q : Nat) : Prop := Blk V p t #[a, b, c] ∧ Blk V q t #[d, e, f] ∧ R V ∧ Fr (fun _ => False) w0 V
theorem Bag.fill {t : TypeId} {w0 W : World} {x y : Nat} (h : Bag t w0 W [x, y]) {R : World → Prop} (hk : Held R [x, y] W) (a b c d e f : Value) :
    Done t w0 R a b c d e f (put3 (put3 W x a b c) y d e f) x y ∧ Done t w0 R a b c d e f (put3 (put3 W y a b c) x d e f) y x ∧
    Blk (put3 W x a b c) y t #[.int .i64 0, .slice none 0 0, .slice none 0 0] ∧ Blk (put3 W y a b c) x t #[.int .i64 0, .slice none 0 0, .slice none 0 0] ∧ Blk W x t #[.int .i64 0, .slice none 0 0, .slice none 0 0] ∧ Blk W y t #[.int .i64 0, .slice none 0 0, .slice none 0 0] := by
  obtain ⟨F, hn, hz⟩ := h
  have hxy : x ≠ y := by
    intro e
    rw [e] at hn
    simp at hn
  obtain ⟨lx, Bx⟩ := hz x (by simp)
  obtain ⟨ly, By⟩ := hz y (by simp)
  have X1 := Go.Proofs.YtacekpdjapgfcaaGreatDoor.set3 Bx a b c
  have Y1 := By.fr X1.2 (fun e => hxy e.symm)
  have Y2 := Go.Proofs.YtacekpdjapgfcaaGreatDoor.set3 Y1 d e f
  have X2 := X1.1.fr Y2.2 hxy
  have y1 := Go.Proofs.YtacekpdjapgfcaaGreatDoor.set3 By a b c
  have x1 := Bx.fr y1.2 hxy
  have x2 := Go.Proofs.YtacekpdjapgfcaaGreatDoor.set3 x1 d e f
  have y2 := y1.1.fr x2.2 (fun e => hxy e.symm)
  exact ⟨⟨X2, Y2.1, hk _ ((X1.2.mono (fun k _ e => by simp [e])).trans (Y2.2.mono (fun k _ e => by simp [e]))), (F.trans' X1.2 (fun i hi e => by omega)).trans' Y2.2 (fun i hi e => by omega)⟩,
    ⟨y2, x2.1, hk _ ((y1.2.mono (fun k _ e => by simp [e])).trans (x2.2.mono (fun k _ e => by simp [e]))), (F.trans' y1.2 (fun i hi e => by omega)).trans' x2.2 (fun i hi e => by omega)⟩, Y1, x1, Bx, By⟩
theorem Bag.fill1 {t : TypeId} {w0 W : World} {x : Nat} (h : Bag t w0 W [x]) {R : World → Prop} (hk : Held R [x] W) (a b c d e f : Value) :
    Done t w0 R a b c d e f (put3 (W.alloc (.cells #[a, b, c] t)) x d e f) W.heap.size x ∧ Done t w0 R a b c d e f (put3 (put3 (W.alloc (.cells #[.int .i64 0, .slice none 0 0, .slice none 0 0] t)) x a b c) W.heap.size d e f) x W.heap.size ∧
    Blk (W.alloc (.cells #[a, b, c] t)) x t #[.int .i64 0, .slice none 0 0, .slice none 0 0] ∧ Blk (put3 (W.alloc (.cells #[.int .i64 0, .slice none 0 0, .slice none 0 0] t)) x a b c) W.heap.size t #[.int .i64 0, .slice none 0 0, .slice none 0 0] ∧ Blk (W.alloc (.cells #[.int .i64 0, .slice none 0 0, .slice none 0 0] t)) x t #[.int .i64 0, .slice none 0 0, .slice none 0 0] := by
  have h2 := h.more.fill (hk.more (.cells #[.int .i64 0, .slice none 0 0, .slice none 0 0] t)) a b c d e f
  obtain ⟨F, -, hz⟩ := h
  obtain ⟨lx, Bx⟩ := hz x (by simp)
  have hlt := Bx.lt
  have N1 := Blk.new W t #[a, b, c]
  have B1 := Bx.alloc (.cells #[a, b, c] t)
  have X2 := Go.Proofs.YtacekpdjapgfcaaGreatDoor.set3 B1 d e f
  have N2 := N1.fr X2.2 (by omega)
  exact ⟨⟨N2, X2.1, hk.more (.cells #[a, b, c] t) _ (X2.2.mono (fun k _ e => by simp [e])), (F.alloc _).trans' X2.2 (fun i hi e => by omega)⟩, h2.2.1, B1, h2.2.2.2.1, h2.2.2.2.2.2⟩
theorem Bag.fill0 {t : TypeId} {w0 W : World} (h : Bag t w0 W []) {R : World → Prop} (hk : Held R [] W) (a b c d e f : Value) :
    Done t w0 R a b c d e f ((W.alloc (.cells #[a, b, c] t)).alloc (.cells #[d, e, f] t)) W.heap.size (W.heap.size + 1) ∧ Done t w0 R a b c d e f ((W.alloc (.cells #[d, e, f] t)).alloc (.cells #[a, b, c] t)) (W.heap.size + 1) W.heap.size ∧
    Done t w0 R a b c d e f (put3 ((W.alloc (.cells #[.int .i64 0, .slice none 0 0, .slice none 0 0] t)).alloc (.cells #[a, b, c] t)) W.heap.size d e f) (W.heap.size + 1) W.heap.size ∧ Blk ((W.alloc (.cells #[.int .i64 0, .slice none 0 0, .slice none 0 0] t)).alloc (.cells #[a, b, c] t)) W.heap.size t #[.int .i64 0, .slice none 0 0, .slice none 0 0] := by
  have K : ∀ o q, R ((W.alloc o).alloc q) := fun o q => hk _ (((Fr.refl W).alloc o).alloc q)
  have N : ∀ (o : Obj) (cs : Array Value), Blk ((W.alloc o).alloc (.cells cs t)) (W.heap.size + 1) t cs := fun o cs => by
    have := Blk.new (W.alloc o) t cs
    rwa [World.size_alloc] at this
  have O : ∀ (cs : Array Value) (q : Obj), Blk ((W.alloc (.cells cs t)).alloc q) W.heap.size t cs := fun cs q => (Blk.new W t cs).alloc q
  have X := Go.Proofs.YtacekpdjapgfcaaGreatDoor.set3 (O #[.int .i64 0, .slice none 0 0, .slice none 0 0] (.cells #[a, b, c] t)) d e f
  have hs := h.1.size
  refine ⟨⟨O _ _, N _ _, K _ _, (h.1.alloc _).alloc _⟩, ⟨N _ _, O _ _, K _ _, (h.1.alloc _).alloc _⟩, ⟨(N _ _).fr X.2 (by omega), X.1, hk _ ?_, ((h.1.alloc _).alloc _).trans' X.2 (fun i hi e => by omega)⟩, O _ _⟩
  exact (((Fr.refl W).alloc _).alloc _).trans' X.2 (fun i hi e => by omega)
theorem bag_two {t : TypeId} {w0 W : World} {l : List Nat} (h : Bag t w0 W l) : Bag t w0 ((W.alloc (.cells #[.int .i64 0, .slice none 0 0, .slice none 0 0] t)).alloc (.cells #[.int .i64 0, .slice none 0 0, .slice none 0 0] t)) ((W.heap.size + 1) :: W.heap.size :: l) := by
  have := h.more.more
  rwa [World.size_alloc] at this
theorem held_two {R : World → Prop} {l : List Nat} {W : World} (h : Held R l W) (o q : Obj) : Held R ((W.heap.size + 1) :: W.heap.size :: l) ((W.alloc o).alloc q) := by
  have := (h.more o).more q
  rwa [World.size_alloc] at this
end Go.Q

namespace Go.Proofs.YtacekpdjapgfcaaGreatDoor
open Go Go.RowKit Go.Q
set_option linter.unusedSimpArgs false
set_option maxRecDepth 20000 in
set_option maxHeartbeats 4000000 in
theorem directory_any (v : Value) (n : List (List Part)) (w : World) (h : NameAt w v n) (hn : n.length ≤ 1000) (hr : ∀ r ∈ n, r.length ≤ 1000000 ∧ ∀ p ∈ r, p.o.length ≤ 100000000000 ∧ p.b.length ≤ 100000000000) :
    Calls Tryz.prog 38 #[v] w fun e w' => (∃ a c, e = .returned (.agg #[.int .i64 4, .slice none 0 0, .slice a n.length c]) ∧ Kept (fun W => NameAt W (.slice a n.length c) n) (fun k => k < w.heap.size) w') ∧ Fr (fun _ => False) w w' := by
  have H := Lib.hid h
  have HS := Lib.hid hr
  obtain ⟨a, cap, rfl, -⟩ := h
  clear hr
  obtain ⟨z, hz⟩ : ∃ z, z = w.heap.size := ⟨_, rfl⟩
  have HZ := Lib.hid hz
  have FZ : Fr (fun _ => False) w (w.alloc (.cells #[.int .i64 0, .slice none 0 0, .slice none 0 0] 42)) := (Fr.refl w).alloc _
  have BZ := Blk.new w 42 #[.int .i64 0, .slice none 0 0, .slice none 0 0]
  rw [← hz] at BZ
  replace H := Lib.hid (H.out.old FZ)
  clear hz
  go_enter Tryz.func38, Tryz.ntmps38
  go_upto_region 1 with fail
  rw [← HZ.out]
  generalize w.alloc (.cells #[.int .i64 0, .slice none 0 0, .slice none 0 0] 42) = w1 at *
  have HBZ := Lib.hid BZ
  have HFZ := Lib.hid FZ
  have B0 := Blk.new w1 90 #[]
  have F0 : Fr (fun _ => False) w1 (w1.alloc (.cells #[] 90)) := (Fr.refl w1).alloc _
  have N0 : GRow 1 RStep (fun k => k < w1.heap.size) 90 (w1.alloc (.cells #[] 90)) w1.heap.size (.slice (some ⟨w1.heap.size, 0, none⟩) 0 0) [] := ⟨[], own_block B0 0 (Nat.le_refl _) (Nat.zero_le _) w1.heap.size (Nat.le_refl _), fun i r h => by simp at h⟩
  have HN0 := Lib.hid N0
  have HF0 := Lib.hid F0
  clear B0 F0 N0 BZ FZ
  go_wp2_with fail
  go_loopg [3, 12] n.length (fun g s i wr => ∃ (j : Nat) (a3 : Option Addr) (c3 : Nat), g = n.length - j ∧ j ≤ n.length ∧ s = .slice a3 j c3 ∧ i = .int .i64 j ∧ GRow 1 RStep (fun k => k < w1.heap.size) 90 wr w1.heap.size (.slice a3 j c3) (n.take j) ∧ Fr (fun _ => False) w1 wr)
  case atStart => exact ⟨0, _, 0, rfl, Nat.zero_le _, rfl, rfl, HN0.out, HF0.out⟩
  case round =>
    obtain ⟨j, a3, c3, hg, hj, rfl, rfl, hrow, F⟩ := hrel
    have HG := Lib.hid hg
    have HRW := Lib.hid hrow
    have HF := Lib.hid F
    have hml : (n.take j).length = j := by rw [List.length_take]; omega
    have HML := Lib.hid hml
    clear hg hrow hml HN0 HF0
    by_cases hjl : j < n.length
    · obtain ⟨a0, cap0, he, _, _, hx⟩ := H.out.old F
      simp only [Value.slice.injEq, true_and] at he
      obtain ⟨rfl, rfl⟩ := he
      obtain ⟨b, off, rfl, hy⟩ := hx (by omega)
      obtain ⟨r, hr⟩ : ∃ r, n[j]? = some r := ⟨_, List.getElem?_eq_getElem hjl⟩
      obtain ⟨u, e1, hA⟩ := hy j r hr
      obtain ⟨ar, cr, rfl⟩ := hA.form
      have HA := Lib.hid hA
      have HSR := Lib.hid (HS.out r (List.mem_of_getElem? hr))
      have hrl := HSR.out.1
      have HMT := Lib.hid (show n.take (j + 1) = n.take j ++ [r] from by rw [List.take_add_one, hr]; rfl)
      have r1 : (0 : Int) ≤ (j : Int) := by omega
      have r2 : (j : Int) < (n.length : Int) := by omega
      obtain ⟨wo, hwo⟩ : ∃ wo : World, wo = wr := ⟨_, rfl⟩
      obtain rfl := hwo
      clear hx hy hr hA F
      go_wp2_with fail
      go_loopg [6, 18] r.length (fun g u i wr => ∃ (j : Nat) (au : Option Addr) (cu : Nat), g = r.length - j ∧ j ≤ r.length ∧ u = .slice au j cu ∧ i = .int .i64 j ∧ KRow 108 wr wo.heap.size (.slice au j cu) (r.take j) ∧ Fr (fun _ => False) wo wr)
      case atStart => exact ⟨0, none, 0, rfl, Nat.zero_le _, rfl, rfl, KRow.nil _ _ _, Fr.refl _⟩
      case round =>
        obtain ⟨i, au, cu, hg2, hi, rfl, rfl, hrow, F⟩ := hrel
        have HG2 := Lib.hid hg2
        have HRW2 := Lib.hid hrow
        have HF2 := Lib.hid F
        have hml : (r.take i).length = i := by rw [List.length_take]; omega
        have HML2 := Lib.hid hml
        clear hg2 hrow hml
        by_cases hil : i < r.length
        · obtain ⟨a0, cap0, he, _, _, hx⟩ := HA.out.old F
          simp only [Value.slice.injEq, true_and] at he
          obtain ⟨rfl, rfl⟩ := he
          obtain ⟨b1, off1, rfl, hy⟩ := hx (by omega)
          obtain ⟨p, hp⟩ : ∃ p, r[i]? = some p := ⟨_, List.getElem?_eq_getElem hil⟩
          obtain ⟨x, y, e2, e3, hpx, hpy⟩ := hy i p hp
          have HPL := Lib.hid (HSR.out.2 p (List.mem_of_getElem? hp))
          obtain ⟨ax, cx, rfl, -⟩ := Ints.form hpx
          obtain ⟨ay, cy, rfl, -⟩ := Vals.form hpy
          have e2' : wr.cell? ⟨b1, off1 + i * 2, none⟩ = some (.slice ax p.o.length cx) := by rw [Nat.mul_comm]; exact e2
          have e3' : wr.cell? ⟨b1, off1 + i * 2 + 1, none⟩ = some (.slice ay p.b.length cy) := by rw [Nat.mul_comm]; exact e3
          have HPX := Lib.hid hpx
          have HPY := Lib.hid hpy
          have HMT2 := Lib.hid (show r.take (i + 1) = r.take i ++ [p] from by rw [List.take_add_one, hp]; rfl)
          have r3 : (0 : Int) ≤ (i : Int) := by omega
          have r4 : (i : Int) < (r.length : Int) := by omega
          clear hx hy hp e2 e3 hpx hpy F e1
          go_upto_region 9 with fail
          obtain ⟨z, hz⟩ : ∃ z, z = wr.heap.size := ⟨_, rfl⟩
          have BA := Blk.new wr 108 #[.slice ax p.o.length cx, .slice ay p.b.length cy]
          have F1 : Fr (fun _ => False) wr (wr.alloc (.cells #[.slice ax p.o.length cx, .slice ay p.b.length cy] 108)) := (Fr.refl wr).alloc _
          rw [← hz] at BA ⊢
          have HZ := Lib.hid hz
          have HKL := Lib.hid (show ∀ k, ((Value.slice au i cu).ownBlock = some k ∨ k < wo.heap.size) → k < wr.heap.size from fun k hk => by
            rcases hk with h | h
            · exact (HRW2.out.keep k h).2
            · have := HF2.out.size; omega)
          clear hz e2' e3'
          generalize (wr.alloc (.cells #[.slice ax p.o.length cx, .slice ay p.b.length cy] 108)) = w1 at *
          have B := BA.drew
          have G : Fr (fun _ => False) wr w1.drew := F1.drew
          clear BA F1
          go_region_held3 (fun w' => ∀ j, w'.cell? ⟨z, j, none⟩ = (#[.slice ax p.o.length cx, .slice ay p.b.length cy] : Array Value)[j]?) (first | exact B.cell | exact (B.alloc _).cell) (first
            | (go_at_call 87; refine (cloneInt_any _ p.o _ (HPX.out.old G) HPL.out.1).mono ?_; rintro e w' ⟨⟨u, rfl, hu⟩, F⟩; obtain ⟨ai, mi, ci, rfl, rfl⟩ := own_shape hu; have hkI := own_kept hu (fun k => (Value.slice au i cu).ownBlock = some k ∨ k < wo.heap.size) (fun k hk => Nat.lt_of_lt_of_le (HKL.out k hk) G.size); (try replace hkB := hkB.old F); replace B := B.fr F (fun h => h); replace G := G.trans F; clear hu F)
            | (go_at_call 88; refine (cloneByte_any _ p.b _ (HPY.out.old G) HPL.out.2).mono ?_; rintro e w' ⟨⟨u, rfl, hu⟩, F⟩; obtain ⟨ab, mb, cb, rfl, rfl⟩ := own_shape hu; have hkB := own_kept hu (fun k => (Value.slice au i cu).ownBlock = some k ∨ k < wo.heap.size) (fun k hk => Nat.lt_of_lt_of_le (HKL.out k hk) G.size); (try replace hkI := hkI.old F); replace B := B.fr F (fun h => h); replace G := G.trans F; clear hu F)
            | (obtain ⟨a7, c7, w7, hrun, hrow7, F7⟩ := KRow.add Tryz.underlying90 info108 (HRW2.out.fr G (fun _ h => h.elim)) (HF2.out.trans G).size ((Fr.refl w').alloc (.cells #[.slice ai p.o.length ci, .slice ab p.b.length cb] 108)) w'.heap.size (Blk.new w' 108 #[.slice ai p.o.length ci, .slice ab p.b.length cb]) p (fun W f => ⟨hkI W f, hkB W f⟩) (by rw [HML2.out]; omega); rw [HML2.out] at hrun hrow7; refine step_append_run (by rfl) (.tmp 22) (.tmp 30) 90 (by rfl) _ w7 (by exact hrun) ?_; have hG7 := (HF2.out.trans G).trans' F7 (fun i hi e => absurd hi (by have := (HRW2.out.keep i e).1; omega)); replace B := B.fr F7 (fun e => by have := (HRW2.out.keep z e).2; have := HZ.out; omega); clear hrun F7))
          all_goals
            have HG7 := Lib.hid hG7
            have HROW7 := Lib.hid hrow7
            clear hG7 hrow7 G B hkI hkB
            go_wp2_with fail
            go_roundg (r.length - (i + 1))
            case measure => rw [HG2.out]; omega
            case rel => exact ⟨i + 1, a7, c7, rfl, by omega, rfl, by go_num, by rw [HMT2.out]; exact HROW7.out, HG7.out⟩
        · obtain rfl : i = r.length := by omega
          have hrow2 := HRW2.out
          rw [List.take_length] at hrow2
          have hkp := HRW.out.keep
          have hk2 : Kept (fun W => RStep W [.slice au r.length cu] r) (fun k => (Value.slice a3 j c3).ownBlock = some k ∨ k < w1.heap.size) wr := step_of (hrow2.kept.weaken (fun k e => by
            rcases e with e | e
            · exact (hkp k e).2
            · exact Nat.lt_of_lt_of_le e HF.out.size))
          obtain ⟨a7, c7, w7, hrun, hrow7, F7, -⟩ := GRow.add Tryz.underlying25 info90 rfl (by decide) (by decide) (HRW.out.old F) (HF.out.trans F).size ((Fr.refl wr).alloc (.cells #[.slice au r.length cu] 90)) wr.heap.size [.slice au r.length cu] rfl (Blk.new wr 90 #[.slice au r.length cu]) (by intro u hu; simp at hu; subst hu; rfl) r hk2 (by rw [HML.out]; omega)
          have HG7 := Lib.hid ((HF.out.trans F).trans' F7 (fun i hi e => absurd hi (by have := (hkp i e).1; omega)))
          rw [HML.out] at hrun hrow7
          have HRUN := Lib.hid hrun
          have HROW7 := Lib.hid hrow7
          clear hrun hrow7 F7 hk2 hkp hrow2 e1 HRW2 F HF2
          go_wp2_with (at_builtin; refine wpList_append_run (by rfl) (.tmp 33) (.tmp 35) 25 (by rfl) _ w7 (by exact HRUN.out) ?_)
          go_roundg (n.length - (j + 1))
          case measure => rw [HG.out]; omega
          case rel => exact ⟨j + 1, a7, c7, rfl, by omega, rfl, by go_num, by rw [HMT.out]; exact HROW7.out, HG7.out⟩
    · obtain rfl : j = n.length := by omega
      have hrow := HRW.out
      rw [List.take_length] at hrow
      have hkn := (hrow.kept (by decide) (fun k => k < w1.heap.size) (fun k h => ⟨h, h⟩)).imp (fun W h => h.name)
      have D := HBZ.out.fr F (fun h => h)
      have hzl := HBZ.out.lt
      have d0 := D.cell 0
      have d1 := D.cell 1
      have d2 := D.cell 2
      have f0 := D.frozen 0
      have f1 := D.frozen 1
      have f2 := D.frozen 2
      have D5 := set3 D (.int .i64 4) (.slice none 0 0) (.slice a3 n.length c3)
      have n0 := D5.1.cell 0
      have n1 := D5.1.cell 1
      have n2 := D5.1.cell 2
      simp only [List.getElem?_toArray, List.getElem?_cons_succ, List.getElem?_cons_zero] at d0 d1 d2 n0 n1 n2
      have HAT := Lib.hid (hkn.step (K' := fun k => k < w.heap.size) D5.2 (fun k _ e => by omega) (fun k hk => .inl (by have := HZ.out; omega)))
      have HFE := Lib.hid ((HFZ.out.trans F).trans' D5.2 (fun i hi e => by have := HZ.out; omega))
      clear hrow hkn D D5 F
      go_wp2_with fail
      exact bodyPost_ret (v := .agg #[.int .i64 4, .slice none 0 0, .slice a3 n.length c3]) (by simp [results, Tryz.results38, go_sem, n0, n1, n2]) rfl ⟨⟨a3, c3, rfl, HAT.out⟩, HFE.out⟩
end Go.Proofs.YtacekpdjapgfcaaGreatDoor
