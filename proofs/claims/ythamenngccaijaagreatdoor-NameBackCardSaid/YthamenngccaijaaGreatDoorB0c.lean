/-
  Merged by program: XNsLaw XNConcat XNsTo XR02R XR02L XR02D XR02S XR04S XRdSpec XR06a XR06b XR06c XR06d XR06e XR06g XR06h XR06s XR06T XR06R XR08 XR02 XR04D XNTexts XR04 XR14W XR01 XR14S XNClone XGRow XGAll XNSort XNSheet XNSheet2 XNSheet3 XNSheet4 XNWrite XR14B XNbLaw XHeld XR14L XNSub XNOpen XNOidR.
-/
import Derived.Test.YthamenngccaijaaGreatDoorB0b
import Derived.Lib.AppendZerosOnto
import Derived.Lib.SliceRun
import Derived.Lib.Walk
import Derived.Test.YthamenngccaijaaGreatDoorB0a
import Derived.Deep.RegionLaw
import Derived.Laws.OwnMore
import Derived.Deep.CutRange
import Derived.Deep.Cut
namespace Go.Q
open Go
def cutPart (p : Part) : Part := ⟨p.o.take 40, p.b.take 200⟩
def cutStep (l : List Part) : List Part := (l.take 20).map cutPart
def cutName (n : List (List Part)) : List (List Part) := (n.take 70).map cutStep
theorem cutPart_few (p : Part) : (cutPart p).b.length ≤ 10000000 := by
  show (p.b.take 200).length ≤ 10000000
  rw [List.length_take]
  omega
theorem cutStep_few (l : List Part) : fewB (cutStep l) := fun p hp => by
  obtain ⟨q, -, rfl⟩ := List.mem_map.1 hp
  exact cutPart_few q
theorem cutName_few (n : List (List Part)) : ∀ r ∈ cutName n, fewB r := fun r hr => by
  obtain ⟨q, -, rfl⟩ := List.mem_map.1 hr
  exact cutStep_few q
theorem cutStep_len (l : List Part) : (cutStep l).length ≤ 20 := by
  unfold cutStep
  rw [List.length_map, List.length_take]
  omega
theorem cutName_len (n : List (List Part)) : (cutName n).length ≤ 70 := by
  unfold cutName
  rw [List.length_map, List.length_take]
  omega
def underS (n m : List (List Part)) : Bool := nameOk n && (decide (m.length ≤ n.length) && nameSameS (n.take m.length) m)
end Go.Q

namespace Go.Q
open Go Go.RowKit
def cmpI : List Int → List Int → Int
  | [], [] => 0
  | [], _ :: _ => -1
  | _ :: _, [] => 1
  | x :: s, y :: t => if x < y then -1 else if y < x then 1 else cmpI s t
theorem cmpI_zero : ∀ (s t : List Int), cmpI s t = 0 ↔ s = t
  | [], [] => by simp [cmpI]
  | [], _ :: _ => by simp [cmpI]
  | _ :: _, [] => by simp [cmpI]
  | x :: s, y :: t => by
    have ih := cmpI_zero s t
    unfold cmpI
    split
    · simp; intro h; omega
    · split
      · simp; intro h; omega
      · rw [ih]
        simp
        intro _
        omega
def AttrRow (w wr : World) (base : Nat) (v : Value) (l : List Part) : Prop :=
  ∃ cs : List Value, wr.ownsRow base 108 2 v l.length cs ∧ ∀ (i : Nat) (p : Part), l[i]? = some p → ∃ x y, cs[2 * i]? = some x ∧ cs[2 * i + 1]? = some y ∧ Vals w x (intCells p.o) ∧ Bytes w y p.b
theorem AttrRow.at {w wr : World} {base : Nat} {v : Value} {l : List Part} (h : AttrRow w wr base v l) (F : Fr (fun _ => False) w wr) : Attrs wr v l := by
  obtain ⟨cs, ⟨h1, h2⟩, h3⟩ := h
  rcases h2 with ⟨rfl, h0⟩ | ⟨g, cap, cur, rfl, hg, hh, hnc, hcm, hcs, htk⟩
  · exact ⟨none, 0, by rw [h0], by omega, by unfold maxLen; omega, fun h => by omega⟩
  · refine ⟨_, cap, rfl, hnc, hcm, fun _ => ⟨g, 0, rfl, fun i p hp => ?_⟩⟩
    obtain ⟨x, y, e1, e2, e3, e4⟩ := h3 i p hp
    have hi := (List.getElem?_eq_some_iff.1 hp).1
    have gc : ∀ k, k < l.length * 2 → wr.cell? ⟨g, 0 + k, none⟩ = cs[k]? := fun k hk => by
      have := congrArg (fun z : List Value => z[k]?) htk
      simp only [List.getElem?_take, if_pos hk, Array.getElem?_toList] at this
      rw [Nat.zero_add]
      simp only [World.cell?, hh]
      exact this
    refine ⟨x, y, ?_, ?_, e3.old F, e4.old F⟩
    · rw [gc (2 * i) (by omega)]; exact e1
    · rw [Nat.add_assoc, gc (2 * i + 1) (by omega)]; exact e2
theorem AttrRow.start {w wr : World} {base : Nat} {v : Value} (h : wr.ownsRow base 108 2 v 0 []) : AttrRow w wr base v [] := ⟨[], h, fun i p hp => by simp at hp⟩
theorem nmFlat_take {n : List (List Part)} {j : Nat} {r : List Part} (h : n[j]? = some r) : (n.take (j + 1)).flatten = (n.take j).flatten ++ r := by
  rw [List.take_add_one, h]
  simp
end Go.Q
namespace Go.Proofs.YthamenngccaijaaGreatDoor
open Go Go.RowKit Go.Q
theorem info108 : (Tryz.prog.info? 108).map (fun i => (i.zero, i.size, i.bytes)) = some (some (.agg #[.slice none 0 0, .slice none 0 0]), 2, 48) := by kernel_rfl
set_option maxRecDepth 20000 in
set_option maxHeartbeats 1000000 in
theorem growAttr_any (n : Nat) (w : World) (hn : n ≤ 1000000000) :
    Calls Tryz.prog 155 #[.slice none 0 0, .int .i64 n] w fun e w' => (∃ a c, e = .returned (.slice a 0 c) ∧ w'.ownsRow w.heap.size 108 2 (.slice a 0 c) 0 []) ∧ Fr (fun _ => False) w w' := by
  obtain ⟨i0, hi0, hz0, hz1, hz2⟩ := info_parts info108
  have w0 : wrap64 ((n : Int) - 0) = (n : Int) := by unfold wrap64; omega
  rcases Nat.eq_zero_or_pos n with rfl | h0
  · go_enter Tryz.func155, Tryz.ntmps155
    go_wp2_with fail
    go_ret
    exact ⟨⟨none, 0, rfl, rfl, .inl ⟨rfl, rfl⟩⟩, Fr.refl _⟩
  · have hrz := fun ty => Lib.run_append_grow_zeros (P := Tryz.prog) w 90 3 ty 108 i0 _ .i64 .i64 Tryz.underlying90 Tryz.underlying3 hi0 hz0 none 0 0 [] (by rw [hz1]; rfl) n h0 (by rw [hz1]; decide) (by omega) (by omega) (by rw [hz2]; omega) (growslice_fits (by omega) (by rw [hz2]; omega))
    have hG := grownCap_ge w (0 + n) 0 108
    have hG2 := grownCap_le_maxLen w (0 + n) 0 108 (by unfold maxLen; omega)
    have hcsz : (([] : List Value).toArray ++ Builtin.zeroCells (Value.agg #[.slice none 0 0, .slice none 0 0]).cells n ++ Builtin.zeroCells (Value.agg #[.slice none 0 0, .slice none 0 0]).cells (grownCap w (0 + n) 0 108 - (0 + n))).size = grownCap w (0 + n) 0 108 * 2 := by
      simp only [Array.size_append, size_zeroCells, List.size_toArray, List.length_nil]
      have : (Value.agg #[.slice none 0 0, .slice none 0 0]).cells.size = 2 := rfl
      rw [this]
      omega
    generalize ([] : List Value).toArray ++ Builtin.zeroCells (Value.agg #[.slice none 0 0, .slice none 0 0]).cells n ++ Builtin.zeroCells (Value.agg #[.slice none 0 0, .slice none 0 0]).cells (grownCap w (0 + n) 0 108 - (0 + n)) = cs at *
    generalize grownCap w (0 + n) 0 108 = G at *
    rw [Nat.zero_add] at hrz hG
    have BX := (Blk.new w.drew 108 cs)
    have F : Fr (fun _ => False) w (w.drew.alloc (.cells cs 108)) := (Fr.refl w).drew.alloc _
    have hown : (w.drew.alloc (.cells cs 108)).ownsRow w.heap.size 108 2 (.slice (some ⟨w.heap.size, 0, none⟩) 0 G) 0 [] := ⟨rfl, .inr ⟨w.heap.size, G, cs, rfl, Nat.le_refl _, BX, Nat.zero_le _, hG2, hcsz, rfl⟩⟩
    have HO := Lib.hid hown
    have HF := Lib.hid F
    have HRZ := Lib.hid hrz
    have hG63 : (G : Int) ≤ 9223372036854775807 := by unfold maxLen at hG2; omega
    have h1 : (0 : Int) < (n : Int) := by omega
    have hgn : (n : Int) ≤ (G : Int) := by omega
    clear hown F BX hrz hi0 hz0 hz1 hz2 hcsz hG2
    go_enter Tryz.func155, Tryz.ntmps155
    go_wp2_with (at_builtin; refine Lib.wpList_append_run _ rfl _ _ _ _ rfl _ _ rfl rfl _ _ (HRZ.out _) ?_)
    all_goals
      go_ret
      exact ⟨⟨_, _, rfl, HO.out⟩, HF.out⟩
theorem AttrRow.add {w wr : World} {base : Nat} {v u : Value} {l r : List Part} (h : AttrRow w wr base v l) (hb : base ≤ wr.heap.size) (F : Fr (fun _ => False) w wr) (hr : Attrs w u r) (hr0 : 0 < r.length) (hn : l.length + r.length ≤ 1099511627776) :
    ∃ a c w', (Builtin.append_ #[90, 90] 90 #[v, u]).run Tryz.prog wr = .ok (.slice a (l.length + r.length) c) w' ∧ AttrRow w w' base (.slice a (l.length + r.length) c) (l ++ r) ∧ Fr (fun k => v.ownBlock = some k) wr w' := by
  obtain ⟨cs, h1, h3⟩ := h
  obtain ⟨ar, cr, rfl, hrc, hrm, hx⟩ := hr
  obtain ⟨b, o, rfl, hy⟩ := hx hr0
  have hcell : ∀ i, i < r.length → ∃ p x y, r[i]? = some p ∧ w.cell? ⟨b, o + 2 * i, none⟩ = some x ∧ w.cell? ⟨b, o + 2 * i + 1, none⟩ = some y ∧ Vals w x (intCells p.o) ∧ Bytes w y p.b := fun i hi => by
    obtain ⟨x, y, e⟩ := hy i _ (List.getElem?_eq_getElem hi)
    exact ⟨_, x, y, List.getElem?_eq_getElem hi, e⟩
  have hall : ∀ k, k < r.length * 2 → ∃ x, w.cell? ⟨b, o + k, none⟩ = some x ∧ x.oneCell' = true := fun k hk => by
    obtain ⟨p, x, y, -, e1, e2, e3, e4⟩ := hcell (k / 2) (by omega)
    rcases Nat.mod_two_eq_zero_or_one k with h0 | h0
    · obtain ⟨ax, cx, rfl, -⟩ := Ints.form e3
      exact ⟨_, by rw [show k = 2 * (k / 2) from by omega]; exact e1, rfl⟩
    · obtain ⟨ay, cy, rfl, -⟩ := Vals.form e4
      exact ⟨_, by rw [show k = 2 * (k / 2) + 1 from by omega, ← Nat.add_assoc]; exact e2, rfl⟩
  obtain ⟨news, hnl, hnews⟩ : ∃ news : List Value, news.length = r.length * 2 ∧ ∀ k x, news[k]? = some x → w.cell? ⟨b, o + k, none⟩ = some x ∧ x.oneCell' = true := by
    refine ⟨(List.range (r.length * 2)).map fun k => (w.cell? ⟨b, o + k, none⟩).getD undef, by simp, fun k x hk => ?_⟩
    have hkl : k < r.length * 2 := by
      have := (List.getElem?_eq_some_iff.1 hk).1
      simpa using this
    obtain ⟨y, e1, e2⟩ := hall k hkl
    rw [List.getElem?_map, List.getElem?_range hkl] at hk
    simp only [Option.map_some, Option.some.injEq] at hk
    rw [e1] at hk
    simp only [Option.getD_some] at hk
    subst hk
    exact ⟨e1, e2⟩
  obtain ⟨a, c, w', hrun, h4, F2, -⟩ := append_gen Tryz.underlying90 info108 rfl (by decide) (by decide) h1 hb ⟨b, o, none⟩ r.length cr news hnl (fun k x hk => by
    rw [show (⟨b, o, none⟩ : Addr).add k = ⟨b, o + k, none⟩ from by unfold Addr.add; split <;> simp_all]
    exact F.cell (hnews k x hk).1 (fun h => h)) (fun x hx => by
    obtain ⟨k, hk⟩ := List.mem_iff_getElem?.1 hx
    exact (hnews k x hk).2) hn
  have hcl : cs.length = l.length * 2 := h1.1
  refine ⟨a, c, w', hrun, ⟨cs ++ news, by rw [List.length_append]; exact h4, fun i p hp => ?_⟩, F2⟩
  rcases Nat.lt_or_ge i l.length with hi | hi
  · rw [List.getElem?_append_left hi] at hp
    obtain ⟨x, y, e1, e2, e3⟩ := h3 i p hp
    exact ⟨x, y, by rw [List.getElem?_append_left (by omega)]; exact e1, by rw [List.getElem?_append_left (by omega)]; exact e2, e3⟩
  · rw [List.getElem?_append_right hi] at hp
    have hil := (List.getElem?_eq_some_iff.1 hp).1
    obtain ⟨q, x, y, hq, e1, e2, e3⟩ := hcell (i - l.length) hil
    rw [hp] at hq
    simp only [Option.some.injEq] at hq
    subst hq
    have g1 : news[2 * (i - l.length)]? = some x := by
      have hlt : 2 * (i - l.length) < news.length := by omega
      obtain ⟨z, hz⟩ : ∃ z, news[2 * (i - l.length)]? = some z := ⟨_, List.getElem?_eq_getElem hlt⟩
      have := (hnews _ z hz).1
      rw [e1] at this
      rw [hz, ← this]
    have g2 : news[2 * (i - l.length) + 1]? = some y := by
      have hlt : 2 * (i - l.length) + 1 < news.length := by omega
      obtain ⟨z, hz⟩ : ∃ z, news[2 * (i - l.length) + 1]? = some z := ⟨_, List.getElem?_eq_getElem hlt⟩
      have := (hnews _ z hz).1
      rw [← Nat.add_assoc, e2] at this
      rw [hz, ← this]
    refine ⟨x, y, ?_, ?_, e3⟩
    · rw [List.getElem?_append_right (by omega), show 2 * i - cs.length = 2 * (i - l.length) from by omega]; exact g1
    · rw [List.getElem?_append_right (by omega), show 2 * i + 1 - cs.length = 2 * (i - l.length) + 1 from by omega]; exact g2
set_option maxRecDepth 20000 in
set_option maxHeartbeats 2000000 in
theorem concatRdn_any (v : Value) (n : List (List Part)) (w : World) (h : NameAt w v n) (hn : n.length ≤ 1000) (hr : ∀ r ∈ n, 0 < r.length ∧ r.length ≤ 1000) :
    Calls Tryz.prog 114 #[v] w fun e w' => (∃ u, e = .returned u ∧ Attrs w' u n.flatten) ∧ Fr (fun _ => False) w w' := by
  have H := Lib.hid h
  have HR := Lib.hid hr
  obtain ⟨a, cap, rfl, -⟩ := h
  have hfl : ∀ j, ((n.take j).flatten).length ≤ 1000 * 1000 := fun j => by
    have : ∀ m : List (List Part), (∀ r ∈ m, r.length ≤ 1000) → m.flatten.length ≤ m.length * 1000 := by
      intro m
      induction m with
      | nil => intro _; simp
      | cons x t ih =>
        intro hm
        have h1 := hm x (by simp)
        have h2 := ih (fun r hr => hm r (by simp [hr]))
        simp only [List.flatten_cons, List.length_append, List.length_cons, Nat.add_mul]
        omega
    have h1 := this (n.take j) (fun r hm => (HR.out r (List.mem_of_mem_take hm)).2)
    have h2 : (n.take j).length * 1000 ≤ 1000 * 1000 := Nat.mul_le_mul_right _ (by rw [List.length_take]; omega)
    omega
  have HFL := Lib.hid hfl
  clear hr hfl
  go_enter Tryz.func114, Tryz.ntmps114
  go_wp2_with fail
  go_loopg [3, 11] n.length (fun g s i wr => ∃ (j m : Nat), g = n.length - j ∧ j ≤ n.length ∧ s = .int .i64 m ∧ i = .int .i64 j ∧ m = ((n.take j).flatten).length ∧ wr = w)
  case atStart => exact ⟨0, 0, rfl, Nat.zero_le _, rfl, rfl, rfl, rfl⟩
  case round =>
    obtain ⟨j, m, hg, hj, rfl, rfl, hm, rfl⟩ := hrel
    have HG := Lib.hid hg
    have hml : m ≤ 1000 * 1000 := by rw [hm]; exact HFL.out j
    have HM := Lib.hid hm
    clear hg hm
    by_cases hjl : j < n.length
    · obtain ⟨a0, cap0, he, _, _, hx⟩ := H.out
      simp only [Value.slice.injEq, true_and] at he
      obtain ⟨rfl, rfl⟩ := he
      obtain ⟨b, off, rfl, hy⟩ := hx (by omega)
      obtain ⟨r, hr⟩ : ∃ r, n[j]? = some r := ⟨_, List.getElem?_eq_getElem hjl⟩
      obtain ⟨x, e1, hA⟩ := hy j r hr
      obtain ⟨ax, cx, rfl⟩ := hA.form
      have HFT := Lib.hid (nmFlat_take hr)
      have b2 := (HR.out r (List.mem_of_getElem? hr)).2
      have r1 : (0 : Int) ≤ (j : Int) := by omega
      have r2 : (j : Int) < (n.length : Int) := by omega
      clear hx hy hr hA
      have hnn : ¬ ((m : Int) + (r.length : Int)) < 0 := by omega
      go_wp2_with fail
      go_roundg (n.length - (j + 1))
      case measure => rw [HG.out]; omega
      case rel => exact ⟨j + 1, m + r.length, rfl, by omega, by go_num, by go_num, by rw [HFT.out, HM.out, List.length_append], rfl⟩
    · obtain rfl : j = n.length := by omega
      obtain ⟨wo, rfl⟩ : ∃ wo : World, wo = wr := ⟨_, rfl⟩
      have HGR := Lib.hid (growAttr_any m wo (by omega))
      clear hjl
      go_wp2_with fail
      refine HGR.out.mono ?_
      rintro e w1 ⟨⟨a1, c1, rfl, hown1⟩, F1⟩
      have HO1 := Lib.hid hown1
      have HF1 := Lib.hid F1
      clear HGR hown1 F1
      go_wp2_with fail
      go_loopg [6, 27] n.length (fun g s i w2 => ∃ (j : Nat) (l : List Part) (a2 : Option Addr) (c2 : Nat), g = n.length - j ∧ j ≤ n.length ∧ s = .slice a2 l.length c2 ∧ i = .int .i64 j ∧ l = (n.take j).flatten ∧ AttrRow wo w2 wo.heap.size (.slice a2 l.length c2) l ∧ Fr (fun _ => False) wo w2)
      case atStart => exact ⟨0, [], a1, c1, rfl, Nat.zero_le _, rfl, rfl, rfl, AttrRow.start HO1.out, HF1.out⟩
      case round =>
        obtain ⟨j, l, a2, c2, hg, hj, rfl, rfl, hl, hrow, F2⟩ := hrel
        have HG := Lib.hid hg
        have HRW := Lib.hid hrow
        have HF2 := Lib.hid F2
        have hll : l.length ≤ 1000 * 1000 := by rw [hl]; exact HFL.out j
        have HL := Lib.hid hl
        clear hg hrow hl
        by_cases hjl : j < n.length
        · obtain ⟨a0, cap0, he, _, _, hx⟩ := H.out
          simp only [Value.slice.injEq, true_and] at he
          obtain ⟨rfl, rfl⟩ := he
          obtain ⟨b, off, rfl, hy⟩ := hx (by omega)
          obtain ⟨r, hr⟩ : ∃ r, n[j]? = some r := ⟨_, List.getElem?_eq_getElem hjl⟩
          obtain ⟨x, e0, hA⟩ := hy j r hr
          have e1 := F2.cell e0 (fun h => h)
          have hrr := HR.out r (List.mem_of_getElem? hr)
          have HFT := Lib.hid (nmFlat_take hr)
          have hs2 := F2.size
          obtain ⟨a4, c4, w4, hrun, hrow4, F4⟩ := AttrRow.add HRW.out hs2 F2 hA hrr.1 (by omega)
          obtain ⟨ax, cx, rfl⟩ := hA.form
          have hbk : ∀ k, (Value.slice a2 l.length c2).ownBlock = some k → wo.heap.size ≤ k := fun k hk => by
            obtain ⟨cs, h1, -⟩ := HRW.out
            exact (h1.lt k hk).1
          have HF4 := Lib.hid (F2.trans' F4 (fun i hi e => by have := hbk i e; omega))
          have HRUN := Lib.hid hrun
          have HRW4 := Lib.hid hrow4
          have r1 : (0 : Int) ≤ (j : Int) := by omega
          have r2 : (j : Int) < (n.length : Int) := by omega
          clear hx hy hr hA hbk F4 hrun hrow4 F2 HRW HF2 e0
          go_wp2_with (at_builtin; refine wpList_append_run (by rfl) (.tmp 31) (.tmp 32) 90 (by rfl) _ w4 (by exact HRUN.out) ?_)
          go_roundg (n.length - (j + 1))
          case measure => rw [HG.out]; omega
          case rel => exact ⟨j + 1, l ++ r, a4, c4, rfl, by omega, by rw [List.length_append], by go_num, by rw [HFT.out, HL.out], by rw [List.length_append]; exact HRW4.out, HF4.out⟩
        · obtain rfl : j = n.length := by omega
          have hl2 := HL.out
          rw [List.take_length] at hl2
          have HAT := Lib.hid (HRW.out.at F2)
          have HL2 := Lib.hid hl2
          clear hl2 HRW
          go_wp2_with fail
          go_ret
          exact ⟨⟨_, rfl, by rw [← HL2.out]; exact HAT.out⟩, HF2.out⟩
end Go.Proofs.YthamenngccaijaaGreatDoor

namespace Go.Q
open Go Go.RowKit
theorem Ints.cut {w : World} {a : Option Addr} {c : Nat} {l : List Int} (h : Ints w (.slice a l.length c) l) (N m : Nat) (hm : m = min l.length N) : Ints w (.slice a m c) (l.take N) := by
  obtain ⟨a0, c0, he, h1, h2, -⟩ := Ints.form h
  simp only [Value.slice.injEq] at he
  obtain ⟨rfl, -, rfl⟩ := he
  have := Vals.sub h 0 m (Nat.zero_le _) (by omega) a c (fun _ b o e => by simpa using e) (by omega) h2
  simp only [Nat.sub_zero, List.drop_zero] at this
  have e : l.take N = l.take m := by
    rw [hm, ← List.take_take, List.take_of_length_le (l := l.take N) (by rw [List.length_take]; omega)]
  unfold Ints intCells
  rw [e, List.map_take]
  exact this
theorem Vals.cut {w : World} {a : Option Addr} {c : Nat} {l : List UInt8} (h : Bytes w (.slice a l.length c) l) (N m : Nat) (hm : m = min l.length N) : Bytes w (.slice a m c) (l.take N) := by
  obtain ⟨a0, c0, he, h1, h2, -⟩ := Vals.form h
  simp only [Value.slice.injEq] at he
  obtain ⟨rfl, -, rfl⟩ := he
  have := Vals.sub h 0 m (Nat.zero_le _) (by omega) a c (fun _ b o e => by simpa using e) (by omega) h2
  simp only [Nat.sub_zero, List.drop_zero] at this
  have e : l.take N = l.take m := by
    rw [hm, ← List.take_take, List.take_of_length_le (l := l.take N) (by rw [List.length_take]; omega)]
  unfold Bytes Lib.byteCells
  rw [e, List.map_take]
  exact this
theorem map_take_succ {α β : Type} (f : α → β) {l : List α} {j : Nat} {x : α} (h : l[j]? = some x) : (l.take (j + 1)).map f = (l.take j).map f ++ [f x] := by
  rw [List.take_add_one, h]
  simp
end Go.Q
namespace Go.Proofs.YthamenngccaijaaGreatDoor
open Go Go.RowKit Go.Q
set_option linter.unusedSimpArgs false
set_option maxRecDepth 20000 in
set_option maxHeartbeats 4000000 in
theorem lawStep_any (v : Value) (l : List Part) (w0 w : World) (h : Attrs w0 v l) (F0 : Fr (fun _ => False) w0 w) :
    Calls Tryz.prog 52 #[v] w fun e w' => (∃ a c, e = .returned (.slice a (cutStep l).length c) ∧ ARow 108 w0 w' w.heap.size (.slice a (cutStep l).length c) (cutStep l)) ∧ Fr (fun _ => False) w w' := by
  have H := Lib.hid h
  have HF0 := Lib.hid F0
  obtain ⟨a, cap, rfl, -⟩ := h
  have hcs : cutStep l = (l.take 20).map cutPart := rfl
  have HCS := Lib.hid hcs
  clear hcs F0
  go_enter Tryz.func52, Tryz.ntmps52
  go_wp2_with fail
  go_loopg [3, 4] l.length (fun g u i wr => ∃ (j : Nat) (au : Option Addr) (cu : Nat), g = l.length - j ∧ j ≤ l.length ∧ j ≤ 20 ∧ u = .slice au j cu ∧ i = .int .i64 j ∧ ARow 108 w0 wr w.heap.size (.slice au j cu) ((l.take j).map cutPart) ∧ Fr (fun _ => False) w wr)
  case atStart => exact ⟨0, none, 0, rfl, Nat.zero_le _, by omega, rfl, rfl, ARow.nil _ _ _ _, Fr.refl _⟩
  case round =>
    obtain ⟨j, au, cu, hg, hj, hj20, rfl, rfl, hrow, F⟩ := hrel
    have HG := Lib.hid hg
    have HRW := Lib.hid hrow
    have HF := Lib.hid F
    have hml : ((l.take j).map cutPart).length = j := by rw [List.length_map, List.length_take]; omega
    have HML := Lib.hid hml
    clear hg hrow hml
    by_cases hjl : j < l.length
    · have q1 : (j : Int) < (l.length : Int) := by omega
      by_cases h20 : j < 20
      · have q2 : (j : Int) < 20 := by omega
        obtain ⟨a0, cap0, he, _, _, hx⟩ := H.out
        simp only [Value.slice.injEq, true_and] at he
        obtain ⟨rfl, rfl⟩ := he
        obtain ⟨b, off, rfl, hy⟩ := hx (by omega)
        obtain ⟨p, hp⟩ : ∃ p, l[j]? = some p := ⟨_, List.getElem?_eq_getElem hjl⟩
        obtain ⟨x, y, e1, e2, hpx, hpy⟩ := hy j p hp
        obtain ⟨ax, cx, rfl, hcx, hmx, -⟩ := Ints.form hpx
        obtain ⟨ay, cy, rfl, hcy, hmy, -⟩ := Vals.form hpy
        have e1' : wr.cell? ⟨b, off + j * 2, none⟩ = some (.slice ax p.o.length cx) := by rw [Nat.mul_comm]; exact (HF0.out.trans F).cell e1 (fun h => h)
        have e2' : wr.cell? ⟨b, off + j * 2 + 1, none⟩ = some (.slice ay p.b.length cy) := by rw [Nat.mul_comm]; exact (HF0.out.trans F).cell e2 (fun h => h)
        obtain ⟨mo, hmo⟩ : ∃ m : Nat, m = min p.o.length 40 := ⟨_, rfl⟩
        obtain ⟨mb, hmb⟩ : ∃ m : Nat, m = min p.b.length 200 := ⟨_, rfl⟩
        have HPX := Lib.hid (Ints.cut hpx 40 mo hmo)
        have HPY := Lib.hid (Vals.cut hpy 200 mb hmb)
        have HMT := Lib.hid (map_take_succ cutPart hp)
        unfold maxLen at hmx hmy
        have c1 : min (p.o.length : Int) 40 = (mo : Int) := by omega
        have c2 : min (p.b.length : Int) 200 = (mb : Int) := by omega
        have c3 : (mo : Int) ≤ (cx : Int) := by omega
        have c4 : (mb : Int) ≤ (cy : Int) := by omega
        have c5 : (0 : Int) ≤ (mo : Int) := by omega
        have c6 : (0 : Int) ≤ (mb : Int) := by omega
        have r1 : (0 : Int) ≤ (j : Int) := by omega
        clear hx hy hp e1 e2 hpx hpy hmo hmb
        go_upto_region 6 with fail
        obtain ⟨z, hz⟩ : ∃ z, z = wr.heap.size := ⟨_, rfl⟩
        have BA := Blk.new wr 107 #[.slice ax p.o.length cx, .slice ay p.b.length cy]
        have F1 : Fr (fun _ => False) wr (wr.alloc (.cells #[.slice ax p.o.length cx, .slice ay p.b.length cy] 107)) := (Fr.refl wr).alloc _
        rw [← hz] at BA ⊢
        have HZ := Lib.hid hz
        clear hz e1' e2'
        generalize (wr.alloc (.cells #[.slice ax p.o.length cx, .slice ay p.b.length cy] 107)) = w1 at *
        obtain ⟨wa, hwa⟩ : ∃ wa, wa = w1.drew.alloc (.cells #[.slice ax mo cx, .slice ay mb cy] 108) := ⟨_, rfl⟩
        have Fa : Fr (fun _ => False) wr wa := by rw [hwa]; exact F1.drew.alloc _
        have BAa : Blk wa z 107 #[.slice ax p.o.length cx, .slice ay p.b.length cy] := by rw [hwa]; exact BA.drew.alloc _
        have BX : Blk wa w1.heap.size 108 #[.slice ax mo cx, .slice ay mb cy] := by rw [hwa]; exact Blk.new w1.drew _ _
        obtain ⟨a7, c7, w7, hrun, hrow7, F7⟩ := ARow.add Tryz.underlying90 info108 (HRW.out.fr Fa (fun _ _ h => h)) (HF.out.trans Fa).size (Fr.refl wa) w1.heap.size BX (cutPart p) HPX.out HPY.out (by rw [HML.out]; omega)
        have HG7 := Lib.hid ((HF.out.trans Fa).trans' F7 (fun i hi e => absurd hi (by have := (HRW.out.keep i e).1; omega)))
        have BA7 := BAa.fr F7 (fun e => by have := (HRW.out.keep z e).2; have := HZ.out; omega)
        rw [HML.out] at hrun hrow7
        have HRUN := Lib.hid hrun
        have HROW7 := Lib.hid hrow7
        have HC0 := Lib.hid BA.drew.cell
        have HCa := Lib.hid BAa.cell
        have HC7 := Lib.hid BA7.cell
        rw [hwa] at HCa HRUN
        clear hrun hrow7 F7 BA7 BAa BX Fa F1 BA hwa
        go_region_held3 (fun w' => ∀ j, w'.cell? ⟨z, j, none⟩ = (#[.slice ax p.o.length cx, .slice ay p.b.length cy] : Array Value)[j]?) (first | exact HC0.out | exact HCa.out | exact HC7.out) (first
          | (refine step_append_run (by rfl) (.tmp 20) (.tmp 36) 90 (by rfl) _ w7 (by exact HRUN.out) ?_)
          | fail)
        all_goals
          go_wp2_with fail
          go_roundg (l.length - (j + 1))
          case measure => rw [HG.out]; omega
          case rel => exact ⟨j + 1, a7, c7, rfl, by omega, by omega, rfl, by go_num, by rw [HMT.out]; exact HROW7.out, HG7.out⟩
      · obtain rfl : j = 20 := by omega
        have q2 : ¬ ((20 : Nat) : Int) < 20 := by omega
        have hres : (l.take 20).map cutPart = cutStep l := HCS.out.symm
        have hrow := HRW.out
        rw [hres] at hrow
        have hlen : 20 = (cutStep l).length := by rw [← hres, HML.out]
        have HL := Lib.hid hlen
        have HROW := Lib.hid hrow
        clear hres hrow hlen
        go_wp2_with fail
        go_ret
        exact ⟨⟨au, cu, by rw [← HL.out]; rfl, by rw [← HL.out]; exact HROW.out⟩, F⟩
    · obtain rfl : j = l.length := by omega
      have hres : (l.take l.length).map cutPart = cutStep l := by rw [HCS.out, List.take_of_length_le hj20, List.take_length]
      have hrow := HRW.out
      rw [hres] at hrow
      have hlen : l.length = (cutStep l).length := by rw [← hres, HML.out]
      have HL := Lib.hid hlen
      have HROW := Lib.hid hrow
      clear hres hrow hlen
      go_wp2_with fail
      go_ret
      exact ⟨⟨au, cu, by rw [← HL.out]; rfl, by rw [← HL.out]; exact HROW.out⟩, F⟩
set_option maxRecDepth 20000 in
set_option maxHeartbeats 4000000 in
theorem lawTo_any (v : Value) (n : List (List Part)) (w : World) (h : NameAt w v n) :
    Calls Tryz.prog 10 #[v] w fun e w' => (∃ a c, e = .returned (.slice a (cutName n).length c) ∧ NRow 90 w' w.heap.size (.slice a (cutName n).length c) (cutName n)) ∧ Fr (fun _ => False) w w' := by
  have H := Lib.hid h
  obtain ⟨a, cap, rfl, -⟩ := h
  have hcs : cutName n = (n.take 70).map cutStep := rfl
  have HCS := Lib.hid hcs
  clear hcs
  go_enter Tryz.func10, Tryz.ntmps10
  go_wp2_with fail
  go_loopg [3, 4] n.length (fun g u i wr => ∃ (j : Nat) (au : Option Addr) (cu : Nat), g = n.length - j ∧ j ≤ n.length ∧ j ≤ 70 ∧ u = .slice au j cu ∧ i = .int .i64 j ∧ NRow 90 wr w.heap.size (.slice au j cu) ((n.take j).map cutStep) ∧ Fr (fun _ => False) w wr)
  case atStart => exact ⟨0, none, 0, rfl, Nat.zero_le _, by omega, rfl, rfl, NRow.nil _ _ _, Fr.refl _⟩
  case round =>
    obtain ⟨j, au, cu, hg, hj, hj70, rfl, rfl, hrow, F⟩ := hrel
    have HG := Lib.hid hg
    have HRW := Lib.hid hrow
    have HF := Lib.hid F
    have hml : ((n.take j).map cutStep).length = j := by rw [List.length_map, List.length_take]; omega
    have HML := Lib.hid hml
    clear hg hrow hml
    by_cases hjl : j < n.length
    · have q1 : (j : Int) < (n.length : Int) := by omega
      by_cases h70 : j < 70
      · have q2 : (j : Int) < 70 := by omega
        obtain ⟨a0, cap0, he, _, _, hx⟩ := H.out
        simp only [Value.slice.injEq, true_and] at he
        obtain ⟨rfl, rfl⟩ := he
        obtain ⟨b, off, rfl, hy⟩ := hx (by omega)
        obtain ⟨r, hr⟩ : ∃ r, n[j]? = some r := ⟨_, List.getElem?_eq_getElem hjl⟩
        obtain ⟨x, e0, hA⟩ := hy j r hr
        have e1 := F.cell e0 (fun h => h)
        have HS := Lib.hid (lawStep_any x r w wr hA F)
        have HMT := Lib.hid (map_take_succ cutStep hr)
        have r1 : (0 : Int) ≤ (j : Int) := by omega
        clear hx hy hr e0 hA
        obtain ⟨wo, hwo⟩ : ∃ wo : World, wo = wr := ⟨_, rfl⟩
        obtain rfl := hwo
        go_wp2_with fail
        refine HS.out.mono ?_
        rintro e w2 ⟨⟨a2, c2, rfl, hrow2⟩, F2⟩
        have hkp := HRW.out.keep
        have hk2 : Kept (fun W => Attrs W (.slice a2 (cutStep r).length c2) (cutStep r)) (fun k => (Value.slice au j cu).ownBlock = some k) w2 := hrow2.kept (HF.out.trans F2) _ (fun k e => hkp k e)
        obtain ⟨a7, c7, w7, hrun, hrow7, F7⟩ := NRow.add Tryz.underlying25 info90 (HRW.out.old F2) (HF.out.trans F2).size ((Fr.refl w2).alloc (.cells #[.slice a2 (cutStep r).length c2] 90)) w2.heap.size _ (cutStep r) (Blk.new w2 90 #[.slice a2 (cutStep r).length c2]) rfl hk2 (by rw [HML.out]; omega)
        have HG7 := Lib.hid ((HF.out.trans F2).trans' F7 (fun i hi e => absurd hi (by have := (hkp i e).1; omega)))
        rw [HML.out] at hrun hrow7
        have HRUN := Lib.hid hrun
        have HROW7 := Lib.hid hrow7
        clear hrun hrow7 F7 hk2 hkp hrow2 F2 e1 HS
        go_wp2_with (at_builtin; refine wpList_append_run (by rfl) (.tmp 15) (.tmp 21) 25 (by rfl) _ w7 (by exact HRUN.out) ?_)
        go_roundg (n.length - (j + 1))
        case measure => rw [HG.out]; omega
        case rel => exact ⟨j + 1, a7, c7, rfl, by omega, by omega, rfl, by go_num, by rw [HMT.out]; exact HROW7.out, HG7.out⟩
      · obtain rfl : j = 70 := by omega
        have q2 : ¬ ((70 : Nat) : Int) < 70 := by omega
        have hres : (n.take 70).map cutStep = cutName n := HCS.out.symm
        have hrow := HRW.out
        rw [hres] at hrow
        have hlen : 70 = (cutName n).length := by rw [← hres, HML.out]
        have HL := Lib.hid hlen
        have HROW := Lib.hid hrow
        clear hres hrow hlen
        go_wp2_with fail
        go_ret
        exact ⟨⟨au, cu, by rw [← HL.out]; rfl, by rw [← HL.out]; exact HROW.out⟩, F⟩
    · obtain rfl : j = n.length := by omega
      have hres : (n.take n.length).map cutStep = cutName n := by rw [HCS.out, List.take_of_length_le hj70, List.take_length]
      have hrow := HRW.out
      rw [hres] at hrow
      have hlen : n.length = (cutName n).length := by rw [← hres, HML.out]
      have HL := Lib.hid hlen
      have HROW := Lib.hid hrow
      clear hres hrow hlen
      go_wp2_with fail
      go_ret
      exact ⟨⟨au, cu, by rw [← HL.out]; rfl, by rw [← HL.out]; exact HROW.out⟩, F⟩
theorem info107 : (Tryz.prog.info? 107).map (fun i => (i.zero, i.size, i.bytes)) = some (some (.agg #[.slice none 0 0, .slice none 0 0]), 2, 48) := by kernel_rfl
theorem info92 : (Tryz.prog.info? 92).map (fun i => (i.zero, i.size, i.bytes)) = some (some (.slice none 0 0), 1, 24) := by kernel_rfl
set_option maxRecDepth 20000 in
set_option maxHeartbeats 8000000 in
theorem lawOf_any (v : Value) (n : List (List Part)) (w : World) (h : NameAt w v n) (hn : n.length ≤ 1000000) (hr0 : ∀ r ∈ n, r.length ≤ 1000000) :
    Calls Tryz.prog 14 #[v] w fun e w' => (∃ a c, e = .returned (.slice a n.length c) ∧ NRow 92 w' w.heap.size (.slice a n.length c) n) ∧ Fr (fun _ => False) w w' := by
  have H := Lib.hid h
  have HR0 := Lib.hid hr0
  obtain ⟨a, cap, rfl, -⟩ := h
  clear hr0
  go_enter Tryz.func14, Tryz.ntmps14
  go_wp2_with fail
  go_loopg [3, 4] n.length (fun g u i wr => ∃ (j : Nat) (au : Option Addr) (cu : Nat), g = n.length - j ∧ j ≤ n.length ∧ u = .slice au j cu ∧ i = .int .i64 j ∧ NRow 92 wr w.heap.size (.slice au j cu) (n.take j) ∧ Fr (fun _ => False) w wr)
  case atStart => exact ⟨0, none, 0, rfl, Nat.zero_le _, rfl, rfl, NRow.nil _ _ _, Fr.refl _⟩
  case round =>
    obtain ⟨j, au, cu, hg, hj, rfl, rfl, hrow, F⟩ := hrel
    have HG := Lib.hid hg
    have HRW := Lib.hid hrow
    have HF := Lib.hid F
    have hml : (n.take j).length = j := by rw [List.length_take]; omega
    have HML := Lib.hid hml
    clear hg hrow hml
    by_cases hjl : j < n.length
    · have q1 : (j : Int) < (n.length : Int) := by omega
      obtain ⟨a0, cap0, he, _, _, hx⟩ := H.out
      simp only [Value.slice.injEq, true_and] at he
      obtain ⟨rfl, rfl⟩ := he
      obtain ⟨b, off, rfl, hy⟩ := hx (by omega)
      obtain ⟨r, hr⟩ : ∃ r, n[j]? = some r := ⟨_, List.getElem?_eq_getElem hjl⟩
      obtain ⟨x, e0, hA⟩ := hy j r hr
      have hrl := HR0.out r (List.mem_of_getElem? hr)
      have HE0 := Lib.hid e0
      have HMT := Lib.hid (show n.take (j + 1) = n.take j ++ [r] from by rw [List.take_add_one, hr]; rfl)
      have HA := Lib.hid hA
      obtain ⟨ar, cr, rfl, -⟩ := hA
      have r1 : (0 : Int) ≤ (j : Int) := by omega
      have r2 : (j : Int) < (n.length : Int) := by omega
      clear hx hy hr e0 F
      obtain ⟨wo, hwo⟩ : ∃ wo : World, wo = wr := ⟨_, rfl⟩
      obtain rfl := hwo
      go_wp2_with fail
      go_loopg [5, 6] r.length (fun g u k wr => ∃ (i : Nat) (a2 : Option Addr) (c2 : Nat), g = r.length - i ∧ i ≤ r.length ∧ u = .slice a2 i c2 ∧ k = .int .i64 i ∧ ARow 107 w wr wo.heap.size (.slice a2 i c2) (r.take i) ∧ Fr (fun _ => False) wo wr)
      case atStart => exact ⟨0, none, 0, rfl, Nat.zero_le _, rfl, rfl, ARow.nil _ _ _ _, Fr.refl _⟩
      case round =>
        obtain ⟨i, a2, c2, hg, hi, rfl, rfl, hrow2, F2⟩ := hrel
        have HG2 := Lib.hid hg
        have HRW2 := Lib.hid hrow2
        have HF2 := Lib.hid F2
        have hml : (r.take i).length = i := by rw [List.length_take]; omega
        have HML2 := Lib.hid hml
        have e0 := (HF.out.trans F2).cell HE0.out (fun h => h)
        clear hg hrow2 hml
        by_cases hil : i < r.length
        · have q2 : (i : Int) < (r.length : Int) := by omega
          obtain ⟨a1, cap1, he, _, _, hx⟩ := HA.out
          simp only [Value.slice.injEq, true_and] at he
          obtain ⟨rfl, rfl⟩ := he
          obtain ⟨b1, o1, rfl, hy⟩ := hx (by omega)
          obtain ⟨p, hp⟩ : ∃ p, r[i]? = some p := ⟨_, List.getElem?_eq_getElem hil⟩
          obtain ⟨x, y, e1, e2, hpx, hpy⟩ := hy i p hp
          obtain ⟨ax, cx, rfl, -⟩ := Ints.form hpx
          obtain ⟨ay, cy, rfl, -⟩ := Vals.form hpy
          have e1' : w.cell? ⟨b1, o1 + i * 2, none⟩ = some (.slice ax p.o.length cx) := by rw [Nat.mul_comm]; exact e1
          have e2' : w.cell? ⟨b1, o1 + i * 2 + 1, none⟩ = some (.slice ay p.b.length cy) := by rw [Nat.mul_comm]; exact e2
          have HMT2 := Lib.hid (show r.take (i + 1) = r.take i ++ [p] from by rw [List.take_add_one, hp]; rfl)
          have s1 : (0 : Int) ≤ (i : Int) := by omega
          obtain ⟨wa, hwa⟩ : ∃ wa, wa = wr.drew.alloc (.cells #[.slice ax p.o.length cx, .slice ay p.b.length cy] 107) := ⟨_, rfl⟩
          have Fa : Fr (fun _ => False) wr wa := by rw [hwa]; exact (Fr.refl wr).drew.alloc _
          have BX : Blk wa wr.heap.size 107 #[.slice ax p.o.length cx, .slice ay p.b.length cy] := by rw [hwa]; exact Blk.new wr.drew _ _
          obtain ⟨a7, c7, w7, hrun, hrow7, F7⟩ := ARow.add Tryz.underlying92 info107 (HRW2.out.fr Fa (fun _ _ h => h)) (HF2.out.trans Fa).size (Fr.refl wa) wr.heap.size BX p hpx hpy (by rw [HML2.out]; omega)
          have G7 : Fr (fun _ => False) wo w7 := (HF2.out.trans Fa).trans' F7 (fun i hi e => absurd hi (by have := (HRW2.out.keep i e).1; omega))
          have HG7 := Lib.hid G7
          rw [HML2.out] at hrun hrow7
          have HRUN := Lib.hid hrun
          have HROW7 := Lib.hid hrow7
          have hS : ∀ w', Fr (fun _ => False) w w' → w'.cell? ⟨b, off + j, none⟩ = some (.slice (some ⟨b1, o1, none⟩) r.length cr) ∧ w'.cell? ⟨b1, o1 + i * 2, none⟩ = some (.slice ax p.o.length cx) ∧ w'.cell? ⟨b1, o1 + i * 2 + 1, none⟩ = some (.slice ay p.b.length cy) := fun w' f => ⟨f.cell HE0.out (fun h => h), f.cell e1' (fun h => h), f.cell e2' (fun h => h)⟩
          have HC0 := Lib.hid (hS wr.drew ((HF.out.trans HF2.out).drew))
          have HCa := Lib.hid (hS wa ((HF.out.trans HF2.out).trans Fa))
          have HC7 := Lib.hid (hS w7 (HF.out.trans G7))
          rw [hwa] at HCa HRUN
          clear hrun hrow7 F7 G7 BX Fa hwa hx hy hp e1 e2 e1' e2' hpx hpy hS
          go_upto_region 9 with fail
          go_region_held3 (fun w' => w'.cell? ⟨b, off + j, none⟩ = some (.slice (some ⟨b1, o1, none⟩) r.length cr) ∧ w'.cell? ⟨b1, o1 + i * 2, none⟩ = some (.slice ax p.o.length cx) ∧ w'.cell? ⟨b1, o1 + i * 2 + 1, none⟩ = some (.slice ay p.b.length cy)) (first | exact HC0.out | exact HCa.out | exact HC7.out) (first
            | (refine step_append_run (by rfl) (.tmp 22) (.tmp 40) 92 (by rfl) _ w7 (by exact HRUN.out) ?_)
            | fail)
          all_goals
            go_wp2_with fail
            go_roundg (r.length - (i + 1))
            case measure => rw [HG2.out]; omega
            case rel => exact ⟨i + 1, a7, c7, rfl, by omega, rfl, by go_num, by rw [HMT2.out]; exact HROW7.out, HG7.out⟩
        · obtain rfl : i = r.length := by omega
          have hrow2 := HRW2.out
          rw [List.take_length] at hrow2
          have hkp := HRW.out.keep
          have hk2 : Kept (fun W => Attrs W (.slice a2 r.length c2) r) (fun k => (Value.slice au j cu).ownBlock = some k) wr := hrow2.kept (HF.out.trans HF2.out) _ (fun k e => hkp k e)
          obtain ⟨a7, c7, w7, hrun, hrow7, F7⟩ := NRow.add Tryz.underlying22 info92 (HRW.out.old HF2.out) (HF.out.trans HF2.out).size ((Fr.refl wr).alloc (.cells #[.slice a2 r.length c2] 92)) wr.heap.size _ r (Blk.new wr 92 #[.slice a2 r.length c2]) rfl hk2 (by rw [HML.out]; omega)
          have HG7 := Lib.hid ((HF.out.trans HF2.out).trans' F7 (fun i hi e => absurd hi (by have := (hkp i e).1; omega)))
          rw [HML.out] at hrun hrow7
          have HRUN := Lib.hid hrun
          have HROW7 := Lib.hid hrow7
          clear hrun hrow7 F7 hk2 hkp hrow2
          go_wp2_with (at_builtin; refine wpList_append_run (by rfl) (.tmp 42) (.tmp 44) 22 (by rfl) _ w7 (by exact HRUN.out) ?_)
          go_roundg (n.length - (j + 1))
          case measure => rw [HG.out]; omega
          case rel => exact ⟨j + 1, a7, c7, rfl, by omega, rfl, by go_num, by rw [HMT.out]; exact HROW7.out, HG7.out⟩
    · obtain rfl : j = n.length := by omega
      have hrow := HRW.out
      rw [List.take_length] at hrow
      have HROW := Lib.hid hrow
      clear hrow
      go_wp2_with fail
      go_ret
      exact ⟨⟨au, cu, rfl, HROW.out⟩, F⟩
end Go.Proofs.YthamenngccaijaaGreatDoor

namespace Go.Proofs.YthamenngccaijaaGreatDoor
open Go Go.RowKit Go.Q
set_option linter.unusedSimpArgs false
def rTagV (p : Nat) : Except Int (Tag × Nat) → Value
  | .error e => .tuple #[tagV ⟨0, 0, false⟩, .int .i64 p, .int .i64 e]
  | .ok (t, k) => .tuple #[tagV t, .int .i64 ((p + k : Nat) : Int), .int .i64 0]
end Go.Proofs.YthamenngccaijaaGreatDoor

namespace Go.Proofs.YthamenngccaijaaGreatDoor
open Go Go.RowKit Go.Q
def rLenV (p : Nat) : Except Int (Nat × Nat) → Value
  | .error e => .tuple #[.int .i64 0, .int .i64 p, .int .i64 e]
  | .ok (v, k) => .tuple #[.int .i64 v, .int .i64 ((p + k : Nat) : Int), .int .i64 0]
end Go.Proofs.YthamenngccaijaaGreatDoor

namespace Go.Proofs.YthamenngccaijaaGreatDoor
open Go Go.RowKit Go.Q
set_option linter.unusedSimpArgs false
def rReadV (p : Nat) : Except Int (Tag × Nat × Nat) → Value
  | .error e => .tuple #[tagV ⟨0, 0, false⟩, .int .i64 0, .int .i64 p, .int .i64 e]
  | .ok (t, n, k) => .tuple #[tagV t, .int .i64 n, .int .i64 ((p + k : Nat) : Int), .int .i64 0]
theorem readTag_le {l : List UInt8} {t : Tag} {k : Nat} (h : readTagS l = .ok (t, k)) : k ≤ l.length := by
  cases l with
  | nil => simp [readTagS] at h
  | cons x r =>
    simp only [readTagS] at h
    split at h
    · simp only [Except.ok.injEq, Prod.mk.injEq] at h
      simp only [List.length_cons]
      omega
    · split at h
      · cases h
      · rename_i n k' he
        have := (numS_pos he).2
        simp only [Except.ok.injEq, Prod.mk.injEq] at h
        simp only [List.length_cons]
        omega
end Go.Proofs.YthamenngccaijaaGreatDoor

namespace Go.Q
open Go
theorem readLen_le {l : List UInt8} {v k : Nat} (h : readLenS l = .ok (v, k)) : k ≤ l.length ∧ v ≤ 16777216 := by
  cases l with
  | nil => simp [readLenS] at h
  | cons x t =>
    simp only [readLenS] at h
    split at h
    · simp only [Except.ok.injEq, Prod.mk.injEq] at h
      simp only [List.length_cons]
      omega
    · split at h
      · cases h
      · unfold longS at h
        split at h
        · cases h
        split at h
        · cases h
        split at h
        · cases h
        · simp only [Except.ok.injEq, Prod.mk.injEq] at h
          simp only [List.length_cons]
          omega
theorem readS_le {l : List UInt8} {t : Tag} {n k : Nat} (h : readS l = .ok (t, n, k)) : k ≤ l.length ∧ n ≤ 16777216 := by
  unfold readS at h
  split at h
  · cases h
  · rename_i t' k' he
    have h1 := Go.Proofs.YthamenngccaijaaGreatDoor.readTag_le he
    split at h
    · cases h
    · rename_i v m hl
      have h2 := readLen_le hl
      rw [List.length_drop] at h2
      simp only [Except.ok.injEq, Prod.mk.injEq] at h
      omega
end Go.Q

namespace Go.Q
open Go Go.RowKit
theorem up7_zero (f : Nat) : up7 f 0 = [] := by cases f <;> simp [up7]
theorem up7_ge : ∀ (f m : Nat), m < 128 ^ f → up7 (f + 1) m = up7 f m
  | 0, m, h => by simp at h; subst h; simp [up7]
  | f + 1, m, h => by
    by_cases h0 : m = 0
    · subst h0; simp [up7]
    · have ih := up7_ge f (m / 128) (by rw [Nat.pow_succ] at h; omega)
      rw [up7, if_neg h0, ih]
      rw [up7, if_neg h0]
end Go.Q

namespace Go.Q
open Go Go.RowKit
theorem numS_ge : ∀ {l : List UInt8} {i n v k : Nat}, numS i n l = .ok (v, k) → 31 ≤ v
  | [], _, _, _, _, h => by simp [numS] at h
  | x :: t, i, n, v, k, h => by
    simp only [numS] at h
    split at h
    · cases h
    split at h
    · split at h
      · cases h
      · simp only [Except.ok.injEq, Prod.mk.injEq] at h
        omega
    · exact numS_ge h
theorem ofNat_eq {x : UInt8} {n : Nat} (h : n = x.toNat) : UInt8.ofNat n = x := by subst h; simp
theorem tag_back {l : List UInt8} {t : Tag} {k : Nat} (h : readTagS l = .ok (t, k)) (ht : tagGood t) : k = 1 ∧ ∃ r, l = tagByte t :: r := by
  cases l with
  | nil => simp [readTagS] at h
  | cons x r =>
    have hx := x.toNat_lt
    simp only [readTagS] at h
    split at h
    · simp only [Except.ok.injEq, Prod.mk.injEq] at h
      obtain ⟨rfl, rfl⟩ := h
      refine ⟨rfl, r, ?_⟩
      congr 1
      unfold tagByte
      refine (ofNat_eq ?_).symm
      simp only [decide_eq_true_eq]
      split <;> omega
    · split at h
      · cases h
      · rename_i n k' hn
        simp only [Except.ok.injEq, Prod.mk.injEq] at h
        obtain ⟨rfl, -⟩ := h
        have := numS_ge hn
        have h3 := ht.2.2
        simp only at h3
        omega
theorem len_back {l : List UInt8} {v m : Nat} (h : readLenS l = .ok (v, m)) : l.take m = lenBytes v := by
  cases l with
  | nil => simp [readLenS] at h
  | cons x t =>
    have hx := x.toNat_lt
    simp only [readLenS] at h
    split at h
    · simp only [Except.ok.injEq, Prod.mk.injEq] at h
      obtain ⟨rfl, rfl⟩ := h
      rw [lenBytes, if_pos (by assumption), ofNat_eq rfl]
      rfl
    split at h
    · cases h
    rename_i h1 h2
    obtain ⟨n, hn⟩ : ∃ n, n = x.toNat - 128 := ⟨_, rfl⟩
    rw [← hn] at h
    have hn1 : 1 ≤ n ∧ n ≤ 4 := by omega
    have hxn : x = UInt8.ofNat (128 + n) := (ofNat_eq (by omega)).symm
    unfold longS at h
    split at h
    · cases h
    split at h
    · cases h
    split at h
    · cases h
    rename_i h3 h4 h5
    simp only [Except.ok.injEq, Prod.mk.injEq] at h
    obtain ⟨hv, rfl⟩ := h
    rw [List.take_succ_cons]
    match n, t with
    | 0, _ => omega
    | 1, [] => simp at h3
    | 1, a :: t =>
      have ha := a.toNat_lt
      simp only [List.take_succ_cons, List.take_zero, beS, List.foldl_cons, List.foldl_nil] at h4 h5 hv ⊢
      rw [lenBytes, if_neg (by omega), if_pos (by omega), ofNat_eq (x := a) (by omega), hxn]
      rfl
    | 2, [] => simp at h3
    | 2, [a] => simp at h3
    | 2, a :: b :: t =>
      have ha := a.toNat_lt
      have hb := b.toNat_lt
      simp only [List.take_succ_cons, List.take_zero, beS, List.foldl_cons, List.foldl_nil, List.head?_cons, Option.map_some, Option.some.injEq] at h4 h5 hv ⊢
      rw [lenBytes, if_neg (by omega), if_neg (by omega), if_pos (by omega), ofNat_eq (x := a) (by omega), ofNat_eq (x := b) (by omega), hxn]
      rfl
    | 3, [] => simp at h3
    | 3, [a] => simp at h3
    | 3, [a, b] => simp at h3
    | 3, a :: b :: c :: t =>
      have ha := a.toNat_lt
      have hb := b.toNat_lt
      have hc := c.toNat_lt
      simp only [List.take_succ_cons, List.take_zero, beS, List.foldl_cons, List.foldl_nil, List.head?_cons, Option.map_some, Option.some.injEq] at h4 h5 hv ⊢
      rw [lenBytes, if_neg (by omega), if_neg (by omega), if_neg (by omega), if_pos (by omega), ofNat_eq (x := a) (by omega), ofNat_eq (x := b) (by omega), ofNat_eq (x := c) (by omega), hxn]
      rfl
    | 4, [] => simp at h3
    | 4, [a] => simp at h3
    | 4, [a, b] => simp at h3
    | 4, [a, b, c] => simp at h3
    | 4, a :: b :: c :: d :: t =>
      have ha := a.toNat_lt
      have hb := b.toNat_lt
      have hc := c.toNat_lt
      have hd := d.toNat_lt
      simp only [List.take_succ_cons, List.take_zero, beS, List.foldl_cons, List.foldl_nil, List.head?_cons, Option.map_some, Option.some.injEq] at h4 h5 hv ⊢
      rw [lenBytes, if_neg (by omega), if_neg (by omega), if_neg (by omega), if_neg (by omega), ofNat_eq (x := a) (by omega), ofNat_eq (x := b) (by omega), ofNat_eq (x := c) (by omega), ofNat_eq (x := d) (by omega), hxn]
      rfl
    | n + 5, _ => omega
theorem readS_parts {l : List UInt8} {t : Tag} {n k : Nat} (h : readS l = .ok (t, n, k)) : ∃ j m, readTagS l = .ok (t, j) ∧ readLenS (l.drop j) = .ok (n, m) ∧ k = j + m := by
  unfold readS at h
  split at h
  · cases h
  · rename_i t' j hj
    split at h
    · cases h
    · rename_i n' m hm
      simp only [Except.ok.injEq, Prod.mk.injEq] at h
      obtain ⟨rfl, rfl, rfl⟩ := h
      exact ⟨j, m, hj, hm, rfl⟩
theorem readS_back {l : List UInt8} {t : Tag} {n k : Nat} (h : readS l = .ok (t, n, k)) (ht : tagGood t) : l.take k = tagByte t :: lenBytes n ∧ n ≤ 16777216 ∧ k ≤ l.length := by
  have hle := readS_le h
  obtain ⟨j, m, h1, h2, rfl⟩ := readS_parts h
  obtain ⟨rfl, r, rfl⟩ := tag_back h1 ht
  have h3 := len_back h2
  refine ⟨?_, hle.2, hle.1⟩
  rw [Nat.add_comm, List.take_succ_cons, ← h3]
  rfl
theorem take_both {α : Type} (l : List α) (k n : Nat) : l.take (k + n) = l.take k ++ (l.drop k).take n := by
  rw [List.take_add]
theorem open_back {t : Tag} {l y : List UInt8} {k : Nat} (h : openS t l = .ok (y, k)) (ht : tagGood t) : l.take k = wrapS t y ∧ y.length ≤ 16777216 ∧ k ≤ l.length ∧ y.length < k := by
  unfold openS at h
  split at h
  · cases h
  rename_i u n j hr
  split at h
  · cases h
  rename_i hu
  split at h
  · cases h
  rename_i hn
  simp only [Except.ok.injEq, Prod.mk.injEq] at h
  obtain ⟨rfl, rfl⟩ := h
  have hu' : u = t := by simpa using hu
  subst hu'
  obtain ⟨h1, h2, h3⟩ := readS_back hr ht
  have hp := readS_pos hr
  have hl : ((l.drop j).take n).length = n := by rw [List.length_take, List.length_drop]; omega
  refine ⟨?_, by rw [hl]; exact h2, by omega, by rw [hl]; omega⟩
  rw [take_both, h1, wrapS, hl]
  rfl
theorem oneE {l : List UInt8} {e : Int} (h : readS l = .error e) : oneS l = .error e := by unfold oneS; rw [h]
theorem oneEnd {l : List UInt8} {t : Tag} {n k : Nat} (h : readS l = .ok (t, n, k)) (hn : l.length - k < n) : oneS l = .error 3 := by unfold oneS; rw [h]; exact if_pos hn
theorem oneOk {l : List UInt8} {t : Tag} {n k : Nat} (h : readS l = .ok (t, n, k)) (hn : ¬ l.length - k < n) : oneS l = .ok (t, k, k + n) := by unfold oneS; rw [h]; exact if_neg hn
theorem one_alone {y : List UInt8} {t : Tag} {k n : Nat} (h : oneS y = .ok (t, k, n)) (hn : ¬ n < y.length) : singleB y = true := by
  have hp := oneS_pos h
  have h0 : y ≠ [] := by
    intro e
    subst e
    simp [oneS, readS, readTagS] at h
  unfold singleB
  rw [allS_ok h0 h, List.drop_of_length_le (by omega), allS_nil]
  rfl
def numberS : Nat → Nat → List UInt8 → Except Int (Nat × Nat)
  | _, _, [] => .error 6
  | i, n, x :: t => if i = 0 ∧ x.toNat = 128 then .error 6 else if 2147483647 < n * 128 + x.toNat % 128 then .error 2 else if x.toNat < 128 then .ok (n * 128 + x.toNat, i + 1) else numberS (i + 1) (n * 128 + x.toNat % 128) t
def addS (o : List Int) (m : Nat) : List Int := if o = [] then (if m < 80 then [((m / 40 : Nat) : Int), ((m % 40 : Nat) : Int)] else [2, (m : Int) - 80]) else o ++ [(m : Int)]
def oidStS (o : List Int) (i n : Nat) : List UInt8 → Except Int (List Int)
  | [] => if i = 0 then .ok o else .error 6
  | x :: t => if i = 0 ∧ x.toNat = 128 then .error 6 else if 2147483647 < n * 128 + x.toNat % 128 then .error 2 else if x.toNat < 128 then (if o.length = 32 then .error 2 else oidStS (addS o (n * 128 + x.toNat)) 0 0 t) else oidStS o (i + 1) (n * 128 + x.toNat % 128) t
def oidParseS (l : List UInt8) : Except Int (List Int) := if l = [] then .error 6 else oidStS [] 0 0 l
theorem oidSt_num (o : List Int) : ∀ (l : List UInt8) (i n : Nat), (i ≠ 0 ∨ l ≠ []) → oidStS o i n l = match numberS i n l with | .error e => .error e | .ok (m, k) => if o.length = 32 then .error 2 else oidStS (addS o m) 0 0 (l.drop (k - i))
  | [], i, n, h => by
    rcases h with h | h
    · simp [oidStS, numberS, h]
    · exact absurd rfl h
  | x :: t, i, n, _ => by
    simp only [oidStS, numberS]
    split
    · rfl
    split
    · rfl
    split
    · simp only [show i + 1 - i = 1 from by omega, List.drop_succ_cons, List.drop_zero]
    · have ih := oidSt_num o t (i + 1) (n * 128 + x.toNat % 128) (.inl (by omega))
      rw [ih]
      have hpos : ∀ (l : List UInt8) (i n m k : Nat), numberS i n l = .ok (m, k) → i < k := by
        intro l
        induction l with
        | nil => intro i n m k h; simp [numberS] at h
        | cons x t ih =>
          intro i n m k h
          simp only [numberS] at h
          split at h
          · cases h
          split at h
          · cases h
          split at h
          · simp only [Except.ok.injEq, Prod.mk.injEq] at h
            omega
          · have := ih _ _ _ _ h
            omega
      cases hn : numberS (i + 1) (n * 128 + x.toNat % 128) t with
      | error e => rfl
      | ok mk =>
        obtain ⟨m, k⟩ := mk
        have := hpos _ _ _ _ _ hn
        simp only [show k - i = (k - (i + 1)) + 1 from by omega, List.drop_succ_cons]
theorem numberS_back : ∀ (l : List UInt8) (i n m k : Nat), (i = 0 → n = 0) → (i ≠ 0 → n ≠ 0) → numberS i n l = .ok (m, k) → ∃ j, k = i + j ∧ base128 m = (up7 5 n).reverse ++ l.take j ∧ m ≤ 2147483647 ∧ 1 ≤ j ∧ j ≤ l.length
  | [], i, n, m, k, _, _, h => by simp [numberS] at h
  | x :: t, i, n, m, k, h1, h2, h => by
    have hx := x.toNat_lt
    simp only [numberS] at h
    split at h
    · cases h
    rename_i hf
    split at h
    · cases h
    rename_i hm
    split at h
    · rename_i hs
      simp only [Except.ok.injEq, Prod.mk.injEq] at h
      obtain ⟨rfl, rfl⟩ := h
      refine ⟨1, rfl, ?_, by omega, Nat.le_refl _, by simp⟩
      unfold base128
      rw [show (n * 128 + x.toNat) % 128 = x.toNat from by omega, show (n * 128 + x.toNat) / 128 = n from by omega, ofNat_eq rfl]
      simp
    · rename_i hs
      have hn' : n * 128 + x.toNat % 128 ≠ 0 := by
        rcases Nat.eq_zero_or_pos i with h0 | h0
        · have := h1 h0
          omega
        · have := h2 (by omega)
          omega
      obtain ⟨j, rfl, g1, g2, g3, g4⟩ := numberS_back t (i + 1) _ m k (fun h => by omega) (fun _ => hn') h
      refine ⟨j + 1, by omega, ?_, g2, by omega, by simp; omega⟩
      rw [g1]
      have e : up7 5 (n * 128 + x.toNat % 128) = x :: up7 5 n := by
        rw [up7, if_neg hn', show (n * 128 + x.toNat % 128) / 128 = n from by omega, ofNat_eq (x := x) (by omega), up7_ge 4 n (Nat.lt_of_le_of_lt (show n ≤ 16777216 by omega) (by decide))]
      rw [e]
      simp
def partBytes (o : List Int) : List UInt8 := if o = [] then [] else oidBytes o
def goodO (o : List Int) : Prop := o.length ≤ 32 ∧ (o = [] ∨ oidOk o = true)
theorem addS_good {o : List Int} (h : goodO o) (hl : o.length ≠ 32) {m : Nat} (hm : m ≤ 2147483647) : oidOk (addS o m) = true ∧ goodO (addS o m) ∧ partBytes (addS o m) = partBytes o ++ base128 m ∧ addS o m ≠ [] := by
  obtain ⟨h1, h2⟩ := h
  have key : oidOk (addS o m) = true ∧ (addS o m).length ≤ 32 ∧ partBytes (addS o m) = partBytes o ++ base128 m ∧ addS o m ≠ [] := by
    rcases h2 with rfl | h2
    · unfold addS
      rw [if_pos rfl]
      have hp : partBytes [] = [] := rfl
      rw [hp, List.nil_append]
      split
      · refine ⟨?_, by simp, ?_, by simp⟩
        · simp [oidOk, arcOk, twoOk]
          omega
        · unfold partBytes
          rw [if_neg (by simp)]
          simp only [oidBytes, Go.Proofs.YthamenngccaijaaGreatDoor.numsS, List.getD_cons_zero, List.getD_cons_succ, List.drop_succ_cons, List.drop_zero, List.flatMap_cons, List.flatMap_nil, List.append_nil]
          congr 1
          omega
      · refine ⟨?_, by simp, ?_, by simp⟩
        · simp [oidOk, arcOk, twoOk]
          omega
        · unfold partBytes
          rw [if_neg (by simp)]
          simp only [oidBytes, Go.Proofs.YthamenngccaijaaGreatDoor.numsS, List.getD_cons_zero, List.getD_cons_succ, List.drop_succ_cons, List.drop_zero, List.flatMap_cons, List.flatMap_nil, List.append_nil]
          congr 1
          omega
    · have h0 : o ≠ [] := by rintro rfl; simp [oidOk] at h2
      unfold oidOk at h2
      simp only [Bool.and_eq_true, decide_eq_true_eq] at h2
      obtain ⟨⟨⟨g1, g2⟩, g3⟩, g4⟩ := h2
      unfold addS
      rw [if_neg h0]
      obtain ⟨a, b, r, rfl⟩ : ∃ a b r, o = a :: b :: r := by
        match o, g1 with
        | a :: b :: r, _ => exact ⟨a, b, r, rfl⟩
        | [a], g1 => simp at g1
        | [], g1 => simp at g1
      have ha : arcOk (m : Int) = true := by unfold arcOk; exact decide_eq_true (by omega)
      simp only [List.length_cons] at g1 g2 hl h1
      refine ⟨?_, by simp; omega, ?_, by simp⟩
      · unfold oidOk
        simp only [Bool.and_eq_true, decide_eq_true_eq]
        refine ⟨⟨⟨by simp, by simp; omega⟩, ?_⟩, g4⟩
        rw [List.all_append, g3]
        simp [ha]
      · unfold partBytes
        rw [if_neg (by simp), if_neg (by simp)]
        simp only [oidBytes, Go.Proofs.YthamenngccaijaaGreatDoor.numsS, List.cons_append, List.getD_cons_zero, List.getD_cons_succ, List.drop_succ_cons, List.drop_zero, List.flatMap_cons, List.flatMap_append, List.flatMap_nil, List.append_nil, List.append_assoc, Int.toNat_natCast]
  exact ⟨key.1, ⟨key.2.1, .inr key.1⟩, key.2.2⟩
theorem oidSt_back : ∀ (f : Nat) (l : List UInt8) (o r : List Int), l.length ≤ f → goodO o → oidStS o 0 0 l = .ok r → goodO r ∧ partBytes r = partBytes o ++ l
  | 0, l, o, r, hf, ho, h => by
    obtain rfl : l = [] := List.length_eq_zero_iff.1 (by omega)
    simp only [oidStS, ↓reduceIte, Except.ok.injEq] at h
    subst h
    exact ⟨ho, by simp⟩
  | f + 1, [], o, r, hf, ho, h => by
    simp only [oidStS, ↓reduceIte, Except.ok.injEq] at h
    subst h
    exact ⟨ho, by simp⟩
  | f + 1, x :: t, o, r, hf, ho, h => by
    rw [oidSt_num o (x :: t) 0 0 (.inr (by simp))] at h
    cases hn : numberS 0 0 (x :: t) with
    | error e => rw [hn] at h; cases h
    | ok mk =>
      obtain ⟨m, k⟩ := mk
      rw [hn] at h
      simp only at h
      split at h
      · cases h
      rename_i hl
      obtain ⟨j, rfl, g1, g2, g3, g4⟩ := numberS_back _ 0 0 m k (fun _ => rfl) (fun h => absurd rfl h) hn
      rw [up7_zero, List.reverse_nil, List.nil_append] at g1
      rw [Nat.zero_add, Nat.sub_zero] at h
      obtain ⟨-, a2, a3, -⟩ := addS_good ho hl g2
      obtain ⟨b1, b2⟩ := oidSt_back f _ _ r (by rw [List.length_drop]; simp only [List.length_cons] at hf ⊢; omega) a2 h
      refine ⟨b1, ?_⟩
      rw [b2, a3, g1, List.append_assoc, List.take_append_drop]
theorem oidParse_back {l : List UInt8} {o : List Int} (h : oidParseS l = .ok o) : oidOk o = true ∧ oidBytes o = l := by
  unfold oidParseS at h
  split at h
  · cases h
  rename_i h0
  obtain ⟨h1, h2⟩ := oidSt_back l.length l [] o (Nat.le_refl _) ⟨by simp, .inl rfl⟩ h
  have h3 : partBytes [] = [] := rfl
  rw [h3, List.nil_append] at h2
  rcases h1.2 with rfl | h4
  · rw [h3] at h2
    exact absurd h2.symm h0
  · refine ⟨h4, ?_⟩
    rw [← h2]
    unfold partBytes
    rw [if_neg (by rintro rfl; simp [oidOk] at h4)]
def oidReadS (l : List UInt8) : Except Int (List Int × Nat) :=
  match openS (tagOf 6) l with
  | .error e => .error e
  | .ok (x, k) => match oidParseS x with
    | .error e => .error e
    | .ok o => .ok (o, k)
theorem tag6 : tagGood (tagOf 6) := ⟨by decide, by decide⟩
theorem tag16 : tagGood (tagOf 16) := ⟨by decide, by decide⟩
theorem tag17 : tagGood (tagOf 17) := ⟨by decide, by decide⟩
theorem oidRead_back {l : List UInt8} {o : List Int} {k : Nat} (h : oidReadS l = .ok (o, k)) : oidOk o = true ∧ l.take k = oidWhole o ∧ k ≤ l.length ∧ 1 ≤ k := by
  unfold oidReadS at h
  split at h
  · cases h
  rename_i x k' hx
  split at h
  · cases h
  rename_i o' ho
  simp only [Except.ok.injEq, Prod.mk.injEq] at h
  obtain ⟨rfl, rfl⟩ := h
  obtain ⟨h1, h2, h3, h4⟩ := open_back hx tag6
  obtain ⟨g1, g2⟩ := oidParse_back ho
  refine ⟨g1, ?_, h3, by omega⟩
  rw [h1, oidWhole, g2]
def partReadS (l : List UInt8) : Except Int (Part × Nat) :=
  match openS (tagOf 16) l with
  | .error e => .error e
  | .ok (y, m) => match oidReadS y with
    | .error e => .error e
    | .ok (o, q) => match oneS (y.drop q) with
      | .error e => .error e
      | .ok (_, _, n) => if n < y.length - q then .error 7 else .ok (⟨o, y.drop q⟩, m)
theorem partRead_back {l : List UInt8} {p : Part} {m : Nat} (h : partReadS l = .ok (p, m)) : attrS p.o p.b = some (l.take m) ∧ m ≤ l.length ∧ 1 ≤ m ∧ p.b.length ≤ l.length := by
  unfold partReadS at h
  split at h
  · cases h
  rename_i y m' hy
  split at h
  · cases h
  rename_i o q ho
  split at h
  · cases h
  rename_i t k n hn
  split at h
  · cases h
  rename_i hne
  simp only [Except.ok.injEq, Prod.mk.injEq] at h
  obtain ⟨rfl, rfl⟩ := h
  obtain ⟨h1, h2, h3, h4⟩ := open_back hy tag16
  obtain ⟨g1, g2, g3, g4⟩ := oidRead_back ho
  have hs := one_alone hn (by rw [List.length_drop]; exact hne)
  refine ⟨?_, h3, by omega, by simp only [List.length_drop]; omega⟩
  unfold attrS
  rw [g1, hs, if_pos (show (true && true) = true from rfl), h1, ← g2, List.take_append_drop]
def rdnGoS : Nat → List Part → List UInt8 → List UInt8 → Except Int (List Part)
  | _, out, _, [] => if out.length = 0 then .error 6 else .ok out
  | 0, _, _, _ :: _ => .error 3
  | f + 1, out, last, x :: t =>
    if out.length = 16 then .error 2 else
    match partReadS (x :: t) with
    | .error e => .error e
    | .ok (p, m) => if out.length ≠ 0 ∧ cmpS last ((x :: t).take m) = 0 then .error 10 else if out.length ≠ 0 ∧ 0 < cmpS last ((x :: t).take m) then .error 9 else rdnGoS f (out ++ [p]) ((x :: t).take m) ((x :: t).drop m)
theorem rdnGo_fuel : ∀ (f g : Nat) (out : List Part) (last l : List UInt8), l.length ≤ f → l.length ≤ g → rdnGoS f out last l = rdnGoS g out last l := by
  intro f
  induction f with
  | zero =>
    intro g out last l h _
    obtain rfl : l = [] := List.length_eq_zero_iff.1 (by omega)
    cases g <;> rfl
  | succ f ih =>
    intro g out last l h h2
    cases l with
    | nil => cases g <;> rfl
    | cons x t =>
      simp only [List.length_cons] at h h2
      obtain ⟨g, rfl⟩ : ∃ g', g = g' + 1 := ⟨g - 1, by omega⟩
      simp only [rdnGoS]
      cases hp : partReadS (x :: t) with
      | error e => rfl
      | ok v =>
        obtain ⟨p, m⟩ := v
        have hb := partRead_back hp
        have hl : ((x :: t).drop m).length ≤ t.length := by simp only [List.length_drop, List.length_cons]; omega
        simp only
        rw [ih g _ _ _ (by omega) (by omega)]
def rdnSt (out : List Part) (last l : List UInt8) : Except Int (List Part) := rdnGoS l.length out last l
theorem rdnSt_end (out : List Part) (last : List UInt8) : rdnSt out last [] = if out.length = 0 then .error 6 else .ok out := rfl
theorem rdnSt_full {out : List Part} {last l : List UInt8} (h0 : l ≠ []) (h : out.length = 16) : rdnSt out last l = .error 2 := by
  cases l with
  | nil => exact absurd rfl h0
  | cons x t => simp only [rdnSt, List.length_cons, rdnGoS, if_pos h]
theorem rdnSt_err {out : List Part} {last l : List UInt8} {e : Int} (h0 : l ≠ []) (h : out.length ≠ 16) (hp : partReadS l = .error e) : rdnSt out last l = .error e := by
  cases l with
  | nil => exact absurd rfl h0
  | cons x t => simp only [rdnSt, List.length_cons, rdnGoS, if_neg h, hp]
theorem rdnSt_ok {out : List Part} {last l : List UInt8} {p : Part} {m : Nat} (h : out.length ≠ 16) (hp : partReadS l = .ok (p, m)) : rdnSt out last l = if out.length ≠ 0 ∧ cmpS last (l.take m) = 0 then .error 10 else if out.length ≠ 0 ∧ 0 < cmpS last (l.take m) then .error 9 else rdnSt (out ++ [p]) (l.take m) (l.drop m) := by
  have hb := partRead_back hp
  cases l with
  | nil => simp at hb; omega
  | cons x t =>
    simp only [rdnSt, List.length_cons, rdnGoS, if_neg h, hp]
    rw [rdnGo_fuel t.length ((x :: t).drop m).length _ _ _ (by simp only [List.length_drop, List.length_cons]; omega) (Nat.le_refl _)]
def rdnReadS (l : List UInt8) : Except Int (List Part × Nat) :=
  match openS (tagOf 17) l with
  | .error e => .error e
  | .ok (x, k) => match rdnSt [] [] x with
    | .error e => .error e
    | .ok r => .ok (r, k)
theorem rdnRead_len {l : List UInt8} {r : List Part} {k : Nat} (h : rdnReadS l = .ok (r, k)) : k ≤ l.length ∧ 1 ≤ k := by
  unfold rdnReadS at h
  split at h
  · cases h
  rename_i x k' hx
  split at h
  · cases h
  simp only [Except.ok.injEq, Prod.mk.injEq] at h
  obtain ⟨-, rfl⟩ := h
  obtain ⟨-, -, h3, h4⟩ := open_back hx tag17
  exact ⟨h3, by omega⟩
def nameGoS : Nat → List (List Part) → List UInt8 → Except Int (List (List Part))
  | _, out, [] => .ok out
  | 0, _, _ :: _ => .error 3
  | f + 1, out, x :: t =>
    if out.length = 64 then .error 2 else
    match rdnReadS (x :: t) with
    | .error e => .error e
    | .ok (r, k) => nameGoS f (out ++ [r]) ((x :: t).drop k)
theorem nameGo_fuel : ∀ (f g : Nat) (out : List (List Part)) (l : List UInt8), l.length ≤ f → l.length ≤ g → nameGoS f out l = nameGoS g out l := by
  intro f
  induction f with
  | zero =>
    intro g out l h _
    obtain rfl : l = [] := List.length_eq_zero_iff.1 (by omega)
    cases g <;> rfl
  | succ f ih =>
    intro g out l h h2
    cases l with
    | nil => cases g <;> rfl
    | cons x t =>
      simp only [List.length_cons] at h h2
      obtain ⟨g, rfl⟩ : ∃ g', g = g' + 1 := ⟨g - 1, by omega⟩
      simp only [nameGoS]
      cases hp : rdnReadS (x :: t) with
      | error e => rfl
      | ok v =>
        obtain ⟨p, m⟩ := v
        have hb := rdnRead_len hp
        have hl : ((x :: t).drop m).length ≤ t.length := by simp only [List.length_drop, List.length_cons]; omega
        simp only
        rw [ih g _ _ (by omega) (by omega)]
def nameSt (out : List (List Part)) (l : List UInt8) : Except Int (List (List Part)) := nameGoS l.length out l
theorem nameSt_full {out : List (List Part)} {l : List UInt8} (h0 : l ≠ []) (h : out.length = 64) : nameSt out l = .error 2 := by
  cases l with
  | nil => exact absurd rfl h0
  | cons x t => simp only [nameSt, List.length_cons, nameGoS, if_pos h]
theorem nameSt_err {out : List (List Part)} {l : List UInt8} {e : Int} (h0 : l ≠ []) (h : out.length ≠ 64) (hp : rdnReadS l = .error e) : nameSt out l = .error e := by
  cases l with
  | nil => exact absurd rfl h0
  | cons x t => simp only [nameSt, List.length_cons, nameGoS, if_neg h, hp]
theorem nameSt_ok {out : List (List Part)} {l : List UInt8} {r : List Part} {k : Nat} (h : out.length ≠ 64) (hp : rdnReadS l = .ok (r, k)) : nameSt out l = nameSt (out ++ [r]) (l.drop k) := by
  have hb := rdnRead_len hp
  cases l with
  | nil => simp at hb; omega
  | cons x t =>
    simp only [nameSt, List.length_cons, nameGoS, if_neg h, hp]
    exact nameGo_fuel t.length ((x :: t).drop k).length _ _ (by simp only [List.length_drop, List.length_cons]; omega) (Nat.le_refl _)
def nameReadS (l : List UInt8) : Except Int (List (List Part) × Nat) :=
  match openS (tagOf 16) l with
  | .error e => .error e
  | .ok (x, k) => match nameSt [] x with
    | .error e => .error e
    | .ok n => .ok (n, k)
def nameParseS (l : List UInt8) : Except Int (List (List Part)) :=
  match nameReadS l with
  | .error e => .error e
  | .ok (n, k) => if k < l.length then .error 7 else .ok n
end Go.Q

namespace Go.Q
open Go Go.RowKit
def amongB (n : Int) (l : List UInt8) : Bool := l.any fun x => (x.toNat : Int) == n
abbrev printL : List UInt8 := [97, 98, 99, 100, 101, 102, 103, 104, 105, 106, 107, 108, 109, 110, 111, 112, 113, 114, 115, 116, 117, 118, 119, 120, 121, 122, 65, 66, 67, 68, 69, 70, 71, 72, 73, 74, 75, 76, 77, 78, 79, 80, 81, 82, 83, 84, 85, 86, 87, 88, 89, 90, 48, 49, 50, 51, 52, 53, 54, 55, 56, 57, 32, 39, 40, 41, 43, 44, 45, 46, 47, 58, 61, 63]
end Go.Q
namespace Go.Proofs.YthamenngccaijaaGreatDoor
open Go Go.RowKit Go.Q
end Go.Proofs.YthamenngccaijaaGreatDoor

namespace Go.Q
open Go Go.RowKit
abbrev natInts (ns : List Nat) : List Int := ns.map fun (n : Nat) => (n : Int)
end Go.Q
namespace Go.Proofs.YthamenngccaijaaGreatDoor
open Go Go.RowKit Go.Q
end Go.Proofs.YthamenngccaijaaGreatDoor

namespace Go.Q
open Go Go.RowKit
def looseHead (c : Nat) : Nat × Nat := if 240 ≤ c then (c - 240, 3) else if 224 ≤ c then (c - 224, 2) else if 192 ≤ c then (c - 192, 1) else (c, 0)
def looseAcc (n0 : Nat) (l : List UInt8) : Nat := l.foldl (fun n y => 64 * n + y.toNat % 64) n0
def looseS : Nat → List UInt8 → Option (List Nat)
  | _, [] => some []
  | 0, _ :: _ => none
  | f + 1, x :: t => if 1114111 < looseAcc (looseHead x.toNat).1 (t.take (looseHead x.toNat).2) then none else (looseS f (t.drop (looseHead x.toNat).2)).map (looseAcc (looseHead x.toNat).1 (t.take (looseHead x.toNat).2) :: ·)
def looseL (l : List UInt8) : Option (List Nat) := looseS l.length l
def wideR (b : List UInt8) : Option (List Nat) :=
  match looseL b with
  | none => none
  | some ns => if (natInts ns).all (mayS 12) = true ∧ encAll ns = b then some ns else none
end Go.Q

namespace Go.Proofs.YthamenngccaijaaGreatDoor
open Go Go.RowKit Go.Q
def WideOut (w w' : World) (b : List UInt8) (e : Ending) : Prop :=
  ∃ v, e = .returned (.tuple #[v, .bool (wideR b).isSome]) ∧ Ints w' v (natInts ((wideR b).getD [])) ∧ Fr (fun _ => False) w w'
end Go.Proofs.YthamenngccaijaaGreatDoor

namespace Go.Q
open Go Go.RowKit
def sigR (k : Int) (b : List UInt8) : Option (List Int) :=
  if kindOk k = true then
    (if k = 12 then (wideR b).map natInts else
      if k = 30 ∧ b.length % 2 = 1 then none else if (signsS k b).all (mayS k) = true then some (signsS k b) else none)
  else none
end Go.Q
namespace Go.Proofs.YthamenngccaijaaGreatDoor
open Go Go.RowKit Go.Q
def RSigOut (w w' : World) (k : Int) (b : List UInt8) (e : Ending) : Prop :=
  ∃ v, e = .returned (.tuple #[v, .bool (sigR k b).isSome]) ∧ Ints w' v ((sigR k b).getD []) ∧ Fr (fun _ => False) w w'
end Go.Proofs.YthamenngccaijaaGreatDoor

namespace Go.Proofs.YthamenngccaijaaGreatDoor
open Go Go.RowKit Go.Q
end Go.Proofs.YthamenngccaijaaGreatDoor

namespace Go.Proofs.YthamenngccaijaaGreatDoor
open Go Go.RowKit Go.Q
end Go.Proofs.YthamenngccaijaaGreatDoor

namespace Go.Proofs.YthamenngccaijaaGreatDoor
open Go Go.RowKit Go.Q
end Go.Proofs.YthamenngccaijaaGreatDoor

namespace Go.Q
open Go Go.RowKit
end Go.Q

namespace Go.Q
open Go Go.RowKit
end Go.Q
namespace Go.Proofs.YthamenngccaijaaGreatDoor
open Go Go.RowKit Go.Q
set_option linter.unusedSimpArgs false
def RTextOut (wb : World) (l : List UInt8) (p : Nat) (e : Ending) : Prop :=
  match textReadS (l.drop p) with
  | .error x => e = .returned (.tuple #[.agg #[.int .i64 0, .slice none 0 0], .int .i64 p, .int .i64 x])
  | .ok (k, b, n) => ∃ u, e = .returned (.tuple #[.agg #[.int .i64 k, u], .int .i64 ((p + n : Nat) : Int), .int .i64 0]) ∧ Bytes wb u b
end Go.Proofs.YthamenngccaijaaGreatDoor

namespace Go.Q
open Go
end Go.Q
namespace Go.Proofs.YthamenngccaijaaGreatDoor
open Go Go.RowKit Go.Q
set_option linter.unusedSimpArgs false
end Go.Proofs.YthamenngccaijaaGreatDoor

namespace Go.Proofs.YthamenngccaijaaGreatDoor
open Go Go.RowKit Go.Q
set_option linter.unusedSimpArgs false
end Go.Proofs.YthamenngccaijaaGreatDoor

namespace Go.Proofs.YthamenngccaijaaGreatDoor
open Go Go.RowKit Go.Q
set_option linter.unusedSimpArgs false
end Go.Proofs.YthamenngccaijaaGreatDoor

namespace Go.Q
open Go Go.RowKit
theorem cmpI_drop {o p : List Int} {j : Nat} {x y : Int} (hx : o[j]? = some x) (hy : p[j]? = some y) : cmpI (o.drop j) (p.drop j) = if x < y then -1 else if y < x then 1 else cmpI (o.drop (j + 1)) (p.drop (j + 1)) := by
  have h1 : o.drop j = x :: o.drop (j + 1) := by
    obtain ⟨h, rfl⟩ := List.getElem?_eq_some_iff.1 hx
    exact List.drop_eq_getElem_cons h
  have h2 : p.drop j = y :: p.drop (j + 1) := by
    obtain ⟨h, rfl⟩ := List.getElem?_eq_some_iff.1 hy
    exact List.drop_eq_getElem_cons h
  rw [h1, h2]
  rfl
def partTextS (ks : List Int) (p : Part) : Option (List UInt8) :=
  if ks ≠ [] ∧ p.o ≠ ks then none else match textReadS p.b with
    | .ok (k, t, _) => some (utf8S k t)
    | .error _ => none
def textsS (n : List (List Part)) (ks : List Int) : List (List UInt8) := if nameOk n = true then n.flatten.filterMap (partTextS ks) else []
theorem filterMap_next {l : List Part} {j : Nat} {p : Part} (ks : List Int) (h : l[j]? = some p) : (l.take (j + 1)).filterMap (partTextS ks) = (l.take j).filterMap (partTextS ks) ++ (partTextS ks p).toList := by
  rw [List.take_add_one, h, List.filterMap_append]
  cases hp : partTextS ks p <;> simp [hp]
end Go.Q
namespace Go.Proofs.YthamenngccaijaaGreatDoor
open Go Go.RowKit Go.Q
set_option maxRecDepth 20000 in
set_option maxHeartbeats 1000000 in
theorem sliceCompare_any (v u : Value) (o p : List Int) (w : World) (h : Ints w v o) (hu : Ints w u p) :
    Calls Tryz.prog 156 #[v, u] w fun e w' => e = .returned (.int .i64 (cmpI o p)) ∧ w = w' := by
  obtain ⟨a, cap, rfl, hc1, hm1, hx⟩ := Ints.form h
  obtain ⟨b, cbp, rfl, hc2, hm2, hy⟩ := Ints.form hu
  have HX := Lib.hid hx
  have HY := Lib.hid hy
  unfold maxLen at hm1 hm2
  clear h hu hx hy
  go_enter Tryz.func156, Tryz.ntmps156
  go_wp2_with fail
  go_loopg [11] o.length (fun g i wr => ∃ j : Nat, g = o.length - j ∧ j ≤ o.length ∧ j ≤ p.length ∧ i = .int .i64 j ∧ cmpI o p = cmpI (o.drop j) (p.drop j) ∧ wr = w)
  case atStart => exact ⟨0, rfl, Nat.zero_le _, Nat.zero_le _, rfl, rfl, rfl⟩
  case round =>
    obtain ⟨j, hg, hj, hjp, rfl, hE, rfl⟩ := hrel
    have HG := Lib.hid hg
    have HE := Lib.hid hE
    clear hg hE
    by_cases hjl : j < o.length
    · obtain ⟨ba, oa, rfl, ha⟩ := HX.out (by omega)
      obtain ⟨x, hxj⟩ : ∃ x, o[j]? = some x := ⟨_, List.getElem?_eq_getElem hjl⟩
      have e1 := ha j x hxj
      have r1 : (0 : Int) ≤ (j : Int) := by omega
      have r2 : (j : Int) < (o.length : Int) := by omega
      by_cases hjl2 : j < p.length
      · obtain ⟨bb, ob, rfl, hb⟩ := HY.out (by omega)
        obtain ⟨y, hyj⟩ : ∃ y, p[j]? = some y := ⟨_, List.getElem?_eq_getElem hjl2⟩
        have e2 := hb j y hyj
        have r3 : ¬ (p.length : Int) ≤ (j : Int) := by omega
        have r4 : (j : Int) < (p.length : Int) := by omega
        have hcd := Lib.hid (cmpI_drop hxj hyj)
        have HC := Lib.hid (show Calls Tryz.prog 196 #[.int .i64 x, .int .i64 y] wr fun e w' => e = .returned (.int .i64 (Lib.compareInt x y)) ∧ wr = w' from (Go.Proofs.Tryz.cmp_Compare_int x y wr).mono (fun _ _ h => ⟨h.1, h.2.symm⟩))
        clear ha hb hxj hyj
        have hcase : (x < y ∧ Lib.compareInt x y = -1) ∨ (y < x ∧ Lib.compareInt x y = 1) ∨ (x = y ∧ Lib.compareInt x y = 0) := by
          unfold Lib.compareInt
          by_cases h1 : x < y
          · left; refine ⟨h1, ?_⟩; simp [h1]
          · by_cases h2 : y < x
            · right; left; refine ⟨h2, ?_⟩; simp [h1, h2]
            · right; right; refine ⟨by omega, ?_⟩; simp [h1, h2]
        rcases hcase with ⟨h1, h2⟩ | ⟨h1, h2⟩ | ⟨h1, h2⟩
        · rw [h2] at HC
          have hres : cmpI o p = -1 := by rw [HE.out, hcd.out, if_pos h1]
          have HRES := Lib.hid hres
          clear hres h1 h2
          go_wp2_with fail
          refine HC.out.mono ?_
          rintro e w' ⟨rfl, rfl⟩
          go_wp2_with fail
          go_ret
          exact ⟨by rw [HRES.out]; rfl, rfl⟩
        · rw [h2] at HC
          have hres : cmpI o p = 1 := by rw [HE.out, hcd.out, if_neg (by omega), if_pos h1]
          have HRES := Lib.hid hres
          clear hres h1 h2
          go_wp2_with fail
          refine HC.out.mono ?_
          rintro e w' ⟨rfl, rfl⟩
          go_wp2_with fail
          go_ret
          exact ⟨by rw [HRES.out]; rfl, rfl⟩
        · rw [h2] at HC
          have hres : cmpI o p = cmpI (o.drop (j + 1)) (p.drop (j + 1)) := by rw [HE.out, hcd.out, if_neg (by omega), if_neg (by omega)]
          have HRES := Lib.hid hres
          clear hres h1 h2
          go_wp2_with fail
          refine HC.out.mono ?_
          rintro e w' ⟨rfl, rfl⟩
          go_wp2_with fail
          go_roundg (o.length - (j + 1))
          case measure => rw [HG.out]; omega
          case rel => exact ⟨j + 1, rfl, by omega, by omega, by go_num, HRES.out, rfl⟩
      · have r3 : (p.length : Int) ≤ (j : Int) := by omega
        have hres : cmpI o p = 1 := by
          have h1 : o.drop j = x :: o.drop (j + 1) := by
            obtain ⟨h, rfl⟩ := List.getElem?_eq_some_iff.1 hxj
            exact List.drop_eq_getElem_cons h
          have h2 : p.drop j = [] := List.drop_eq_nil_of_le (by omega)
          rw [HE.out, h1, h2]
          rfl
        have HRES := Lib.hid hres
        clear hres ha hxj
        go_wp2_with fail
        go_ret
        exact ⟨by rw [HRES.out]; rfl, rfl⟩
    · obtain rfl : j = o.length := by omega
      have h1 : o.drop o.length = [] := List.drop_length
      by_cases hlt : o.length < p.length
      · have r3 : (o.length : Int) < (p.length : Int) := by omega
        have hres : cmpI o p = -1 := by
          rw [HE.out, h1]
          have : p.drop o.length ≠ [] := fun e => by have := drop_nil e; omega
          cases hd : p.drop o.length with
          | nil => exact absurd hd this
          | cons y t => rfl
        have HRES := Lib.hid hres
        clear hres h1
        go_wp2_with fail
        go_ret
        exact ⟨by rw [HRES.out]; rfl, rfl⟩
      · have r3 : ¬ (o.length : Int) < (p.length : Int) := by omega
        have hres : cmpI o p = 0 := by
          have h2 : p.drop o.length = [] := List.drop_eq_nil_of_le (by omega)
          rw [HE.out, h1, h2]
          rfl
        have HRES := Lib.hid hres
        clear hres h1
        go_wp2_with fail
        go_ret
        exact ⟨by rw [HRES.out]; rfl, rfl⟩
theorem oidCompare_any (v u : Value) (o p : List Int) (w : World) (h : Ints w v o) (hu : Ints w u p) :
    Calls Tryz.prog 115 #[v, u] w fun e w' => e = .returned (.int .i64 (cmpI o p)) ∧ w = w' := by
  have H := Lib.hid (sliceCompare_any v u o p w h hu)
  clear h hu
  go_enter Tryz.func115, Tryz.ntmps115
  go_wp2_with fail
  refine H.out.mono ?_
  rintro e w' ⟨rfl, rfl⟩
  go_wp2_with fail
  go_ret
  exact ⟨rfl, rfl⟩
set_option maxRecDepth 20000 in
set_option maxHeartbeats 2000000 in
theorem texts_any (v u : Value) (n : List (List Part)) (ks : List Int) (w : World) (h : NameAt w v n) (hu : Ints w u ks) (hf : ∀ r ∈ n, fewB r) (hE : Env w) :
    Calls Tryz.prog 67 #[v, u] w fun e w' => (∃ x, e = .returned x ∧ Strs w' x (textsS n ks)) ∧ Fr (fun _ => False) w w' := by
  have HR := Lib.hid (right_any v n w h hf)
  have H := Lib.hid h
  have HU := Lib.hid hu
  have HE := Lib.hid hE
  obtain ⟨a, cap, rfl, -⟩ := h
  obtain ⟨b, cbp, rfl, -⟩ := Ints.form hu
  clear hu hE
  cases hok : nameOk n with
  | false =>
    have hres : textsS n ks = [] := by unfold textsS; rw [if_neg (by rw [hok]; simp)]
    have HRES := Lib.hid hres
    rw [hok] at HR
    clear hres hok
    go_enter Tryz.func67, Tryz.ntmps67
    go_wp2_with fail
    refine HR.out.mono ?_
    rintro e w1 ⟨rfl, F1⟩
    go_wp2_with fail
    go_ret
    exact ⟨⟨_, rfl, by rw [HRES.out]; exact Vals.nil w1⟩, F1⟩
  | true =>
    have hres : textsS n ks = n.flatten.filterMap (partTextS ks) := by unfold textsS; rw [if_pos hok]
    have HRES := Lib.hid hres
    obtain ⟨hn64, hrd⟩ := name_rdns hok
    have hrl : ∀ r ∈ n, 0 < r.length ∧ r.length ≤ 1000 := fun r hr => by
      have h1 := hrd r hr
      have h2 := (rdn_oids h1).1
      unfold rdnS at h1
      split at h1
      · cases h1
      · exact ⟨by omega, by omega⟩
    have hfl : ∀ p ∈ n.flatten, p.b.length ≤ 10000000 := fun p hp => by
      obtain ⟨r, hr, hpr⟩ := List.mem_flatten.1 hp
      exact hf r hr p hpr
    have hfn : n.flatten.length ≤ 64 * 1000 := by
      have : ∀ m : List (List Part), (∀ r ∈ m, r.length ≤ 1000) → m.flatten.length ≤ m.length * 1000 := by
        intro m
        induction m with
        | nil => intro _; simp
        | cons x t ih =>
          intro hm
          have h1 := hm x (by simp)
          have h2 := ih (fun r hr => hm r (by simp [hr]))
          simp only [List.flatten_cons, List.length_append, List.length_cons, Nat.add_mul]
          omega
      have h1 := this n (fun r hr => (hrl r hr).2)
      have h2 : n.length * 1000 ≤ 64 * 1000 := Nat.mul_le_mul_right _ hn64
      omega
    have HFL := Lib.hid hfl
    rw [hok] at HR
    have HRL := Lib.hid hrl
    clear hres hok hrd hfl hrl
    go_enter Tryz.func67, Tryz.ntmps67
    go_wp2_with fail
    refine HR.out.mono ?_
    rintro e w1 ⟨rfl, F1⟩
    have HCC := Lib.hid (concatRdn_any _ n w1 (H.out.old F1) (by omega) HRL.out)
    clear HR
    go_wp2_with fail
    refine HCC.out.mono ?_
    rintro e w2 ⟨⟨x2, rfl, hA2⟩, F2⟩
    have HA2 := Lib.hid hA2
    have HF2 := Lib.hid (F1.trans F2)
    obtain ⟨a2, c2, rfl⟩ := hA2.form
    clear hA2 HCC F1 F2
    generalize n.flatten = l at *
    go_wp2_with fail
    go_loopg [5, 18] l.length (fun g s i wr => ∃ (j : Nat) (ts : List (List UInt8)) (au : Option Addr) (cu : Nat), g = l.length - j ∧ j ≤ l.length ∧ s = .slice au ts.length cu ∧ i = .int .i64 j ∧ ts = (l.take j).filterMap (partTextS ks) ∧ ts.length ≤ j ∧ wr.ownsRow w2.heap.size 9 1 (.slice au ts.length cu) ts.length (ts.map str) ∧ Fr (fun _ => False) w2 wr ∧ Fr (fun _ => False) w wr)
    case atStart => exact ⟨0, [], none, 0, rfl, Nat.zero_le _, rfl, rfl, rfl, Nat.le_refl _, ⟨rfl, .inl ⟨rfl, rfl⟩⟩, Fr.refl _, HF2.out⟩
    case round =>
      obtain ⟨j, ts, au, cu, hg, hj, rfl, rfl, hts, htl, hown, F, FW⟩ := hrel
      have HG := Lib.hid hg
      have HTS := Lib.hid hts
      have HOW := Lib.hid hown
      have HF := Lib.hid F
      have HFW := Lib.hid FW
      clear hg hts hown
      by_cases hjl : j < l.length
      · obtain ⟨a0, cap0, he, _, _, hx⟩ := HA2.out.old F
        simp only [Value.slice.injEq, true_and] at he
        obtain ⟨rfl, rfl⟩ := he
        obtain ⟨bb, off, rfl, hy⟩ := hx (by omega)
        obtain ⟨p, hp⟩ : ∃ p, l[j]? = some p := ⟨_, List.getElem?_eq_getElem hjl⟩
        obtain ⟨x, y, e1, e2, hpx, hpy⟩ := hy j p hp
        have hpb := HFL.out p (List.mem_of_getElem? hp)
        have r1 : (0 : Int) ≤ (j : Int) := by omega
        have r2 : (j : Int) < (l.length : Int) := by omega
        obtain ⟨ax, cx, rfl, -⟩ := Ints.form hpx
        obtain ⟨ay, cy, rfl, -⟩ := Vals.form hpy
        have e1' : wr.cell? ⟨bb, off + j * 2, none⟩ = some (.slice ax p.o.length cx) := by rw [Nat.mul_comm]; exact e1
        have e2' : wr.cell? ⟨bb, off + j * 2 + 1, none⟩ = some (.slice ay p.b.length cy) := by rw [Nat.mul_comm]; exact e2
        have HFN := Lib.hid (filterMap_next ks hp)
        have HPX := Lib.hid hpx
        have HPY := Lib.hid hpy
        clear hx hy hp hpx hpy F FW
        go_upto_region 7 with fail
        have BZ := Blk.new wr 108 #[.slice ax p.o.length cx, .slice ay p.b.length cy]
        have F3 : Fr (fun _ => False) wr (wr.alloc (.cells #[.slice ax p.o.length cx, .slice ay p.b.length cy] 108)) := (Fr.refl wr).alloc _
        have HPX1 := Lib.hid (HPX.out.old F3)
        have HPY1 := Lib.hid (HPY.out.old F3)
        have HU1 := Lib.hid ((HU.out.old HFW.out).old F3)
        have HE1 := Lib.hid ((HE.out.old HFW.out).old F3)
        have HOW1 := Lib.hid (ownsRow_fr HOW.out F3 (fun _ _ h => h))
        have HF1 := Lib.hid (HF.out.trans F3)
        have HFW1 := Lib.hid (HFW.out.trans F3)
        clear e1 e2 e1' e2' HPX HPY F3 HOW HF HFW
        generalize (wr.alloc (.cells #[.slice ax p.o.length cx, .slice ay p.b.length cy] 108)) = w3 at *
        have z0 := BZ.cell 0
        have z1 := BZ.cell 1
        simp at z0 z1
        have skip : partTextS ks p = none → ts = (l.take (j + 1)).filterMap (partTextS ks) := fun h => by rw [HFN.out, h, ← HTS.out]; simp
        have HSK := Lib.hid skip
        clear skip
        by_cases hno : ks ≠ [] ∧ p.o ≠ ks
        · have hpt : partTextS ks p = none := by unfold partTextS; rw [if_pos hno]
          have hk0 : (0 : Int) < (ks.length : Int) := by
            have := List.length_pos_iff.2 hno.1
            omega
          have hcz : cmpI p.o ks ≠ 0 := fun e => hno.2 ((cmpI_zero _ _).1 e)
          have hq1 : (cmpI p.o ks == 0) = false := beq_eq_false_iff_ne.2 hcz
          have hq2 : (cmpI p.o ks != 0) = true := by simpa using hcz
          have HOC := Lib.hid (oidCompare_any _ _ p.o ks w3 HPX1.out HU1.out)
          have HSK2 := Lib.hid (HSK.out hpt)
          clear hpt hno hcz
          generalize cmpI p.o ks = cz at *
          go_wp2_with (first | (go_at_call 115; refine HOC.out.mono ?_; rintro e w' ⟨rfl, rfl⟩))
          go_roundg (l.length - (j + 1))
          case measure => rw [HG.out]; omega
          case rel => exact ⟨j + 1, ts, au, cu, rfl, by omega, rfl, by go_num, HSK2.out, by omega, HOW1.out, HF1.out, HFW1.out⟩
        · have hpt : partTextS ks p = match textReadS p.b with | .ok (k, t, _) => some (utf8S k t) | .error _ => none := by unfold partTextS; rw [if_neg hno]
          have HPT := Lib.hid hpt
          have HW := Lib.hid (words_any _ p.b w3 HPY1.out HE1.out (by omega))
          have hcase : (¬ (0 : Int) < (ks.length : Int)) ∨ ((0 : Int) < (ks.length : Int) ∧ cmpI p.o ks = 0) := by
            by_cases hk : ks = []
            · left; rw [hk]; simp
            · right
              refine ⟨by have := List.length_pos_iff.2 hk; omega, (cmpI_zero _ _).2 ?_⟩
              exact Classical.byContradiction fun h => hno ⟨hk, h⟩
          have HOC := Lib.hid (oidCompare_any _ _ p.o ks w3 HPX1.out HU1.out)
          clear hpt hno
          rcases hcase with hk0 | ⟨hk0, hcz⟩
          case' inr => rw [hcz] at HOC
          all_goals
            go_wp2_with (first | (go_at_call 115; refine HOC.out.mono ?_; rintro e w' ⟨rfl, rfl⟩))
            refine HW.out.mono ?_
            rintro e w4 ⟨hout, F4⟩
            unfold WordsOut at hout
            cases hr : textReadS p.b with
            | error x =>
              rw [hr] at hout
              subst hout
              have hpt : partTextS ks p = none := by rw [HPT.out, hr]
              have HSK2 := Lib.hid (HSK.out hpt)
              have F5 : Fr (fun _ => False) w4 (w4.alloc (.cells #[.int .i64 0, .slice none 0 0] 172)) := (Fr.refl w4).alloc _
              have HOW5 := Lib.hid (ownsRow_fr (ownsRow_fr HOW1.out F4 (fun _ _ h => h)) F5 (fun _ _ h => h))
              have HF5 := Lib.hid ((HF1.out.trans F4).trans F5)
              have HFW5 := Lib.hid ((HFW1.out.trans F4).trans F5)
              clear hr hpt F4 F5 HOW1 HF1 HFW1
              go_wp2_with fail
              go_roundg (l.length - (j + 1))
              case measure => rw [HG.out]; omega
              case rel => exact ⟨j + 1, ts, au, cu, rfl, by omega, rfl, by go_num, HSK2.out, by omega, HOW5.out, HF5.out, HFW5.out⟩
            | ok kbn =>
              obtain ⟨k, t, m⟩ := kbn
              rw [hr] at hout
              obtain ⟨ut, rfl, hbt⟩ := hout
              obtain ⟨hrt, htl2⟩ := textRead_ok hr
              obtain ⟨at_, ct, rfl, -⟩ := hbt.form
              have hpt : partTextS ks p = some (utf8S k t) := by rw [HPT.out, hr]
              have hnx : ts ++ [utf8S k t] = (l.take (j + 1)).filterMap (partTextS ks) := by rw [HFN.out, hpt, ← HTS.out]; rfl
              have HNX := Lib.hid hnx
              have F5 : Fr (fun _ => False) w4 (w4.alloc (.cells #[.int .i64 k, .slice at_ t.length ct] 172)) := (Fr.refl w4).alloc _
              have HUT := Lib.hid (textUtf8_any k _ t _ (hbt.old F5) ((HE1.out.old F4).old F5).tabs hrt (by omega))
              have HOW5 := Lib.hid (ownsRow_fr (ownsRow_fr HOW1.out F4 (fun _ _ h => h)) F5 (fun _ _ h => h))
              have HF5 := Lib.hid ((HF1.out.trans F4).trans F5)
              have HFW5 := Lib.hid ((HFW1.out.trans F4).trans F5)
              clear hr hpt hnx F4 F5 HOW1 HF1 HFW1 hbt hrt
              generalize utf8S k t = ut at *
              go_upto_region 9 with fail
              have BT := Blk.new w4 172 #[.int .i64 k, .slice at_ t.length ct]
              obtain ⟨yy, hyy⟩ : ∃ y, y = w4.heap.size := ⟨_, rfl⟩
              rw [← hyy] at BT ⊢
              clear hyy
              generalize (w4.alloc (.cells #[.int .i64 k, .slice at_ t.length ct] 172)) = w5 at *
              have t0 := BT.cell 0
              have t1 := BT.cell 1
              simp only [List.getElem?_toArray, List.getElem?_cons_succ, List.getElem?_cons_zero] at t0 t1
              go_wp2_with fail
              refine HUT.out.mono ?_
              rintro e w6 ⟨rfl, F6⟩
              have F7 : Fr (fun _ => False) w6 (w6.alloc (.cells #[str ut] 9)) := (Fr.refl w6).alloc _
              have hs1 := HF5.out.size
              have hs2 := F6.size
              have hbk := (Vals.of_own HOW5.out).2
              have hs0 := HF2.out.size
              obtain ⟨a', c', w8, hrun, hown8, F8, -⟩ := add_gen Tryz.underlying68 info9 rfl (by decide) (by decide) (ownsRow_fr HOW5.out F6 (fun _ _ h => h)) (by omega) F7 w6.heap.size [str ut] rfl (Blk.new w6 9 #[str ut]) (by simp [Value.oneCell']) (by omega)
              have HRUN := Lib.hid hrun
              have HOW8 := Lib.hid hown8
              have HFW8 := Lib.hid ((HFW5.out.trans F6).trans' F8 (fun i hi e => by have := (hbk i e).1; omega))
              have HF8 := Lib.hid ((HF5.out.trans F6).trans' F8 (fun i hi e => by have := (hbk i e).1; omega))
              clear F6 F7 hrun hown8 F8 hbk HOW5 HF5 HFW5 BT t0 t1 HUT
              go_wp2_with (at_builtin; refine wpList_append_run (by rfl) (.tmp 44) (.tmp 46) 68 (by rfl) _ w8 (by exact HRUN.out) ?_)
              go_roundg (l.length - (j + 1))
              case measure => rw [HG.out]; omega
              case rel => exact ⟨j + 1, ts ++ [ut], a', c', rfl, by omega, by rw [List.length_append]; rfl, by go_num, HNX.out, by rw [List.length_append]; simp only [List.length_singleton]; omega, by rw [List.length_append, List.map_append]; exact HOW8.out, HF8.out, HFW8.out⟩
      · obtain rfl : j = l.length := by omega
        have hall : ts = l.filterMap (partTextS ks) := by rw [HTS.out, List.take_length]
        have HALL := Lib.hid hall
        have hv := Lib.hid (Vals.of_own HOW.out).1
        clear hall
        go_wp2_with fail
        go_ret
        exact ⟨⟨_, rfl, by rw [HRES.out, ← HALL.out]; exact hv.out⟩, FW⟩
end Go.Proofs.YthamenngccaijaaGreatDoor

namespace Go.Proofs.YthamenngccaijaaGreatDoor
open Go Go.RowKit Go.Q
set_option maxRecDepth 20000 in
set_option maxHeartbeats 1000000 in
theorem r04Compare_any (v u : Value) (o p : List Int) (w : World) (h : Ints w v o) (hu : Ints w u p) :
    Calls Tryz.prog 112 #[v, u] w fun e w' => e = .returned (.int .i64 (cmpI o p)) ∧ Fr (fun _ => False) w w' := by
  obtain ⟨a, cap, rfl, hc1, hm1, hx⟩ := Ints.form h
  obtain ⟨b, cbp, rfl, hc2, hm2, hy⟩ := Ints.form hu
  have HX := Lib.hid hx
  have HY := Lib.hid hy
  unfold maxLen at hm1 hm2
  clear h hu hx hy
  go_enter Tryz.func112, Tryz.ntmps112
  go_wp2_with fail
  go_loopg [5] (o.length + p.length) (fun g i wr => ∃ j : Nat, g = o.length + p.length - j ∧ j ≤ o.length ∧ j ≤ p.length ∧ i = .int .i64 j ∧ cmpI o p = cmpI (o.drop j) (p.drop j) ∧ Fr (fun _ => False) w wr)
  case atStart => exact ⟨0, rfl, Nat.zero_le _, Nat.zero_le _, rfl, rfl, Fr.refl _⟩
  case round =>
    obtain ⟨j, hg, hj, hjp, rfl, hE, F⟩ := hrel
    have HG := Lib.hid hg
    have HE := Lib.hid hE
    have HF := Lib.hid F
    clear hg hE
    by_cases hjl : j < o.length
    · obtain ⟨ba, oa, rfl, ha⟩ := HX.out (by omega)
      obtain ⟨x, hxj⟩ : ∃ x, o[j]? = some x := ⟨_, List.getElem?_eq_getElem hjl⟩
      have e1 := F.cell (ha j x hxj) (fun h => h)
      have r1 : (0 : Int) ≤ (j : Int) := by omega
      have r2 : (j : Int) < (o.length : Int) := by omega
      have r5 : decide ((o.length : Int) ≤ (j : Int)) = false := decide_eq_false (by omega)
      have r5N : decide (o.length ≤ j) = false := decide_eq_false (by omega)
      have r5' : decide ((j : Int) < (o.length : Int)) = true := decide_eq_true (by omega)
      have r5'N : decide (j < o.length) = true := decide_eq_true (by omega)
      by_cases hjl2 : j < p.length
      · obtain ⟨bb, ob, rfl, hb⟩ := HY.out (by omega)
        obtain ⟨y, hyj⟩ : ∃ y, p[j]? = some y := ⟨_, List.getElem?_eq_getElem hjl2⟩
        have e2 := F.cell (hb j y hyj) (fun h => h)
        have r4 : (j : Int) < (p.length : Int) := by omega
        have r3 : decide ((p.length : Int) ≤ (j : Int)) = false := decide_eq_false (by omega)
        have r3N : decide (p.length ≤ j) = false := decide_eq_false (by omega)
        have r4' : decide ((j : Int) < (p.length : Int)) = true := decide_eq_true (by omega)
        have r4'N : decide (j < p.length) = true := decide_eq_true (by omega)
        have hcd := Lib.hid (cmpI_drop hxj hyj)
        clear ha hb hxj hyj F
        by_cases h1 : x < y
        · have hres : cmpI o p = -1 := by rw [HE.out, hcd.out, if_pos h1]
          have HRES := Lib.hid hres
          have q1 : decide (x < y) = true := decide_eq_true h1
          clear hres
          go_wp2_with fail
          go_quiet (fail)
          go_wp2_with fail
          go_ret
          refine ⟨by rw [HRES.out]; rfl, ?_⟩; (first | with_reducible exact HF.out | with_reducible exact Fr.drewN HF.out _ | with_reducible exact Fr.drewN (Fr.drewN HF.out _) _ | with_reducible exact Fr.drewN (Fr.drewN (Fr.drewN HF.out _) _) _)
        · have q1 : decide (x < y) = false := decide_eq_false h1
          by_cases h2 : y < x
          · have hres : cmpI o p = 1 := by rw [HE.out, hcd.out, if_neg h1, if_pos h2]
            have HRES := Lib.hid hres
            have q2 : decide (y < x) = true := decide_eq_true h2
            clear hres
            go_wp2_with fail
            go_quiet (fail)
            go_wp2_with fail
            go_quiet (fail)
            go_wp2_with fail
            go_ret
            refine ⟨by rw [HRES.out]; rfl, ?_⟩; (first | with_reducible exact HF.out | with_reducible exact Fr.drewN HF.out _ | with_reducible exact Fr.drewN (Fr.drewN HF.out _) _ | with_reducible exact Fr.drewN (Fr.drewN (Fr.drewN HF.out _) _) _)
          · have hres : cmpI o p = cmpI (o.drop (j + 1)) (p.drop (j + 1)) := by rw [HE.out, hcd.out, if_neg h1, if_neg h2]
            have HRES := Lib.hid hres
            have q2 : decide (y < x) = false := decide_eq_false h2
            clear hres
            go_wp2_with fail
            go_quiet (fail)
            go_wp2_with fail
            go_quiet (fail)
            go_wp2_with fail
            go_roundg (o.length + p.length - (j + 1))
            case measure => rw [HG.out]; omega
            case rel => refine ⟨j + 1, rfl, by omega, by omega, by go_num, HRES.out, ?_⟩; (first | with_reducible exact HF.out | with_reducible exact Fr.drewN HF.out _ | with_reducible exact Fr.drewN (Fr.drewN HF.out _) _ | with_reducible exact Fr.drewN (Fr.drewN (Fr.drewN HF.out _) _) _)
      · have r3 : decide ((p.length : Int) ≤ (j : Int)) = true := decide_eq_true (by omega)
        have r3N : decide (p.length ≤ j) = true := decide_eq_true (by omega)
        have r4 : decide ((j : Int) < (p.length : Int)) = false := decide_eq_false (by omega)
        have r4N : decide (j < p.length) = false := decide_eq_false (by omega)
        have hres : cmpI o p = 1 := by
          have h1 : o.drop j = x :: o.drop (j + 1) := by
            obtain ⟨h, rfl⟩ := List.getElem?_eq_some_iff.1 hxj
            exact List.drop_eq_getElem_cons h
          have h2 : p.drop j = [] := List.drop_eq_nil_of_le (by omega)
          rw [HE.out, h1, h2]
          rfl
        have HRES := Lib.hid hres
        clear hres ha hxj F
        go_wp2_with fail
        go_quiet (fail)
        go_wp2_with fail
        go_quiet (fail)
        go_wp2_with fail
        go_ret
        refine ⟨by rw [HRES.out]; rfl, ?_⟩; (first | with_reducible exact HF.out | with_reducible exact Fr.drewN HF.out _ | with_reducible exact Fr.drewN (Fr.drewN HF.out _) _ | with_reducible exact Fr.drewN (Fr.drewN (Fr.drewN HF.out _) _) _)
    · obtain rfl : j = o.length := by omega
      have h1 : o.drop o.length = [] := List.drop_length
      have r5 : decide ((o.length : Int) ≤ (o.length : Int)) = true := decide_eq_true (by omega)
      have r5N : decide (o.length ≤ o.length) = true := decide_eq_true (by omega)
      by_cases hlt : o.length < p.length
      · have r3 : (o.length : Int) < (p.length : Int) := by omega
        have r3N : decide (o.length < p.length) = true := decide_eq_true hlt
        have hres : cmpI o p = -1 := by
          rw [HE.out, h1]
          have : p.drop o.length ≠ [] := fun e => by have := drop_nil e; omega
          cases hd : p.drop o.length with
          | nil => exact absurd hd this
          | cons y t => rfl
        have HRES := Lib.hid hres
        clear hres h1 F
        go_wp2_with fail
        go_quiet (fail)
        go_wp2_with fail
        go_ret
        refine ⟨by rw [HRES.out]; rfl, ?_⟩; (first | with_reducible exact HF.out | with_reducible exact Fr.drewN HF.out _ | with_reducible exact Fr.drewN (Fr.drewN HF.out _) _ | with_reducible exact Fr.drewN (Fr.drewN (Fr.drewN HF.out _) _) _)
      · have r3 : ¬ (o.length : Int) < (p.length : Int) := by omega
        have r3N : decide (o.length < p.length) = false := decide_eq_false hlt
        have hres : cmpI o p = 0 := by
          have h2 : p.drop o.length = [] := List.drop_eq_nil_of_le (by omega)
          rw [HE.out, h1, h2]
          rfl
        have HRES := Lib.hid hres
        clear hres h1
        go_wp2_with fail
        go_ret
        exact ⟨by rw [HRES.out]; rfl, F⟩
theorem r04Same_any (v u : Value) (o p : List Int) (w : World) (h : Ints w v o) (hu : Ints w u p) :
    Calls Tryz.prog 64 #[v, u] w fun e w' => e = .returned (.bool (decide (o = p))) ∧ Fr (fun _ => False) w w' := by
  have H := Lib.hid (r04Compare_any v u o p w h hu)
  clear h hu
  have hq : (cmpI o p == 0) = decide (o = p) := by
    rw [Bool.eq_iff_iff]
    simp [cmpI_zero]
  have HQ := Lib.hid hq
  clear hq
  generalize cmpI o p = c at *
  go_enter Tryz.func64, Tryz.ntmps64
  go_wp2_with fail
  refine H.out.mono ?_
  rintro e w' ⟨rfl, F⟩
  go_wp2_with fail
  go_ret
  exact ⟨by rw [← HQ.out]; rfl, F⟩
end Go.Proofs.YthamenngccaijaaGreatDoor

namespace Go.Proofs.YthamenngccaijaaGreatDoor
open Go Go.RowKit Go.Q
set_option linter.unusedSimpArgs false
def rWholeOut (w w' : World) (o : List Int) (b : List UInt8) (e : Ending) : Prop :=
  match attrS o b with
  | none => e = .returned (.tuple #[.slice none 0 0, .bool false])
  | some x => ∃ v, e = .returned (.tuple #[v, .bool true]) ∧ w'.ownsRow w.heap.size 5 1 v x.length (Lib.byteCells x)
end Go.Proofs.YthamenngccaijaaGreatDoor

namespace Go.Q
open Go Go.RowKit
theorem cmpS_drop {a b : List UInt8} {j : Nat} {x y : UInt8} (hx : a[j]? = some x) (hy : b[j]? = some y) : cmpS (a.drop j) (b.drop j) = if x.toNat < y.toNat then -1 else if y.toNat < x.toNat then 1 else cmpS (a.drop (j + 1)) (b.drop (j + 1)) := by
  have h1 : a.drop j = x :: a.drop (j + 1) := by
    obtain ⟨h, rfl⟩ := List.getElem?_eq_some_iff.1 hx
    exact List.drop_eq_getElem_cons h
  have h2 : b.drop j = y :: b.drop (j + 1) := by
    obtain ⟨h, rfl⟩ := List.getElem?_eq_some_iff.1 hy
    exact List.drop_eq_getElem_cons h
  rw [h1, h2]
  simp only [cmpS]
  by_cases h : x = y
  · subst h; simp
  · rw [if_neg h]
    by_cases h3 : x.toNat < y.toNat
    · rw [if_pos h3, if_pos h3]
    · rw [if_neg h3, if_neg h3, if_pos]
      rcases Nat.lt_or_ge y.toNat x.toNat with h4 | h4
      · exact h4
      · exact absurd (UInt8.toNat_inj.1 (by omega)) h
theorem cmpS_zero : ∀ (s t : List UInt8), cmpS s t = 0 ↔ s = t
  | [], [] => by simp [cmpS]
  | [], _ :: _ => by simp [cmpS]
  | _ :: _, [] => by simp [cmpS]
  | x :: s, y :: t => by
    have ih := cmpS_zero s t
    unfold cmpS
    split
    · rename_i h; subst h; rw [ih]; simp
    · rename_i h
      split <;> simp [h]
end Go.Q
namespace Go.Proofs.YthamenngccaijaaGreatDoor
open Go Go.RowKit Go.Q
set_option maxRecDepth 20000 in
set_option maxHeartbeats 1000000 in
theorem r01Compare_any (v u : Value) (o p : List UInt8) (w : World) (h : Bytes w v o) (hu : Bytes w u p) :
    Calls Tryz.prog 65 #[v, u] w fun e w' => e = .returned (.int .i64 (cmpS o p)) ∧ Fr (fun _ => False) w w' := by
  obtain ⟨a, cap, rfl, hc1, hm1, hx⟩ := Vals.form h
  obtain ⟨b, cbp, rfl, hc2, hm2, hy⟩ := Vals.form hu
  have HX := Lib.hid hx
  have HY := Lib.hid hy
  unfold maxLen at hm1 hm2
  clear h hu hx hy
  go_enter Tryz.func65, Tryz.ntmps65
  go_wp2_with fail
  go_loopg [5] (o.length + p.length) (fun g i wr => ∃ j : Nat, g = o.length + p.length - j ∧ j ≤ o.length ∧ j ≤ p.length ∧ i = .int .i64 j ∧ cmpS o p = cmpS (o.drop j) (p.drop j) ∧ Fr (fun _ => False) w wr)
  case atStart => exact ⟨0, rfl, Nat.zero_le _, Nat.zero_le _, rfl, rfl, Fr.refl _⟩
  case round =>
    obtain ⟨j, hg, hj, hjp, rfl, hE, F⟩ := hrel
    have HG := Lib.hid hg
    have HE := Lib.hid hE
    have HF := Lib.hid F
    clear hg hE
    by_cases hjl : j < o.length
    · obtain ⟨ba, oa, rfl, ha⟩ := HX.out (by omega)
      obtain ⟨x, hxj⟩ : ∃ x, o[j]? = some x := ⟨_, List.getElem?_eq_getElem hjl⟩
      have e1 := F.cell (ha j x hxj) (fun h => h)
      have r1 : (0 : Int) ≤ (j : Int) := by omega
      have r2 : (j : Int) < (o.length : Int) := by omega
      have r5 : decide ((o.length : Int) ≤ (j : Int)) = false := decide_eq_false (by omega)
      have r5N : decide (o.length ≤ j) = false := decide_eq_false (by omega)
      have r5' : decide ((j : Int) < (o.length : Int)) = true := decide_eq_true (by omega)
      have r5'N : decide (j < o.length) = true := decide_eq_true (by omega)
      by_cases hjl2 : j < p.length
      · obtain ⟨bb, ob, rfl, hb⟩ := HY.out (by omega)
        obtain ⟨y, hyj⟩ : ∃ y, p[j]? = some y := ⟨_, List.getElem?_eq_getElem hjl2⟩
        have e2 := F.cell (hb j y hyj) (fun h => h)
        have r4 : (j : Int) < (p.length : Int) := by omega
        have r3 : decide ((p.length : Int) ≤ (j : Int)) = false := decide_eq_false (by omega)
        have r3N : decide (p.length ≤ j) = false := decide_eq_false (by omega)
        have r4' : decide ((j : Int) < (p.length : Int)) = true := decide_eq_true (by omega)
        have r4'N : decide (j < p.length) = true := decide_eq_true (by omega)
        have hcd := Lib.hid (cmpS_drop hxj hyj)
        clear ha hb hxj hyj F
        generalize x.toNat = x at *
        generalize y.toNat = y at *
        by_cases h1 : x < y
        · have hres : cmpS o p = -1 := by rw [HE.out, hcd.out, if_pos h1]
          have HRES := Lib.hid hres
          have q1 : decide ((x : Int) < (y : Int)) = true := decide_eq_true (by omega)
          have q1N : decide (x < y) = true := decide_eq_true h1
          clear hres
          go_wp2_with fail
          go_quiet (fail)
          go_wp2_with fail
          go_ret
          refine ⟨by rw [HRES.out]; rfl, ?_⟩; (first | with_reducible exact HF.out | with_reducible exact Fr.drewN HF.out _ | with_reducible exact Fr.drewN (Fr.drewN HF.out _) _ | with_reducible exact Fr.drewN (Fr.drewN (Fr.drewN HF.out _) _) _)
        · have q1 : decide ((x : Int) < (y : Int)) = false := decide_eq_false (by omega)
          have q1N : decide (x < y) = false := decide_eq_false h1
          by_cases h2 : y < x
          · have hres : cmpS o p = 1 := by rw [HE.out, hcd.out, if_neg h1, if_pos h2]
            have HRES := Lib.hid hres
            have q2 : decide ((y : Int) < (x : Int)) = true := decide_eq_true (by omega)
            have q2N : decide (y < x) = true := decide_eq_true h2
            clear hres
            go_wp2_with fail
            go_quiet (fail)
            go_wp2_with fail
            go_quiet (fail)
            go_wp2_with fail
            go_ret
            refine ⟨by rw [HRES.out]; rfl, ?_⟩; (first | with_reducible exact HF.out | with_reducible exact Fr.drewN HF.out _ | with_reducible exact Fr.drewN (Fr.drewN HF.out _) _ | with_reducible exact Fr.drewN (Fr.drewN (Fr.drewN HF.out _) _) _)
          · have hres : cmpS o p = cmpS (o.drop (j + 1)) (p.drop (j + 1)) := by rw [HE.out, hcd.out, if_neg h1, if_neg h2]
            have HRES := Lib.hid hres
            have q2 : decide ((y : Int) < (x : Int)) = false := decide_eq_false (by omega)
            have q2N : decide (y < x) = false := decide_eq_false h2
            clear hres
            go_wp2_with fail
            go_quiet (fail)
            go_wp2_with fail
            go_quiet (fail)
            go_wp2_with fail
            go_roundg (o.length + p.length - (j + 1))
            case measure => rw [HG.out]; omega
            case rel => refine ⟨j + 1, rfl, by omega, by omega, by go_num, HRES.out, ?_⟩; (first | with_reducible exact HF.out | with_reducible exact Fr.drewN HF.out _ | with_reducible exact Fr.drewN (Fr.drewN HF.out _) _ | with_reducible exact Fr.drewN (Fr.drewN (Fr.drewN HF.out _) _) _)
      · have r3 : decide ((p.length : Int) ≤ (j : Int)) = true := decide_eq_true (by omega)
        have r3N : decide (p.length ≤ j) = true := decide_eq_true (by omega)
        have r4 : decide ((j : Int) < (p.length : Int)) = false := decide_eq_false (by omega)
        have r4N : decide (j < p.length) = false := decide_eq_false (by omega)
        have hres : cmpS o p = 1 := by
          have h1 : o.drop j = x :: o.drop (j + 1) := by
            obtain ⟨h, rfl⟩ := List.getElem?_eq_some_iff.1 hxj
            exact List.drop_eq_getElem_cons h
          have h2 : p.drop j = [] := List.drop_eq_nil_of_le (by omega)
          rw [HE.out, h1, h2]
          rfl
        have HRES := Lib.hid hres
        clear hres ha hxj F
        go_wp2_with fail
        go_quiet (fail)
        go_wp2_with fail
        go_quiet (fail)
        go_wp2_with fail
        go_ret
        refine ⟨by rw [HRES.out]; rfl, ?_⟩; (first | with_reducible exact HF.out | with_reducible exact Fr.drewN HF.out _ | with_reducible exact Fr.drewN (Fr.drewN HF.out _) _ | with_reducible exact Fr.drewN (Fr.drewN (Fr.drewN HF.out _) _) _)
    · obtain rfl : j = o.length := by omega
      have h1 : o.drop o.length = [] := List.drop_length
      have r5 : decide ((o.length : Int) ≤ (o.length : Int)) = true := decide_eq_true (by omega)
      have r5N : decide (o.length ≤ o.length) = true := decide_eq_true (by omega)
      by_cases hlt : o.length < p.length
      · have r3 : (o.length : Int) < (p.length : Int) := by omega
        have r3N : decide (o.length < p.length) = true := decide_eq_true hlt
        have hres : cmpS o p = -1 := by
          rw [HE.out, h1]
          have : p.drop o.length ≠ [] := fun e => by have := drop_nil e; omega
          cases hd : p.drop o.length with
          | nil => exact absurd hd this
          | cons y t => rfl
        have HRES := Lib.hid hres
        clear hres h1 F
        go_wp2_with fail
        go_quiet (fail)
        go_wp2_with fail
        go_ret
        refine ⟨by rw [HRES.out]; rfl, ?_⟩; (first | with_reducible exact HF.out | with_reducible exact Fr.drewN HF.out _ | with_reducible exact Fr.drewN (Fr.drewN HF.out _) _ | with_reducible exact Fr.drewN (Fr.drewN (Fr.drewN HF.out _) _) _)
      · have r3 : ¬ (o.length : Int) < (p.length : Int) := by omega
        have r3N : decide (o.length < p.length) = false := decide_eq_false hlt
        have hres : cmpS o p = 0 := by
          have h2 : p.drop o.length = [] := List.drop_eq_nil_of_le (by omega)
          rw [HE.out, h1, h2]
          rfl
        have HRES := Lib.hid hres
        clear hres h1
        go_wp2_with fail
        go_ret
        exact ⟨by rw [HRES.out]; rfl, F⟩
theorem r01Same_any (v u : Value) (o p : List UInt8) (w : World) (h : Bytes w v o) (hu : Bytes w u p) :
    Calls Tryz.prog 15 #[v, u] w fun e w' => e = .returned (.bool (decide (o = p))) ∧ Fr (fun _ => False) w w' := by
  have H := Lib.hid (r01Compare_any v u o p w h hu)
  clear h hu
  have hq : (cmpS o p == 0) = decide (o = p) := by
    rw [Bool.eq_iff_iff]
    simp [cmpS_zero]
  have HQ := Lib.hid hq
  clear hq
  generalize cmpS o p = c at *
  go_enter Tryz.func15, Tryz.ntmps15
  go_wp2_with fail
  refine H.out.mono ?_
  rintro e w' ⟨rfl, F⟩
  go_wp2_with fail
  go_ret
  exact ⟨by rw [← HQ.out]; rfl, F⟩
end Go.Proofs.YthamenngccaijaaGreatDoor

namespace Go.Proofs.YthamenngccaijaaGreatDoor
open Go Go.RowKit Go.Q
set_option linter.unusedSimpArgs false
end Go.Proofs.YthamenngccaijaaGreatDoor

namespace Go.Q
open Go Go.RowKit
section
variable {P : Program}
theorem append_none {w : World} {base n : Nat} {t e : TypeId} {v : Value} {xs : List Value} {z : Value} {size bytes : Nat} (hu : P.underlying t = some (.slice e)) (hinf : Info P e z size bytes) (hown : w.ownsRow base e size v n xs) (c : Nat) :
    (Builtin.append_ #[t, t] t #[v, .slice none 0 c]).run P w = .ok v w := by
  obtain ⟨i0, hi0, hz0, hz1, hz2⟩ := info_parts hinf
  rcases hown.2 with ⟨rfl, rfl⟩ | ⟨g, cap, cur, rfl, _, _, hnc, _⟩
  · simp [Builtin.append_, run_underlying hu, sizeOf, typeInfo, hi0, Builtin.lenOf, Builtin.firstCells]
  · simp [Builtin.append_, run_underlying hu, sizeOf, typeInfo, hi0, Builtin.lenOf, Builtin.firstCells, hnc, storeCells]
theorem append_vals {w : World} {base n : Nat} {t e : TypeId} {v y : Value} {xs news : List Value} {z : Value} {bytes : Nat} (hu : P.underlying t = some (.slice e)) (hinf : Info P e z 1 bytes) (hzs : z.cells.size = 1) (hby : bytes ≤ 64)
    (hown : w.ownsRow base e 1 v n xs) (hb : base ≤ w.heap.size) (hy : Vals w y news) (h1 : ∀ u ∈ news, u.oneCell' = true) (hsz : n + news.length ≤ 1099511627776) :
    ∃ a' c' w', (Builtin.append_ #[t, t] t #[v, y]).run P w = .ok (.slice a' (n + news.length) c') w' ∧ w'.ownsRow base e 1 (.slice a' (n + news.length) c') (n + news.length) (xs ++ news) ∧ Fr (fun k => v.ownBlock = some k) w w' ∧ (∀ k, (Value.slice a' (n + news.length) c').ownBlock = some k → v.ownBlock = some k ∨ w.heap.size ≤ k) := by
  obtain ⟨a, cap, rfl, hc, hm, hx⟩ := hy
  cases a with
  | none =>
    have h0 : news = [] := by
      cases news with
      | nil => rfl
      | cons u s => obtain ⟨b, o, e, -⟩ := hx (by simp); cases e
    subst h0
    obtain ⟨av, m, cv, rfl, rfl⟩ := own_shape hown
    exact ⟨av, cv, w, append_none hu hinf hown cap, by simpa using hown, Fr.refl _, fun k hk => .inl hk⟩
  | some ad =>
    refine append_gen hu hinf hzs (by decide) hby hown hb ad news.length cap news (by omega) (fun j u hj => ?_) h1 hsz
    have hj2 := (List.getElem?_eq_some_iff.1 hj).1
    obtain ⟨b, o, e, hy⟩ := hx (by omega)
    simp only [Option.some.injEq] at e
    subst e
    rw [show (⟨b, o, none⟩ : Addr).add j = ⟨b, o + j, none⟩ from by unfold Addr.add; split <;> simp_all]
    exact hy j u hj
end
end Go.Q
namespace Go.Proofs.YthamenngccaijaaGreatDoor
open Go Go.RowKit Go.Q
set_option linter.unusedSimpArgs false
set_option maxRecDepth 20000 in
set_option maxHeartbeats 1000000 in
theorem cloneByte_any (v : Value) (o : List UInt8) (w : World) (h : Bytes w v o) (hl : o.length ≤ 100000000000) :
    Calls Tryz.prog 88 #[v] w fun e w' => (∃ u, e = .returned u ∧ w'.ownsRow w.heap.size 5 1 u o.length (Lib.byteCells o)) ∧ Fr (fun _ => False) w w' := by
  obtain ⟨a, cap, rfl, -⟩ := Vals.form h
  have qT : ∀ (w : World) (a : Option Addr) (n c n' c' : Nat), (binOp .eql 23 (.slice a n c) (.slice none n' c')).run Tryz.prog w = .ok (.bool a.isNone) w := fun w a n c n' c' => Lib.run_eql_slice_nil w _ _ a n c n' c' Tryz.underlying23
  cases a with
  | none =>
    have h0 : o = [] := by
      obtain ⟨a0, c0, he, _, _, hx⟩ := Vals.form h
      cases o with
      | nil => rfl
      | cons u s =>
        obtain ⟨b, o, e, -⟩ := hx (by simp)
        simp only [Value.slice.injEq] at he
        rw [e] at he
        cases he.1
    subst h0
    clear h
    go_enter Tryz.func88, Tryz.ntmps88
    go_wp2_with fail
    go_ret
    exact ⟨⟨_, rfl, rfl, .inl ⟨rfl, rfl⟩⟩, Fr.refl _⟩
  | some ad =>
    have B0 := Blk.new w 5 #[]
    have F0 : Fr (fun _ => False) w (w.alloc (.cells #[] 5)) := (Fr.refl w).alloc _
    have hl2 : (Lib.byteCells o).length = o.length := byteCells_len o
    obtain ⟨a', c', w', hrun, hown, F1, -⟩ := append_vals Tryz.underlying23 info5 rfl (by decide) (own_block B0 0 (Nat.le_refl _) (Nat.zero_le _) w.heap.size (Nat.le_refl _)) F0.size (h.old F0) (byteCells_one o) (by rw [hl2]; omega)
    rw [hl2, Nat.zero_add] at hrun hown
    have HF := Lib.hid (F0.trans' F1 (fun i hi e => by simp [Value.ownBlock] at e; omega))
    have HRUN := Lib.hid hrun
    have HOW := Lib.hid hown
    clear hrun hown F1 B0 F0 h hl2
    go_enter Tryz.func88, Tryz.ntmps88
    go_wp2_with (at_builtin; refine wpList_append_run (by rfl) (.tmp 5) (.tmp 6) 23 (by rfl) _ w' (by exact HRUN.out) ?_)
    go_ret
    exact ⟨⟨_, rfl, HOW.out⟩, HF.out⟩
end Go.Proofs.YthamenngccaijaaGreatDoor

namespace Go.Q
open Go Go.RowKit
def LAt {α : Type} (sz : Nat) (R : World → List Value → α → Prop) (w : World) (v : Value) (l : List α) : Prop :=
  ∃ a cap, v = .slice a l.length cap ∧ l.length ≤ cap ∧ cap ≤ maxLen ∧ (0 < l.length → ∃ b o, a = some ⟨b, o, none⟩ ∧ ∀ i x, l[i]? = some x → ∃ cs, cs.length = sz ∧ (∀ j u, cs[j]? = some u → w.cell? ⟨b, o + sz * i + j, none⟩ = some u) ∧ R w cs x)
def GRow {α : Type} (sz : Nat) (R : World → List Value → α → Prop) (K : Nat → Prop) (t : TypeId) (w : World) (base : Nat) (v : Value) (l : List α) : Prop :=
  ∃ cs : List Value, w.ownsRow base t sz v l.length cs ∧ ∀ i x, l[i]? = some x → ∃ us, us.length = sz ∧ (∀ j u, us[j]? = some u → cs[sz * i + j]? = some u) ∧ Kept (fun W => R W us x) (fun k => v.ownBlock = some k ∨ K k) w
section
variable {α : Type} {sz : Nat} {R : World → List Value → α → Prop} {K : Nat → Prop} {t : TypeId} {w : World} {base : Nat} {v : Value} {l : List α}
theorem LAt.old (hR : ∀ w w' cs x, R w cs x → Fr (fun _ => False) w w' → R w' cs x) {w' : World} (h : LAt sz R w v l) (f : Fr (fun _ => False) w w') : LAt sz R w' v l := by
  obtain ⟨a, cap, rfl, h1, h2, h3⟩ := h
  refine ⟨a, cap, rfl, h1, h2, fun h0 => ?_⟩
  obtain ⟨b, o, rfl, hy⟩ := h3 h0
  refine ⟨b, o, rfl, fun i p hp => ?_⟩
  obtain ⟨cs, e1, e2, e3⟩ := hy i p hp
  exact ⟨cs, e1, fun j u hu => f.cell (e2 j u hu) (fun h => h), hR _ _ _ _ e3 f⟩
theorem GRow.nil (sz : Nat) (R : World → List Value → α → Prop) (K : Nat → Prop) (t : TypeId) (w : World) (base : Nat) : GRow sz R K t w base (.slice none 0 0) [] := ⟨[], ⟨by simp, .inl ⟨rfl, rfl⟩⟩, fun i p hp => by simp at hp⟩
theorem GRow.keep (h : GRow sz R K t w base v l) : ∀ k, v.ownBlock = some k → base ≤ k ∧ k < w.heap.size := fun k hk => by
  obtain ⟨us, h1, -⟩ := h
  exact h1.lt k hk
theorem GRow.shape (h : GRow sz R K t w base v l) : ∃ a c, v = .slice a l.length c := by
  obtain ⟨us, h1, -⟩ := h
  obtain ⟨a, m, c, rfl, rfl⟩ := own_shape h1
  exact ⟨a, c, rfl⟩
theorem GRow.at (h : GRow sz R K t w base v l) (_hs : 0 < sz) : LAt sz R w v l := by
  obtain ⟨cs, ⟨h1, h2⟩, h3⟩ := h
  rcases h2 with ⟨rfl, h0⟩ | ⟨g, cap, cur, rfl, hg, hh, hnc, hcm, hcs, htk⟩
  · exact ⟨none, 0, by rw [h0], by omega, by unfold maxLen; omega, fun h => by omega⟩
  · refine ⟨_, cap, rfl, hnc, hcm, fun _ => ⟨g, 0, rfl, fun i p hp => ?_⟩⟩
    obtain ⟨us, e1, e2, e3⟩ := h3 i p hp
    refine ⟨us, e1, fun j u hu => ?_, e3.now⟩
    have hi := (List.getElem?_eq_some_iff.1 hp).1
    have hc := e2 j u hu
    have hj := (List.getElem?_eq_some_iff.1 hc).1
    have := congrArg (fun z : List Value => z[sz * i + j]?) htk
    simp only [List.getElem?_take, if_pos (show sz * i + j < l.length * sz by omega), Array.getElem?_toList] at this
    rw [Nat.zero_add]
    simp only [World.cell?, hh]
    exact this.trans hc
theorem GRow.fr {S : Nat → Prop} {w' : World} (h : GRow sz R K t w base v l) (f : Fr S w w') (hS : ∀ k, k < w.heap.size → S k → K k) (hv : ∀ k, v.ownBlock = some k → ¬ S k) : GRow sz R K t w' base v l := by
  obtain ⟨cs, h1, h2⟩ := h
  refine ⟨cs, Go.Proofs.YthamenngccaijaaGreatDoor.ownsRow_fr h1 f hv, fun i p hp => ?_⟩
  obtain ⟨us, e1, e2, e3⟩ := h2 i p hp
  exact ⟨us, e1, e2, e3.step f (fun k hk hs => .inr (hS k hk hs)) (fun k hk => .inl hk)⟩
theorem GRow.old {w' : World} (h : GRow sz R K t w base v l) (f : Fr (fun _ => False) w w') : GRow sz R K t w' base v l := h.fr f (fun _ _ h => h.elim) (fun _ _ h => h)
theorem GRow.kept (h : GRow sz R K t w base v l) (hs : 0 < sz) (K' : Nat → Prop) (hK : ∀ k, K' k → K k ∧ k < base) : Kept (fun W => LAt sz R W v l) K' w := fun W f =>
  (h.fr f (fun k _ hk => (hK k hk).1) (fun k hk hs => by have := (h.keep k hk).1; have := (hK k hs).2; omega)).at hs
theorem GRow.add {P : Program} {s : TypeId} {z : Value} {bytes : Nat} (hu0 : P.underlying s = some (.slice t)) (hinf : Info P t z sz bytes) (hzs : z.cells.size = sz) (hs0 : 0 < sz) (hby : bytes ≤ 64) {wa : World} (h : GRow sz R K t w base v l) (hb : base ≤ w.heap.size) (F1 : Fr (fun _ => False) w wa) (g : Nat) (us : List Value) (hus : us.length = sz) (BX : Blk wa g t us.toArray) (h1 : ∀ u ∈ us, u.oneCell' = true) (x : α) (hk : Kept (fun W => R W us x) (fun k => v.ownBlock = some k ∨ K k) w) (hn : l.length ≤ 109951162777) :
    ∃ a c w', (Builtin.append_ #[s, s] s #[v, .slice (some ⟨g, 0, none⟩) 1 1]).run P wa = .ok (.slice a (l.length + 1) c) w' ∧ GRow sz R K t w' base (.slice a (l.length + 1) c) (l ++ [x]) ∧ Fr (fun k => v.ownBlock = some k) w w' ∧ (∀ k, (Value.slice a (l.length + 1) c).ownBlock = some k → v.ownBlock = some k ∨ w.heap.size ≤ k) := by
  obtain ⟨cs, g1, g2⟩ := h
  have hcl : cs.length = l.length * sz := g1.1
  obtain ⟨a, c, w', hrun, h4, F2, h5⟩ := add_gen hu0 hinf hzs hs0 hby g1 hb F1 g us hus BX h1 hn
  have hst : ∀ (us : List Value) (y : α), Kept (fun W => R W us y) (fun k => v.ownBlock = some k ∨ K k) w → Kept (fun W => R W us y) (fun k => (Value.slice a (l.length + 1) c).ownBlock = some k ∨ K k) w' := fun us y hq =>
    hq.step F2 (fun _ _ h => .inl h) (fun k hk => by
      rcases hk with h | h
      · rcases h5 k h with h | h
        · exact .inl (.inl h)
        · exact .inr h
      · exact .inl (.inr h))
  refine ⟨a, c, w', hrun, ⟨cs ++ us, by rw [List.length_append]; exact h4, fun i y hy => ?_⟩, F2, h5⟩
  rcases Nat.lt_or_ge i l.length with hi | hi
  · rw [List.getElem?_append_left hi] at hy
    obtain ⟨us', e1, e2, e3⟩ := g2 i y hy
    refine ⟨us', e1, fun j u hu => ?_, hst _ _ e3⟩
    have := e2 j u hu
    rw [List.getElem?_append_left (List.getElem?_eq_some_iff.1 this).1]
    exact this
  · obtain rfl : i = l.length := by
      have := (List.getElem?_eq_some_iff.1 hy).1
      simp at this
      omega
    rw [List.getElem?_append_right (Nat.le_refl _)] at hy
    simp at hy
    subst hy
    refine ⟨us, hus, fun j u hu => ?_, hst _ _ hk⟩
    rw [Nat.mul_comm, List.getElem?_append_right (by rw [hcl]; exact Nat.le_add_right _ _), hcl, Nat.add_sub_cancel_left]
    exact hu
end
def RPart (W : World) (cs : List Value) (p : Part) : Prop := ∃ x y, cs = [x, y] ∧ Ints W x p.o ∧ Bytes W y p.b
def RStep (W : World) (cs : List Value) (r : List Part) : Prop := ∃ u, cs = [u] ∧ Attrs W u r
theorem LAt.attrs {w : World} {v : Value} {l : List Part} (h : LAt 2 RPart w v l) : Attrs w v l := by
  obtain ⟨a, cap, rfl, h1, h2, h3⟩ := h
  refine ⟨a, cap, rfl, h1, h2, fun h0 => ?_⟩
  obtain ⟨b, o, rfl, hy⟩ := h3 h0
  refine ⟨b, o, rfl, fun i p hp => ?_⟩
  obtain ⟨cs, -, e2, x, y, rfl, g1, g2⟩ := hy i p hp
  exact ⟨x, y, e2 0 x rfl, e2 1 y rfl, g1, g2⟩
theorem LAt.name {w : World} {v : Value} {n : List (List Part)} (h : LAt 1 RStep w v n) : NameAt w v n := by
  obtain ⟨a, cap, rfl, h1, h2, h3⟩ := h
  refine ⟨a, cap, rfl, h1, h2, fun h0 => ?_⟩
  obtain ⟨b, o, rfl, hy⟩ := h3 h0
  refine ⟨b, o, rfl, fun i r hr => ?_⟩
  obtain ⟨cs, -, e2, u, rfl, g1⟩ := hy i r hr
  exact ⟨u, by have := e2 0 u rfl; rw [Nat.one_mul] at this; exact this, g1⟩
theorem Kept.imp {A B : World → Prop} {K : Nat → Prop} {w : World} (h : Kept A K w) (f : ∀ W, A W → B W) : Kept B K w := fun W g => f W (h W g)
theorem Kept.both {A B : World → Prop} {K : Nat → Prop} {w : World} (h : Kept A K w) (g : Kept B K w) : Kept (fun W => A W ∧ B W) K w := fun W f => ⟨h W f, g W f⟩
end Go.Q

namespace Go.Q
open Go Go.RowKit
end Go.Q

namespace Go.Q
open Go Go.RowKit
theorem cmpS_swap : ∀ a b : List UInt8, cmpS a b = - cmpS b a
  | [], [] => rfl
  | [], _ :: _ => rfl
  | _ :: _, [] => rfl
  | x :: a, y :: b => by
    simp only [cmpS]
    by_cases h : x = y
    · rw [if_pos h, if_pos h.symm]
      exact cmpS_swap a b
    · rw [if_neg h, if_neg (fun e : y = x => h e.symm)]
      have hne : x.toNat ≠ y.toNat := fun e => h (UInt8.toNat_inj.1 e)
      by_cases h1 : x.toNat < y.toNat
      · rw [if_pos h1, if_neg (by omega)]
      · rw [if_neg h1, if_pos (by omega)]
        rfl
def Upward (ls : List (List UInt8)) : Prop := ∀ (j : Nat) (x y : List UInt8), ls[j]? = some x → ls[j + 1]? = some y → 0 ≤ cmpS y x
theorem steps_in {p : Part} {t : List Part} {last : Option (List UInt8)} {ws : List (List UInt8)} (h : stepsS last (p :: t) = some ws) : ∃ x ws', attrS p.o p.b = some x ∧ stepsS (some x) t = some ws' ∧ ws = x :: ws' ∧ ∀ y, last = some y → cmpS y x < 0 := by
  simp only [stepsS] at h
  cases hx : attrS p.o p.b with
  | none => rw [hx] at h; cases h
  | some x =>
    rw [hx] at h
    simp only at h
    have key : (stepsS (some x) t).map (x :: ·) = some ws ∧ ∀ y, last = some y → cmpS y x < 0 := by
      cases last with
      | none =>
        rw [if_neg (by simp)] at h
        exact ⟨h, fun y e => by cases e⟩
      | some y =>
        by_cases hlt : 0 ≤ cmpS y x
        · rw [if_pos (by simpa using hlt)] at h; cases h
        · rw [if_neg (by simpa using hlt)] at h
          exact ⟨h, fun z e => by cases e; omega⟩
    obtain ⟨h, hlt⟩ := key
    cases hs : stepsS (some x) t with
    | none => rw [hs] at h; cases h
    | some ws' =>
      rw [hs] at h
      simp only [Option.map_some, Option.some.injEq] at h
      exact ⟨x, ws', rfl, hs, h.symm, hlt⟩
theorem steps_up : ∀ (l : List Part) (last : Option (List UInt8)) (ws : List (List UInt8)), stepsS last l = some ws → (∀ y x, last = some y → ws[0]? = some x → cmpS y x < 0) ∧ Upward ws ∧ ws.length = l.length
  | [], last, ws, h => by
    simp only [stepsS, Option.some.injEq] at h
    subst h
    exact ⟨fun _ _ _ h => by simp at h, fun _ _ _ h => by simp at h, rfl⟩
  | p :: t, last, ws, h => by
    obtain ⟨x, ws', -, hs, rfl, hlt⟩ := steps_in h
    obtain ⟨h1, h2, h3⟩ := steps_up t (some x) ws' hs
    refine ⟨fun y z hl hz => ?_, fun j a b ha hb => ?_, by rw [List.length_cons, List.length_cons, h3]⟩
    · simp only [List.getElem?_cons_zero, Option.some.injEq] at hz
      subst hz
      exact hlt y hl
    · cases j with
      | zero =>
        simp only [List.getElem?_cons_zero, Option.some.injEq, Nat.zero_add, List.getElem?_cons_succ] at ha hb
        subst ha
        have := h1 x b rfl hb
        have := cmpS_swap b x
        omega
      | succ j =>
        simp only [List.getElem?_cons_succ] at ha hb
        exact h2 j a b ha hb
theorem rdn_up {l : List Part} {ws : List (List UInt8)} (h : rdnS l = some ws) : Upward ws ∧ ws.length ≤ 16 := by
  unfold rdnS at h
  split at h
  · cases h
  rename_i hn
  obtain ⟨-, h2, h3⟩ := steps_up l none ws h
  exact ⟨h2, by omega⟩
def rdnWhole (ws : List (List UInt8)) : List UInt8 := wrapS (tagOf 17) ws.flatten
theorem mem_flat {ws : List (List UInt8)} {x : List UInt8} (h : x ∈ ws) : x.length ≤ ws.flatten.length := by
  obtain ⟨i, hi⟩ := List.mem_iff_getElem?.1 h
  have h1 := flat_take hi
  have h2 := flat_le ws (i + 1)
  rw [h1, List.length_append] at h2
  omega
end Go.Q
namespace Go.Proofs.YthamenngccaijaaGreatDoor
open Go Go.RowKit Go.Q
set_option linter.unusedSimpArgs false
set_option maxRecDepth 20000 in
set_option maxHeartbeats 2000000 in
theorem insertion_up (v : Value) (ls : List (List UInt8)) (w : World) (h : Parts w v ls) (hU : Upward ls) (hl : ∀ l ∈ ls, l.length ≤ 1099511627776) (hn : ls.length ≤ 1000) :
    Calls Tryz.prog 238 #[v, .int .i64 0, .int .i64 ls.length, .func (.func 146) #[] #[]] w fun e w' => e = .returned (.tuple #[]) ∧ Fr (fun _ => False) w w' := by
  obtain ⟨a, cap, rfl, hx⟩ := h.form
  have HX := Lib.hid hx
  have HU := Lib.hid hU
  have HL := Lib.hid hl
  clear h hx hU hl
  go_enter Tryz.func238, Tryz.ntmps238
  go_wp2_with fail
  go_loopg [8] ls.length (fun g ii wr => ∃ q : Nat, g = ls.length - q ∧ q ≤ 1000 ∧ ii = .int .i64 ((q : Int) + 1) ∧ Fr (fun _ => False) w wr)
  case atStart => exact ⟨0, rfl, by omega, rfl, Fr.refl _⟩
  case round =>
    obtain ⟨q, hg, hq, rfl, F⟩ := hrel
    have HG := Lib.hid hg
    have HF := Lib.hid F
    clear hg F
    by_cases hql : q + 1 < ls.length
    · have q1 : (q : Int) + 1 < (ls.length : Int) := by omega
      obtain ⟨b, off, rfl, hy⟩ := HX.out (by omega)
      obtain ⟨x, hx⟩ : ∃ x, ls[q]? = some x := ⟨_, List.getElem?_eq_getElem (by omega)⟩
      obtain ⟨y, hyy⟩ : ∃ y, ls[q + 1]? = some y := ⟨_, List.getElem?_eq_getElem hql⟩
      obtain ⟨px, cx, e1, hbx⟩ := hy q x hx
      obtain ⟨py, cy, e2, hby⟩ := hy (q + 1) y hyy
      have hcmp := HU.out q x y hx hyy
      obtain ⟨k, hk⟩ : ∃ k, k = cmpS y x := ⟨_, rfl⟩
      rw [← hk] at hcmp
      have HK := Lib.hid hk
      have hlx := HL.out x (List.mem_of_getElem? hx)
      have hly := HL.out y (List.mem_of_getElem? hyy)
      have HE := Lib.hid (fun w' (f : Fr (fun _ => False) w w') => And.intro (f.cell e1 (fun h => h)) (f.cell e2 (fun h => h)))
      have HC := Lib.hid (fun w' (f : Fr (fun _ => False) w w') => compare_any _ _ y x w' (hby.old f) (hbx.old f) hly hlx)
      rw [← HK.out] at HC
      have c1 : ¬ k < 0 := by omega
      have c2 : (0 : Int) < (q : Int) + 1 := by omega
      have c3 : (0 : Int) ≤ (q : Int) := by omega
      have c4 : (q : Int) < (ls.length : Int) := by omega
      clear hy hx hyy e1 e2 hbx hby hk hlx hly
      go_wp2_with fail
      go_loopg [9] 1 (fun g jj wx => g = 1 ∧ jj = .int .i64 ((q : Int) + 1) ∧ wx = wr)
      case atStart => exact ⟨rfl, rfl, rfl⟩
      case round =>
        obtain ⟨hg1, rfl, rfl⟩ := hrel
        clear hg1
        have HFD := Lib.hid HF.out.drew
        have hw1 : IntKind.i64.wrap ((q : Int) + 1 - 1) = (q : Int) := by simp [IntKind.wrap, IntKind.signed, IntKind.bits]; omega
        have hw2 : IntKind.i64.wrap (q : Int) = (q : Int) := by simp [IntKind.wrap, IntKind.signed, IntKind.bits]; omega
        have c6 : (0 : Int) ≤ (q : Int) + 1 := by omega
        have c7 : ((q : Int) + 1).toNat = q + 1 := by omega
        have c1' : decide (k < 0) = false := decide_eq_false (by omega)
        have c2' : decide ((0 : Int) < (q : Int) + 1) = true := decide_eq_true (by omega)
        have c5 : q < ls.length := by omega
        go_upto_region 4 with fail
        go_region_held3 (fun w' => w'.cell? ⟨b, off + q, none⟩ = some (.slice px x.length cx) ∧ w'.cell? ⟨b, off + (q + 1), none⟩ = some (.slice py y.length cy)) (first | exact HE.out _ HFD.out | exact HE.out _ (HFD.out.trans F2)) (first
          | (go_at_call 146; refine (HC.out _ HFD.out).mono ?_; rintro e w2 ⟨rfl, F2⟩))
        all_goals
          have HF2 := Lib.hid (HFD.out.trans F2)
          clear F2 hw1 hw2 c7 c1' c2' HFD
          go_wp2_with fail
          go_roundg (ls.length - (q + 1))
          case measure => rw [HG.out]; omega
          case rel => exact ⟨q + 1, rfl, by omega, by go_num, HF2.out⟩
    · have q1 : ¬ (q : Int) + 1 < (ls.length : Int) := by omega
      go_wp2_with fail
      go_end0
      exact ⟨rfl, HF.out⟩
set_option maxRecDepth 20000 in
set_option maxHeartbeats 2000000 in
theorem stable_up (v : Value) (ls : List (List UInt8)) (w : World) (h : Parts w v ls) (hU : Upward ls) (hl : ∀ l ∈ ls, l.length ≤ 1099511627776) (hn : ls.length ≤ 19) :
    Calls Tryz.prog 189 #[v, .int .i64 ls.length, .func (.func 146) #[] #[]] w fun e w' => e = .returned (.tuple #[]) ∧ Fr (fun _ => False) w w' := by
  have HI := Lib.hid (insertion_up v ls w h hU hl (by omega))
  obtain ⟨a, cap, rfl, -⟩ := h.form
  have q1 : ¬ (20 : Int) ≤ (ls.length : Int) := by omega
  have q2 : ¬ (20 : Int) < (ls.length : Int) := by omega
  clear h hU hl
  go_enter Tryz.func189, Tryz.ntmps189
  go_wp2_with fail
  go_loopg [7, 8] 1 (fun g aa bb wr => g = 1 ∧ aa = .int .i64 0 ∧ bb = .int .i64 20 ∧ wr = w)
  case atStart => exact ⟨rfl, rfl, rfl, rfl⟩
  case round =>
    obtain ⟨hg, rfl, rfl, rfl⟩ := hrel
    clear hg
    go_wp2_with fail
    refine HI.out.mono ?_
    rintro e w1 ⟨rfl, F1⟩
    have HF1 := Lib.hid F1
    clear F1
    go_wp2_with fail
    go_loopg [6] 1 (fun g bs wr => g = 1 ∧ bs = .int .i64 20 ∧ wr = w1)
    case atStart => exact ⟨rfl, rfl, rfl⟩
    case round =>
      obtain ⟨hg, rfl, rfl⟩ := hrel
      clear hg
      go_wp2_with fail
      go_end0
      exact ⟨rfl, HF1.out⟩
set_option maxRecDepth 20000 in
theorem sortStable_up (v : Value) (ls : List (List UInt8)) (w : World) (h : Parts w v ls) (hU : Upward ls) (hl : ∀ l ∈ ls, l.length ≤ 1099511627776) (hn : ls.length ≤ 19) :
    Calls Tryz.prog 148 #[v, .func (.func 146) #[] #[]] w fun e w' => e = .returned (.tuple #[]) ∧ Fr (fun _ => False) w w' := by
  have HI := Lib.hid (stable_up v ls w h hU hl hn)
  obtain ⟨a, cap, rfl, -⟩ := h.form
  clear h hU hl
  go_enter Tryz.func148, Tryz.ntmps148
  go_wp2_with fail
  refine HI.out.mono ?_
  rintro e w1 ⟨rfl, F1⟩
  go_wp2_with fail
  go_end0
  exact ⟨rfl, F1⟩
theorem parts_one {w : World} {ls : List (List UInt8)} {vs : List Value} (h3 : ∀ (i : Nat) (u : Value) (l : List UInt8), vs[i]? = some u → ls[i]? = some l → Bytes w u l) (h2 : vs.length = ls.length) : ∀ u ∈ vs, u.oneCell' = true := fun u hu => by
  obtain ⟨i, hi⟩ := List.mem_iff_getElem?.1 hu
  have hil : i < ls.length := by have := (List.getElem?_eq_some_iff.1 hi).1; omega
  obtain ⟨a, c, rfl, -⟩ := (h3 i u _ hi (List.getElem?_eq_getElem hil)).form
  rfl
set_option maxRecDepth 20000 in
set_option maxHeartbeats 1000000 in
theorem cloneParts_any (v : Value) (ls : List (List UInt8)) (w : World) (h : Parts w v ls) (hl : ls.length ≤ 100000000000) :
    Calls Tryz.prog 147 #[v] w fun e w' => (∃ u, e = .returned u ∧ Parts w' u ls) ∧ Fr (fun _ => False) w w' := by
  obtain ⟨vs, g1, g2, g3⟩ := h
  have h1 := parts_one g3 g2
  obtain ⟨a, cap, rfl, hc, hm, hx⟩ := g1
  have g1 : Vals w (.slice a vs.length cap) vs := ⟨a, cap, rfl, hc, hm, hx⟩
  have qT : ∀ (w : World) (a : Option Addr) (n c n' c' : Nat), (binOp .eql 136 (.slice a n c) (.slice none n' c')).run Tryz.prog w = .ok (.bool a.isNone) w := fun w a n c n' c' => Lib.run_eql_slice_nil w _ _ a n c n' c' Tryz.underlying136
  cases a with
  | none =>
    have h0 : vs = [] := by
      cases vs with
      | nil => rfl
      | cons u s =>
        obtain ⟨b, o, e, -⟩ := hx (by simp)
        cases e
    subst h0
    have hls : ls = [] := List.length_eq_zero_iff.1 g2.symm
    subst hls
    clear hx g1 g2 g3 h1
    go_enter Tryz.func147, Tryz.ntmps147
    go_wp2_with fail
    go_ret
    exact ⟨⟨_, rfl, [], Vals.nil w, rfl, fun i u l hu => by simp at hu⟩, Fr.refl _⟩
  | some ad =>
    have B0 := Blk.new w 23 #[]
    have F0 : Fr (fun _ => False) w (w.alloc (.cells #[] 23)) := (Fr.refl w).alloc _
    obtain ⟨a', c', w', hrun, hown, F1, -⟩ := append_vals Tryz.underlying136 info23 rfl (by decide) (own_block B0 0 (Nat.le_refl _) (Nat.zero_le _) w.heap.size (Nat.le_refl _)) F0.size (g1.old F0) h1 (by omega)
    rw [Nat.zero_add] at hrun hown
    have hF := F0.trans' F1 (fun i hi e => by simp [Value.ownBlock] at e; omega)
    have HF := Lib.hid hF
    have HP := Lib.hid (show Parts w' (.slice a' vs.length c') ls from ⟨vs, (Vals.of_own hown).1, g2, fun i u l hu hl => (g3 i u l hu hl).old hF⟩)
    have HRUN := Lib.hid hrun
    clear hrun hown F1 B0 F0 g1 g2 g3 h1 hx hF
    go_enter Tryz.func147, Tryz.ntmps147
    go_wp2_with (at_builtin; refine wpList_append_run (by rfl) (.tmp 5) (.tmp 6) 136 (by rfl) _ w' (by exact HRUN.out) ?_)
    go_ret
    exact ⟨⟨_, rfl, HP.out⟩, HF.out⟩
set_option maxRecDepth 20000 in
set_option maxHeartbeats 1000000 in
theorem setOf_up (v : Value) (ls : List (List UInt8)) (w : World) (h : Parts w v ls) (hU : Upward ls) (hf : ls.flatten.length ≤ 16777216) (hn : ls.length ≤ 19) (hl : ∀ l ∈ ls, l.length ≤ 1099511627776) :
    Calls Tryz.prog 105 #[v] w fun e w' => (∃ a c, e = .returned (.tuple #[.slice a (wrapS (tagOf 17) ls.flatten).length c, .int .i64 0]) ∧ w'.ownsRow w.heap.size 5 1 (.slice a (wrapS (tagOf 17) ls.flatten).length c) (wrapS (tagOf 17) ls.flatten).length (Lib.byteCells (wrapS (tagOf 17) ls.flatten))) ∧ Fr (fun _ => False) w w' := by
  have HC := Lib.hid (cloneParts_any v ls w h (by omega))
  obtain ⟨a, cap, rfl, -⟩ := h.form
  have HU := Lib.hid hU
  have HL := Lib.hid hl
  obtain ⟨T, hT⟩ : ∃ T, T = tagOf 17 := ⟨_, rfl⟩
  have HTG := Lib.hid (show tagGood T from by rw [hT]; exact ⟨by decide, by decide⟩)
  have HT := Lib.hid hT
  rw [← hT]
  clear h hU hl hT
  go_enter Tryz.func105, Tryz.ntmps105
  go_wp2_with fail
  refine HC.out.mono ?_
  rintro e w1 ⟨⟨u, rfl, hp⟩, F1⟩
  obtain ⟨a1, c1, rfl, -⟩ := hp.form
  have HS := Lib.hid (sortStable_up _ ls w1 hp HU.out HL.out hn)
  have HP := Lib.hid hp
  have HF1 := Lib.hid F1
  clear hp F1 HC
  go_wp2_with fail
  refine HS.out.mono ?_
  rintro e w2 ⟨rfl, F2⟩
  have HP2 := Lib.hid (HP.out.old F2)
  have HF2 := Lib.hid (HF1.out.trans F2)
  clear F2 HS HP HF1
  go_wp2_with fail
  refine (headOf_any 17 _).mono ?_
  rintro e w3 ⟨rfl, F3⟩
  rw [← HT.out]
  have HW := Lib.hid (wrap_any T HTG.out _ ls w3 (HP2.out.old F3) hf (by omega))
  have HF3 := Lib.hid (HF2.out.trans F3)
  clear F3 HP2 HF2
  go_wp2_with fail
  refine HW.out.mono ?_
  rintro e w4 ⟨v4, rfl, hown, F4⟩
  obtain ⟨a4, m4, c4, rfl, rfl⟩ := own_shape hown
  have HO := Lib.hid (own_le hown HF3.out.size)
  have HF4 := Lib.hid (HF3.out.trans F4)
  clear hown F4 HW
  go_wp2_with fail
  exact bodyPost_ret (v := .tuple #[.slice a4 (wrapS T ls.flatten).length c4, .int .i64 0]) (by simp [results, Tryz.results105, go_sem]) rfl ⟨⟨a4, c4, rfl, HO.out⟩, HF4.out⟩
def writeRdnOut (w w' : World) (r : Option (List (List UInt8))) (e : Ending) : Prop :=
  match r with
  | none => e = .returned (.tuple #[.slice none 0 0, .int .i64 1])
  | some ws => ∃ a c, e = .returned (.tuple #[.slice a (rdnWhole ws).length c, .int .i64 0]) ∧ w'.ownsRow w.heap.size 5 1 (.slice a (rdnWhole ws).length c) (rdnWhole ws).length (Lib.byteCells (rdnWhole ws))
set_option maxRecDepth 20000 in
set_option maxHeartbeats 1000000 in
theorem writeRdn_any (v : Value) (l : List Part) (w : World) (h : Attrs w v l) (hf : fewB l) (hs : ∀ ws, rdnS l = some ws → ws.flatten.length ≤ 16777216) :
    Calls Tryz.prog 57 #[v] w fun e w' => writeRdnOut w w' (rdnS l) e ∧ Fr (fun _ => False) w w' := by
  have HW := Lib.hid (wholesRdn_any v l w h hf)
  have HS := Lib.hid hs
  obtain ⟨a, cap, rfl, -⟩ := h
  clear hs
  go_enter Tryz.func57, Tryz.ntmps57
  go_wp2_with fail
  refine HW.out.mono ?_
  rintro e w1 ⟨⟨u, rfl, hr⟩, F1⟩
  have HF1 := Lib.hid F1
  clear F1 HW
  cases hd : rdnS l with
  | none =>
    clear hr
    have HD := Lib.hid hd
    clear hd
    simp only [Option.isSome_none]
    go_wp2_with fail
    refine bodyPost_ret (v := .tuple #[.slice none 0 0, .int .i64 1]) (by simp [results, Tryz.results57, go_sem]) rfl ⟨?_, HF1.out⟩
    rw [HD.out]
    rfl
  | some ws =>
    have hp := (hr ws hd).parts
    obtain ⟨hu, hn⟩ := rdn_up hd
    have hsz := HS.out ws hd
    obtain ⟨a1, c1, rfl, -⟩ := hp.form
    have HSO := Lib.hid (setOf_up _ ws w1 hp hu hsz (by omega) (fun l hl => by have := mem_flat hl; omega))
    obtain ⟨R, hR⟩ : ∃ R, R = rdnWhole ws := ⟨_, rfl⟩
    have HR := Lib.hid hR
    rw [show wrapS (tagOf 17) ws.flatten = R from hR.symm] at HSO
    simp only [Option.isSome_some]
    have HD := Lib.hid hd
    clear hr hp hu hsz hd hR
    go_wp2_with fail
    refine HSO.out.mono ?_
    rintro e w2 ⟨⟨a2, c2, rfl, hown⟩, F2⟩
    have HO := Lib.hid (own_le hown HF1.out.size)
    have HF2 := Lib.hid (HF1.out.trans F2)
    clear hown F2 HSO
    go_wp2_with fail
    refine bodyPost_ret (v := .tuple #[.slice a2 R.length c2, .int .i64 0]) (by simp [results, Tryz.results57, go_sem]) rfl ⟨?_, HF2.out⟩
    rw [HD.out]
    unfold writeRdnOut
    simp only
    rw [← HR.out]
    exact ⟨a2, c2, rfl, HO.out⟩
end Go.Proofs.YthamenngccaijaaGreatDoor

namespace Go.Proofs.YthamenngccaijaaGreatDoor
open Go Go.RowKit Go.Q
set_option linter.unusedSimpArgs false
theorem info158 : (Tryz.prog.info? 158).map (fun i => (i.zero, i.size, i.bytes)) = some (some (.agg #[.int .i64 0, .int .i64 0, .bool false, .bool false, .slice none 0 0]), 5, 56) := by kernel_rfl
theorem setAt4 {w : World} {z : Nat} {t : TypeId} {a0 a1 a2 a3 a4 a5 a6 : Value} (B : Blk w z t #[a0, a1, a2, a3, a4, a5, a6]) (v : Value) : Blk (w.setCell ⟨z, 4, none⟩ v) z t #[a0, a1, a2, a3, v, a5, a6] ∧ Fr (fun k => k = z) w (w.setCell ⟨z, 4, none⟩ v) :=
  ⟨by have := B.set 4 v; simpa using this, Fr.setCell (S := fun k => k = z) (p := ⟨z, 4, none⟩) (Fr.refl w) (fun _ => rfl) _⟩
set_option maxRecDepth 20000 in
theorem off_no (sb : Nat) (w : World) (h : w.cell? ⟨sb, 6, none⟩ = some (.int .i64 0)) :
    Calls Tryz.prog 106 #[pt sb] w fun e w' => e = .returned (.bool false) ∧ w = w' := by
  go_enter Tryz.func106, Tryz.ntmps106
  go_wp2_with fail
  go_ret
  exact ⟨rfl, rfl⟩
set_option maxRecDepth 20000 in
set_option maxHeartbeats 1000000 in
theorem frameAdd_any (sb : Nat) (t : TypeId) (a0 a1 a2 a3 a5 a6 bv u : Value) (base n : Nat) (xs ys : List UInt8) (w : World) (B : Blk w sb t #[a0, a1, a2, a3, bv, a5, a6]) (ho : w.ownsRow base 5 1 bv n (Lib.byteCells xs)) (hu : Bytes w u ys) (hb : base ≤ w.heap.size) (hap : ∀ k, bv.ownBlock = some k → k ≠ sb) (hn : n + ys.length ≤ 100000000) :
    Calls Tryz.prog 107 #[pt sb, u] w fun e w' => e = .returned (.tuple #[]) ∧ ∃ v, Blk w' sb t #[a0, a1, a2, a3, v, a5, a6] ∧ w'.ownsRow base 5 1 v (n + ys.length) (Lib.byteCells (xs ++ ys)) ∧ (∀ k, v.ownBlock = some k → bv.ownBlock = some k ∨ w.heap.size ≤ k) ∧ Fr (fun k => k = sb ∨ bv.ownBlock = some k) w w' := by
  obtain ⟨ab, mb, cb, rfl, rfl⟩ := own_shape ho
  obtain ⟨au, cu, rfl, -⟩ := hu.form
  have e4 := B.cell 4
  simp at e4
  obtain ⟨v, w1, hrun, ho1, F1, hv⟩ := append_bytes ho au ys.length cu ys hu (by omega) hb
  have B1 := B.fr F1 (fun e => hap sb e rfl)
  have SB := B1.cell
  have ZB := B1.frozen
  have HRUN := Lib.hid hrun
  have HO := Lib.hid ho1
  have HF1 := Lib.hid F1
  have HV := Lib.hid hv
  have HB1 := Lib.hid B1
  have hkp := (Vals.of_own ho).2
  have HKP := Lib.hid hkp
  have hlt := B.lt
  obtain ⟨a1, m1, c1, rfl, rfl⟩ := own_shape ho1
  clear hrun ho1 F1 hv hu ho B B1 hkp
  go_enter Tryz.func107, Tryz.ntmps107
  go_wp2_with (at_builtin; refine wpList_append_run (by rfl) (.tmp 8) (.tmp 9) 23 (by rfl) _ w1 (by exact HRUN.out) ?_)
  obtain ⟨B2, F2⟩ := setAt4 HB1.out (.slice a1 (mb + ys.length) c1)
  have hne : ∀ k, (Value.slice a1 (mb + ys.length) c1).ownBlock = some k → k ≠ sb := fun k hk e => by
    subst e
    rcases HV.out with h | h
    · rw [h] at hk
      exact hap k hk rfl
    · rw [h] at hk
      simp only [Option.some.injEq] at hk
      omega
  go_end0
  exact ⟨rfl, _, B2, ownsRow_fr HO.out F2 hne, fun k hk => by
    rcases HV.out with h | h
    · exact .inl (h ▸ hk)
    · rw [h] at hk
      simp only [Option.some.injEq] at hk
      exact .inr (by omega), (HF1.out.mono (fun _ _ h => .inr h)).trans (F2.mono (fun _ _ h => .inl h))⟩
structure Frm where
  tag : Tag
  set : Bool
  b : List UInt8
def frmCells (f : Frm) (bv : Value) : List Value := [.int .i64 f.tag.cls, .int .i64 f.tag.num, .bool f.tag.made, .bool f.set, bv]
def SheetAt (w : World) (base : Nat) (foot : Nat → Prop) (sb : Nat) (cur : Frm) (ar : List Frm) : Prop :=
  ∃ (bv av : Value) (bvs : List Value), Blk w sb 161 #[.int .i64 cur.tag.cls, .int .i64 cur.tag.num, .bool cur.tag.made, .bool cur.set, bv, av, .int .i64 0] ∧ foot sb ∧ w.ownsRow base 5 1 bv cur.b.length (Lib.byteCells cur.b) ∧
    bvs.length = ar.length ∧ w.ownsRow base 158 5 av ar.length (List.zipWith frmCells ar bvs).flatten ∧ (∀ (i : Nat) (b : Value) (f : Frm), bvs[i]? = some b → ar[i]? = some f → w.ownsRow base 5 1 b f.b.length (Lib.byteCells f.b)) ∧
    (∀ k, bv.ownBlock = some k → k ≠ sb ∧ foot k) ∧ (∀ k, av.ownBlock = some k → k ≠ sb ∧ bv.ownBlock ≠ some k ∧ foot k) ∧ (∀ b ∈ bvs, ∀ k, b.ownBlock = some k → k ≠ sb ∧ bv.ownBlock ≠ some k ∧ av.ownBlock ≠ some k ∧ foot k) ∧ bvs.Pairwise (fun b b' => ∀ k, b.ownBlock = some k → b'.ownBlock ≠ some k)
theorem SheetAt.fr {w w' : World} {base sb : Nat} {foot S : Nat → Prop} {cur : Frm} {ar : List Frm} (h : SheetAt w base foot sb cur ar) (f : Fr S w w') (hS : ∀ k, foot k → ¬ S k) : SheetAt w' base foot sb cur ar := by
  obtain ⟨bv, av, bvs, B, h0, h1, h2, h3, h4, h5, h6, h7, h8⟩ := h
  exact ⟨bv, av, bvs, B.fr f (hS sb h0), h0, ownsRow_fr h1 f (fun k hk => hS k (h5 k hk).2), h2, ownsRow_fr h3 f (fun k hk => hS k (h6 k hk).2.2), fun i b g hb hg => ownsRow_fr (h4 i b g hb hg) f (fun k hk => hS k (h7 b (List.mem_of_getElem? hb) k hk).2.2.2), h5, h6, h7, h8⟩
theorem SheetAt.old {w w' : World} {base sb : Nat} {foot : Nat → Prop} {cur : Frm} {ar : List Frm} (h : SheetAt w base foot sb cur ar) (f : Fr (fun _ => False) w w') : SheetAt w' base foot sb cur ar := h.fr f (fun _ _ h => h)
theorem SheetAt.lt {w : World} {base sb : Nat} {foot : Nat → Prop} {cur : Frm} {ar : List Frm} (h : SheetAt w base foot sb cur ar) : sb < w.heap.size := by
  obtain ⟨bv, av, bvs, B, -⟩ := h
  exact B.lt
theorem sheetNew_any (w : World) :
    Calls Tryz.prog 54 #[] w fun e w' => e = .returned (pt w.heap.size) ∧ SheetAt w' w.heap.size (fun k => k = w.heap.size) w.heap.size ⟨⟨0, 0, false⟩, false, []⟩ [] ∧ Fr (fun _ => False) w w' := by
  go_enter Tryz.func54, Tryz.ntmps54
  go_wp2_with fail
  go_ret
  refine ⟨rfl, ⟨.slice none 0 0, .slice none 0 0, [], Blk.new w _ _, rfl, ⟨rfl, .inl ⟨rfl, rfl⟩⟩, rfl, ⟨rfl, .inl ⟨rfl, rfl⟩⟩, (fun i b f h => by simp at h), (fun k h => by cases h), (fun k h => by cases h), (fun b h => by simp at h), List.Pairwise.nil⟩, (Fr.refl w).alloc _⟩
def Frm.more (f : Frm) (l : List UInt8) : Frm := ⟨f.tag, f.set, f.b ++ l⟩
theorem sheetAdd_any (sb base : Nat) (foot : Nat → Prop) (cur : Frm) (ar : List Frm) (u : Value) (ys : List UInt8) (w : World) (h : SheetAt w base foot sb cur ar) (hu : Bytes w u ys) (hb : base ≤ w.heap.size) (hn : cur.b.length + ys.length ≤ 100000000) :
    Calls Tryz.prog 107 #[pt sb, u] w fun e w' => e = .returned (.tuple #[]) ∧ SheetAt w' base (fun k => foot k ∨ w.heap.size ≤ k) sb (cur.more ys) ar ∧ Fr foot w w' := by
  have hlt := h.lt
  obtain ⟨bv, av, bvs, B, h0, h1, h2, h3, h4, h5, h6, h7, h8⟩ := h
  have hlk := (Vals.of_own h1).2
  refine (frameAdd_any sb _ _ _ _ _ _ _ bv u base cur.b.length cur.b ys w B h1 hu hb (fun k hk => (h5 k hk).1) hn).mono fun e w' ⟨he, v, B2, ho, hv, F⟩ => ⟨he, ⟨v, av, bvs, B2, .inl h0, ?_, h2, ?_, fun i b g hg1 hg2 => ?_, fun k hk => ?_, fun k hk => ?_, fun b hbm k hk => ?_, h8⟩, F.mono (fun k _ hk => ?_)⟩
  · show w'.ownsRow base 5 1 v (cur.b ++ ys).length (Lib.byteCells (cur.b ++ ys))
    rw [List.length_append]
    exact ho
  · exact ownsRow_fr h3 F (fun k hk e => by
      rcases e with e | e
      · exact (h6 k hk).1 e
      · exact (h6 k hk).2.1 e)
  · exact ownsRow_fr (h4 i b g hg1 hg2) F (fun k hk e => by
      have := h7 b (List.mem_of_getElem? hg1) k hk
      rcases e with e | e
      · exact this.1 e
      · exact this.2.1 e)
  · rcases hv k hk with h | h
    · exact ⟨(h5 k h).1, .inl (h5 k h).2⟩
    · exact ⟨by omega, .inr h⟩
  · refine ⟨(h6 k hk).1, fun e => ?_, .inl (h6 k hk).2.2⟩
    rcases hv k e with h | h
    · exact (h6 k hk).2.1 h
    · have := h3.lt k hk
      omega
  · have := h7 b hbm k hk
    refine ⟨this.1, fun e => ?_, this.2.2.1, .inl this.2.2.2⟩
    rcases hv k e with h | h
    · exact this.2.1 h
    · obtain ⟨i, hi⟩ := List.mem_iff_getElem?.1 hbm
      have hil : i < ar.length := by have := (List.getElem?_eq_some_iff.1 hi).1; omega
      have := (h4 i b _ hi (List.getElem?_eq_getElem hil)).lt k hk
      omega
  · rcases hk with hk | hk
    · subst hk; exact h0
    · exact (h5 k hk).2
set_option maxRecDepth 20000 in
set_option maxHeartbeats 2000000 in
theorem sheetPut_any (sb base : Nat) (foot : Nat → Prop) (cur : Frm) (ar : List Frm) (u : Value) (ls : List (List UInt8)) (w : World) (h : SheetAt w base foot sb cur ar) (hu : Kept (fun W => Parts W u ls) foot w) (hb : base ≤ w.heap.size) (hn : cur.b.length + ls.flatten.length ≤ 100000000) (hln : ls.length ≤ 1000000) :
    Calls Tryz.prog 59 #[pt sb, u] w fun e w' => e = .returned (.tuple #[]) ∧ SheetAt w' base (fun k => foot k ∨ w.heap.size ≤ k) sb (cur.more ls.flatten) ar ∧ Fr foot w w' := by
  have H := Lib.hid h
  have HU := Lib.hid hu
  obtain ⟨a, cap, rfl, -⟩ := hu.now.form
  obtain ⟨bv, av, bvs, B, h0, -⟩ := h
  have e6 := B.cell 6
  simp at e6
  clear B hu h0
  go_enter Tryz.func59, Tryz.ntmps59
  go_wp2_with fail
  refine (off_no sb w e6).mono ?_
  rintro e w0 ⟨rfl, rfl⟩
  clear e6
  go_wp2_with fail
  go_loopg [10] ls.length (fun g ii wr => ∃ j : Nat, g = ls.length - j ∧ j ≤ ls.length ∧ ii = .int .i64 j ∧ SheetAt wr base (fun k => foot k ∨ w.heap.size ≤ k) sb (cur.more (ls.take j).flatten) ar ∧ Fr foot w wr)
  case atStart =>
    obtain ⟨bv, av, bvs, B, h0, h1, h2, h3, h4, h5, h6, h7, h8⟩ := H.out
    refine ⟨0, rfl, Nat.zero_le _, rfl, ⟨bv, av, bvs, B, .inl h0, ?_, h2, h3, h4, fun k hk => ⟨(h5 k hk).1, .inl (h5 k hk).2⟩, fun k hk => ⟨(h6 k hk).1, (h6 k hk).2.1, .inl (h6 k hk).2.2⟩, fun b hb k hk => ⟨(h7 b hb k hk).1, (h7 b hb k hk).2.1, (h7 b hb k hk).2.2.1, .inl (h7 b hb k hk).2.2.2⟩, h8⟩, Fr.refl _⟩
    simpa [Frm.more] using h1
  case round =>
    obtain ⟨j, hg, hj, rfl, hS, F⟩ := hrel
    have HG := Lib.hid hg
    have HS := Lib.hid hS
    have HF := Lib.hid F
    clear hg hS F
    by_cases hjl : j < ls.length
    · have q1 : (j : Int) < (ls.length : Int) := by omega
      have hP := HU.out wr HF.out
      obtain ⟨_, _, he, hx⟩ := hP.form
      simp only [Value.slice.injEq, true_and] at he
      obtain ⟨rfl, rfl⟩ := he
      obtain ⟨b, off, rfl, hy⟩ := hx (by omega)
      obtain ⟨l, hl⟩ : ∃ l, ls[j]? = some l := ⟨_, List.getElem?_eq_getElem hjl⟩
      obtain ⟨pl, cl, e1, hbl⟩ := hy j l hl
      have hft := flat_take hl
      have hfl := flat_le ls (j + 1)
      rw [hft, List.length_append] at hfl
      have HA := Lib.hid (sheetAdd_any sb base _ _ ar _ l wr HS.out hbl (Nat.le_trans hb HF.out.size) (by
        show (cur.b ++ (ls.take j).flatten).length + l.length ≤ 100000000
        rw [List.length_append]; omega))
      have HFT := Lib.hid hft
      have s0 : (0 : Int) ≤ (j : Int) := by omega
      have hlt := HS.out.lt
      have hs0 := HF.out.size
      clear hP hx hy hl hbl hft hfl
      go_wp2_with fail
      refine HA.out.mono ?_
      rintro e w1 ⟨rfl, S1, F1⟩
      have HF1 := Lib.hid (HF.out.trans' F1 (fun k hk e => by
        rcases e with e | e
        · exact e
        · omega))
      have S2 : SheetAt w1 base (fun k => foot k ∨ w.heap.size ≤ k) sb (cur.more (ls.take (j + 1)).flatten) ar := by
        obtain ⟨bv, av, bvs, B, h0, h1, h2, h3, h4, h5, h6, h7, h8⟩ := S1
        have hw : ∀ k, ((foot k ∨ w.heap.size ≤ k) ∨ wr.heap.size ≤ k) → (foot k ∨ w.heap.size ≤ k) := fun k hk => by
          rcases hk with h | h
          · exact h
          · exact .inr (by omega)
        have hm : (cur.more (ls.take j).flatten).more l = cur.more (ls.take (j + 1)).flatten := by
          rw [HFT.out]
          simp [Frm.more]
        rw [← hm]
        exact ⟨bv, av, bvs, B, hw _ h0, h1, h2, h3, h4, fun k hk => ⟨(h5 k hk).1, hw k (h5 k hk).2⟩, fun k hk => ⟨(h6 k hk).1, (h6 k hk).2.1, hw k (h6 k hk).2.2⟩, fun b hb k hk => ⟨(h7 b hb k hk).1, (h7 b hb k hk).2.1, (h7 b hb k hk).2.2.1, hw k (h7 b hb k hk).2.2.2⟩, h8⟩
      have HS2 := Lib.hid S2
      clear S1 F1 HA S2
      go_wp2_with fail
      go_roundg (ls.length - (j + 1))
      case measure => rw [HG.out]; omega
      case rel => exact ⟨j + 1, rfl, by omega, by go_num, HS2.out, HF1.out⟩
    · obtain rfl : j = ls.length := by omega
      have q1 : ¬ (ls.length : Int) < (ls.length : Int) := by omega
      have hS := HS.out
      rw [List.take_length] at hS
      go_wp2_with fail
      go_end0
      exact ⟨rfl, hS, HF.out⟩
end Go.Proofs.YthamenngccaijaaGreatDoor

namespace Go.Proofs.YthamenngccaijaaGreatDoor
open Go Go.RowKit Go.Q
set_option linter.unusedSimpArgs false
set_option maxRecDepth 20000 in
theorem sheetFail_no (sb base : Nat) (foot : Nat → Prop) (cur : Frm) (ar : List Frm) (w : World) (h : SheetAt w base foot sb cur ar) :
    Calls Tryz.prog 58 #[pt sb, .int .i64 0] w fun e w' => e = .returned (.tuple #[]) ∧ SheetAt w' base foot sb cur ar ∧ Fr foot w w' := by
  have hlt := h.lt
  obtain ⟨bv, av, bvs, B, h0, h1, h2, h3, h4, h5, h6, h7, h8⟩ := h
  have e6 := B.cell 6
  have f6 := B.frozen 6
  simp at e6
  have B2 : Blk (w.setCell ⟨sb, 6, none⟩ (.int .i64 0)) sb 161 #[.int .i64 cur.tag.cls, .int .i64 cur.tag.num, .bool cur.tag.made, .bool cur.set, bv, av, .int .i64 0] := by
    have := B.set 6 (.int .i64 0)
    simpa using this
  have F2 : Fr (fun k => k = sb) w (w.setCell ⟨sb, 6, none⟩ (.int .i64 0)) := Fr.setCell (S := fun k => k = sb) (p := ⟨sb, 6, none⟩) (Fr.refl w) (fun _ => rfl) _
  have HB := Lib.hid B2
  have HF := Lib.hid F2
  have HH := Lib.hid (show SheetAt (w.setCell ⟨sb, 6, none⟩ (.int .i64 0)) base foot sb cur ar from ⟨bv, av, bvs, B2, h0, ownsRow_fr h1 F2 (fun k hk => (h5 k hk).1), h2, ownsRow_fr h3 F2 (fun k hk => (h6 k hk).1), fun i b g hb hg => ownsRow_fr (h4 i b g hb hg) F2 (fun k hk => (h7 b (List.mem_of_getElem? hb) k hk).1), h5, h6, h7, h8⟩)
  clear B B2 F2 h1 h2 h3 h4 h5 h6 h7 h8
  go_enter Tryz.func58, Tryz.ntmps58
  go_wp2_with fail
  refine (off_no sb w e6).mono ?_
  rintro e w0 ⟨rfl, rfl⟩
  go_wp2_with fail
  go_end0
  exact ⟨rfl, HH.out, HF.out.mono (fun k _ hk => by rw [hk]; exact h0)⟩
theorem set5of7 {w : World} {z : Nat} {t : TypeId} {a0 a1 a2 a3 a4 a5 a6 : Value} (B : Blk w z t #[a0, a1, a2, a3, a4, a5, a6]) (v0 v1 v2 v3 v4 : Value) :
    Blk (((((w.setCell ⟨z, 0, none⟩ v0).setCell ⟨z, 1, none⟩ v1).setCell ⟨z, 2, none⟩ v2).setCell ⟨z, 3, none⟩ v3).setCell ⟨z, 4, none⟩ v4) z t #[v0, v1, v2, v3, v4, a5, a6] ∧ Fr (fun k => k = z) w (((((w.setCell ⟨z, 0, none⟩ v0).setCell ⟨z, 1, none⟩ v1).setCell ⟨z, 2, none⟩ v2).setCell ⟨z, 3, none⟩ v3).setCell ⟨z, 4, none⟩ v4) := by
  have G : ∀ {w' : World}, Fr (fun k => k = z) w w' → ∀ (i : Nat) (v : Value), Fr (fun k => k = z) w (w'.setCell ⟨z, i, none⟩ v) := fun f i v => Fr.setCell (S := fun k => k = z) (p := ⟨z, i, none⟩) f (fun _ => rfl) v
  refine ⟨?_, G (G (G (G (G (Fr.refl w) _ _) _ _) _ _) _ _) _ _⟩
  have := ((((B.set 0 v0).set 1 v1).set 2 v2).set 3 v3).set 4 v4
  simpa using this
theorem setAt5 {w : World} {z : Nat} {t : TypeId} {a0 a1 a2 a3 a4 a5 a6 : Value} (B : Blk w z t #[a0, a1, a2, a3, a4, a5, a6]) (v : Value) : Blk (w.setCell ⟨z, 5, none⟩ v) z t #[a0, a1, a2, a3, a4, v, a6] ∧ Fr (fun k => k = z) w (w.setCell ⟨z, 5, none⟩ v) :=
  ⟨by have := B.set 5 v; simpa using this, Fr.setCell (S := fun k => k = z) (p := ⟨z, 5, none⟩) (Fr.refl w) (fun _ => rfl) _⟩
theorem frm_one (f : Frm) {bv : Value} (h : bv.oneCell' = true) : ∀ u ∈ frmCells f bv, u.oneCell' = true := fun u hu => by
  simp only [frmCells, List.mem_cons, List.not_mem_nil, or_false] at hu
  rcases hu with rfl | rfl | rfl | rfl | rfl <;> first | rfl | exact h
set_option maxRecDepth 20000 in
set_option maxHeartbeats 2000000 in
theorem sheetOpen1_any (sb base : Nat) (foot : Nat → Prop) (cur : Frm) (ar : List Frm) (T : Tag) (st : Bool) (w : World) (h : SheetAt w base foot sb cur ar) (hb : base ≤ w.heap.size) (har : ar.length ≤ 1000) :
    Calls Tryz.prog 104 #[pt sb, .agg #[.int .i64 T.cls, .int .i64 T.num, .bool T.made, .bool st, .slice none 0 0]] w fun e w' => e = .returned (.tuple #[]) ∧ SheetAt w' base (fun k => foot k ∨ w.heap.size ≤ k) sb ⟨T, st, []⟩ (ar ++ [cur]) ∧ Fr foot w w' := by
  have hlt := h.lt
  have F0 : Fr (fun _ => False) w (w.alloc (.cells #[.int .i64 T.cls, .int .i64 T.num, .bool T.made, .bool st, .slice none 0 0] 158)) := (Fr.refl w).alloc _
  obtain ⟨bv, av, bvs, B, h0, h1, h2, h3, h4, h5, h6, h7, h8⟩ := h
  have hav : ∀ k, av.ownBlock = some k → k < w.heap.size := fun k hk => (h3.lt k hk).2
  have hbvl : ∀ k, bv.ownBlock = some k → k < w.heap.size := fun k hk => (h1.lt k hk).2
  have HBL := Lib.hid hbvl
  have HAV := Lib.hid hav
  replace B := B.fr F0 (fun h => h)
  replace h1 := ownsRow_fr h1 F0 (fun _ _ h => h)
  replace h3 := ownsRow_fr h3 F0 (fun _ _ h => h)
  replace h4 : ∀ (i : Nat) (b : Value) (f : Frm), bvs[i]? = some b → ar[i]? = some f → _ := fun i b f hb hf => ownsRow_fr (h4 i b f hb hf) F0 (fun _ _ h => h)
  have BF := Blk.new w 158 #[.int .i64 T.cls, .int .i64 T.num, .bool T.made, .bool st, .slice none 0 0]
  obtain ⟨z, hz⟩ : ∃ z, z = w.heap.size := ⟨_, rfl⟩
  rw [← hz] at BF
  have HZ := Lib.hid hz
  have hzs : z ≠ sb := by omega
  clear hz hav hbvl
  go_enter Tryz.func104, Tryz.ntmps104
  go_upto_region 1 with fail
  rw [← HZ.out]
  generalize (w.alloc (.cells #[.int .i64 T.cls, .int .i64 T.num, .bool T.made, .bool st, .slice none 0 0] 158)) = w0 at *
  have e6 := B.cell 6
  simp at e6
  obtain ⟨abv, nbv, cbv, rfl, hnbv⟩ := own_shape h1
  obtain ⟨aav, nav, cav, rfl, hnav⟩ := own_shape h3
  obtain ⟨cells, hcells⟩ : ∃ cells, cells = frmCells cur (.slice abv nbv cbv) := ⟨_, rfl⟩
  obtain ⟨wa, hwa⟩ : ∃ wa, wa = w0.drew.alloc (.cells cells.toArray 158) := ⟨_, rfl⟩
  have Fa : Fr (fun _ => False) w0 wa := by rw [hwa]; exact (Fr.refl w0).drew.alloc _
  have hbw := F0.size
  obtain ⟨a7, c7, w7, hrun, ho7, F7, hv7⟩ := add_gen Tryz.underlying159 info158 rfl (by decide) (by decide) h3 (Nat.le_trans hb hbw) Fa w0.heap.size cells (by rw [hcells]; rfl) (by rw [hwa]; exact Blk.new w0.drew _ _) (by rw [hcells]; exact frm_one cur rfl) (by omega)
  have B7 := B.fr F7 (fun e => (h6 sb e).1 rfl)
  have HS0 := Lib.hid B.cell
  have HSA := Lib.hid (B.alloc (.cells #[.int .i64 cur.tag.cls, .int .i64 cur.tag.num, .bool cur.tag.made, .bool cur.set, .slice abv nbv cbv] 158)).cell
  have HCa := Lib.hid (B.fr Fa (fun h => h)).cell
  have HC7 := Lib.hid B7.cell
  have HZ7 := Lib.hid B7.frozen
  have HB7 := Lib.hid B7
  have HF7 := Lib.hid F7
  have HO7 := Lib.hid ho7
  have HV7 := Lib.hid hv7
  have HCL := Lib.hid hcells
  have HBF := Lib.hid BF
  have H1 := Lib.hid h1
  have H3 := Lib.hid h3
  have H4 := Lib.hid h4
  have H5 := Lib.hid h5
  have H6 := Lib.hid h6
  have H7 := Lib.hid h7
  have H8 := Lib.hid h8
  have HN := Lib.hid hnbv
  have HNA := Lib.hid hnav
  rw [hwa, hcells] at hrun
  rw [hwa] at HCa
  rw [hcells] at HCa
  have HRUN := Lib.hid hrun
  clear hrun ho7 F7 hv7 B7 B BF Fa hwa hcells h1 h3 h4 h5 h6 h7 h8 hnbv hnav
  go_wp2_with fail
  refine (off_no sb w0 e6).mono ?_
  rintro e w0' ⟨rfl, rfl⟩
  go_upto_region 2 with fail
  have S0 := HS0.out
  have Sa := HSA.out
  have S7 := HC7.out
  have Z7 := HZ7.out
  go_region_law (first
    | (refine step_append_run (by rfl) (.tmp 10) (.tmp 15) 159 (by rfl) _ w7 (by exact HRUN.out) ?_)
    | fail)
  all_goals
    obtain ⟨B8, F8⟩ := setAt5 HB7.out (.slice a7 (ar.length + 1) c7)
    have G8 := (HF7.out.mono (T := fun k => k = sb ∨ (Value.slice aav nav cav).ownBlock = some k) (fun _ _ h => .inr h)).trans (F8.mono (fun _ _ h => .inl h))
    have BF8 := (HBF.out.fr G8 (fun e => by
      rcases e with e | e
      · exact hzs e
      · have := HAV.out z e
        have := HZ.out
        omega))
    generalize (w7.setCell ⟨sb, 5, none⟩ (.slice a7 (ar.length + 1) c7)) = w8 at *
    have SB := B8.cell
    have ZB := B8.frozen
    have SF := BF8.cell
    clear S0 Sa S7 Z7
    go_wp2_with fail
    obtain ⟨B9, F9⟩ := set5of7 B8 (.int .i64 T.cls) (.int .i64 T.num) (.bool T.made) (.bool st) (.slice none 0 0)
    generalize (((((w8.setCell ⟨sb, 0, none⟩ (.int .i64 T.cls)).setCell ⟨sb, 1, none⟩ (.int .i64 T.num)).setCell ⟨sb, 2, none⟩ (.bool T.made)).setCell ⟨sb, 3, none⟩ (.bool st)).setCell ⟨sb, 4, none⟩ (.slice none 0 0)) = w9 at *
    have G9 : Fr (fun k => k = sb ∨ (Value.slice aav nav cav).ownBlock = some k) w0 w9 := G8.trans (F9.mono (fun _ _ h => .inl h))
    have h1 := H1.out
    have h3 := H3.out
    have h4 := H4.out
    have h5 := H5.out
    have h6 := H6.out
    have h7 := H7.out
    have hv := HV7.out
    have hlt7 : ∀ k, (Value.slice a7 (ar.length + 1) c7).ownBlock = some k → k ≠ sb := fun k hk => by
      rcases hv k hk with h | h
      · exact (h6 k h).1
      · omega
    have hbl : ∀ (i : Nat) (b : Value) (f : Frm), bvs[i]? = some b → ar[i]? = some f → w9.ownsRow base 5 1 b f.b.length (Lib.byteCells f.b) := fun i b f hb hf => ownsRow_fr (h4 i b f hb hf) G9 (fun k hk e => by
      have := h7 b (List.mem_of_getElem? hb) k hk
      rcases e with e | e
      · exact this.1 e
      · exact this.2.2.1 e)
    have hbv9 := ownsRow_fr h1 G9 (fun k hk e => by
      rcases e with e | e
      · exact (h5 k hk).1 e
      · exact (h6 k e).2.1 hk)
    have hav9 := ownsRow_fr (ownsRow_fr HO7.out F8 (fun k hk e => hlt7 k hk e)) F9 (fun k hk e => hlt7 k hk e)
    have hbw2 : w.heap.size ≤ w0.heap.size := hbw
    go_end0
    refine ⟨rfl, ⟨.slice none 0 0, .slice a7 (ar.length + 1) c7, bvs ++ [.slice abv nbv cbv], B9, .inl h0, ⟨rfl, .inl ⟨rfl, rfl⟩⟩, by rw [List.length_append, List.length_append, h2]; rfl, ?_, fun i b f hb hf => ?_, (fun k hk => by cases hk), fun k hk => ⟨hlt7 k hk, by simp [Value.ownBlock], ?_⟩, fun b hb k hk => ?_, ?_⟩, (F0.mono (fun _ _ h => h.elim)).trans (G9.trans' (Fr.refl w9) (fun _ _ h => h) |>.mono (fun k _ hk => ?_))⟩
    · rw [List.length_append, List.zipWith_append h2.symm, List.flatten_append]
      have := hav9
      rw [HCL.out] at this
      simpa using this
    · rcases Nat.lt_or_ge i bvs.length with hi | hi
      · rw [List.getElem?_append_left hi] at hb
        rw [List.getElem?_append_left (by omega)] at hf
        exact hbl i b f hb hf
      · have hi2 : i = bvs.length := by
          have := (List.getElem?_eq_some_iff.1 hb).1
          simp at this
          omega
        subst hi2
        rw [List.getElem?_append_right (Nat.le_refl _)] at hb
        rw [List.getElem?_append_right (by omega)] at hf
        simp at hb
        simp [h2] at hf
        subst hb; subst hf
        exact hbv9
    · rcases hv k hk with h | h
      · exact .inl (h6 k h).2.2
      · exact .inr (by omega)
    · rcases List.mem_append.1 hb with hm | hm
      · have := h7 b hm k hk
        refine ⟨this.1, by simp [Value.ownBlock], fun e => ?_, .inl this.2.2.2⟩
        rcases hv k e with h | h
        · exact this.2.2.1 h
        · obtain ⟨i, hi⟩ := List.mem_iff_getElem?.1 hm
          have hil : i < ar.length := by have := (List.getElem?_eq_some_iff.1 hi).1; omega
          have := (h4 i b _ hi (List.getElem?_eq_getElem hil)).lt k hk
          omega
      · rw [List.mem_singleton.1 hm] at hk
        refine ⟨(h5 k hk).1, by simp [Value.ownBlock], fun e => ?_, .inl (h5 k hk).2⟩
        rcases hv k e with h | h
        · exact (h6 k h).2.1 hk
        · have := HBL.out k hk
          omega
    · rw [List.pairwise_append]
      refine ⟨H8.out, List.pairwise_singleton _ _, fun b hb b' hb' k hk => ?_⟩
      rw [List.mem_singleton.1 hb']
      exact (h7 b hb k hk).2.1
    · rcases hk with hk | hk
      · rw [hk]; exact h0
      · exact (h6 k hk).2.2
end Go.Proofs.YthamenngccaijaaGreatDoor

namespace Go.Proofs.YthamenngccaijaaGreatDoor
open Go Go.RowKit Go.Q
set_option linter.unusedSimpArgs false
set_option maxRecDepth 20000 in
theorem sheetOpen_any (sb base : Nat) (foot : Nat → Prop) (cur : Frm) (ar : List Frm) (T : Tag) (w : World) (h : SheetAt w base foot sb cur ar) (hb : base ≤ w.heap.size) (har : ar.length ≤ 1000) :
    Calls Tryz.prog 55 #[pt sb, tagV T] w fun e w' => e = .returned (.tuple #[]) ∧ SheetAt w' base (fun k => foot k ∨ w.heap.size ≤ k) sb ⟨T, false, []⟩ (ar ++ [cur]) ∧ Fr foot w w' := by
  have F0 : Fr (fun _ => False) w (w.alloc (.cells #[.int .i64 T.cls, .int .i64 T.num, .bool T.made] 97)) := (Fr.refl w).alloc _
  have BT := Blk.new w 97 #[.int .i64 T.cls, .int .i64 T.num, .bool T.made]
  have hs := F0.size
  have HO := Lib.hid (sheetOpen1_any sb base foot cur ar T false _ (h.old F0) (Nat.le_trans hb hs) har)
  have HF := Lib.hid F0
  obtain ⟨z, hz⟩ : ∃ z, z = w.heap.size := ⟨_, rfl⟩
  rw [← hz] at BT
  have HZ := Lib.hid hz
  have ST := BT.cell
  clear h F0 BT hz
  rw [show tagV T = .agg #[.int .i64 T.cls, .int .i64 T.num, .bool T.made] from rfl]
  go_enter Tryz.func55, Tryz.ntmps55
  go_upto_region 1 with fail
  rw [← HZ.out]
  generalize (w.alloc (.cells #[.int .i64 T.cls, .int .i64 T.num, .bool T.made] 97)) = w0 at *
  go_wp2_with fail
  refine HO.out.mono ?_
  rintro e w1 ⟨rfl, S1, F1⟩
  have HS := Lib.hid S1
  have HF1 := Lib.hid ((HF.out.mono (fun _ _ h => h.elim)).trans F1)
  clear S1 F1 HO
  go_wp2_with fail
  go_end0
  obtain ⟨bv, av, bvs, B, h0, h1, h2, h3, h4, h5, h6, h7, h8⟩ := HS.out
  have hw : ∀ k, (foot k ∨ w0.heap.size ≤ k) → (foot k ∨ w.heap.size ≤ k) := fun k hk => by
    rcases hk with h | h
    · exact .inl h
    · exact .inr (Nat.le_trans hs h)
  exact ⟨rfl, ⟨bv, av, bvs, B, hw _ h0, h1, h2, h3, h4, fun k hk => ⟨(h5 k hk).1, hw k (h5 k hk).2⟩, fun k hk => ⟨(h6 k hk).1, (h6 k hk).2.1, hw k (h6 k hk).2.2⟩, fun b hb k hk => ⟨(h7 b hb k hk).1, (h7 b hb k hk).2.1, (h7 b hb k hk).2.2.1, hw k (h7 b hb k hk).2.2.2⟩, h8⟩, HF1.out⟩
set_option maxRecDepth 20000 in
set_option maxHeartbeats 2000000 in
theorem frameWhole_any (sb base : Nat) (foot : Nat → Prop) (T : Tag) (l : List UInt8) (ar : List Frm) (w : World) (h : SheetAt w base foot sb ⟨T, false, l⟩ ar) (hT : tagGood T) (hl : l.length ≤ 16777216) :
    Calls Tryz.prog 108 #[pt sb] w fun e w' => (∃ a c, e = .returned (.tuple #[.slice a (wrapS T l).length c, .int .i64 0]) ∧ w'.ownsRow w.heap.size 5 1 (.slice a (wrapS T l).length c) (wrapS T l).length (Lib.byteCells (wrapS T l))) ∧ Fr (fun _ => False) w w' := by
  obtain ⟨bv, av, bvs, B, h0, h1, -⟩ := h
  have hv := (Vals.of_own h1).1
  simp only at hv
  obtain ⟨ab, cb, rfl, -⟩ := Vals.form hv
  have HV := Lib.hid hv
  have HS0 := Lib.hid B.cell
  have HSA := Lib.hid (B.alloc (.cells #[.slice ab l.length cb] 23)).cell
  have e3 := B.cell 3
  simp at e3
  have HW := Lib.hid (fun w' (F : Fr (fun _ => False) w w') (sl : Value) (hp : Parts w' sl [l]) => wrap_any T hT sl [l] w' hp (by simpa using hl) (by simp))
  rw [show ([l] : List (List UInt8)).flatten = l from by simp] at HW
  have hsl := B.lt
  have HB := Lib.hid B
  clear B hv h1 h0 hT
  obtain ⟨c, n, m⟩ := T
  go_enter Tryz.func108, Tryz.ntmps108
  go_upto_region 2 with fail
  have S0 := HS0.out
  have Sa := HSA.out
  simp only at S0 Sa
  obtain ⟨R, hR⟩ : ∃ R, R = wrapS ⟨c, n, m⟩ l := ⟨_, rfl⟩
  rw [← hR] at HW
  have HR := Lib.hid hR
  have HWC := Lib.hid (HW.out (w.alloc (.cells #[.slice ab l.length cb] 23)).drew ((Fr.refl w).alloc _).drew (.slice (some ⟨w.heap.size, 0, none⟩) 1 1) ((Parts.one HV.out).old (Fr.refl _).drew))
  have FA : Fr (fun _ => False) w (w.alloc (.cells #[.slice ab l.length cb] 23)).drew := ((Fr.refl w).alloc _).drew
  have HFA := Lib.hid FA
  clear hR HW HS0 HSA FA
  go_region_held3 (fun w' => ∀ i, w'.cell? ⟨sb, i, none⟩ = (#[.int .i64 c, .int .i64 n, .bool m, .bool false, .slice ab l.length cb, av, .int .i64 0] : Array Value)[i]?) (first | exact S0 | exact Sa | exact (fun i => (HB.out.fr (HFA.out.trans F2) (fun h => h)).cell i)) (first
    | (go_at_call 89; refine HWC.out.mono ?_; rintro e w2 ⟨v2, rfl, hown, F2⟩; obtain ⟨a2, m2, c2, rfl, rfl⟩ := own_shape hown))
  all_goals
    have HO := Lib.hid (own_le hown HFA.out.size)
    have HF2 := Lib.hid (HFA.out.trans F2)
    clear hown F2 HWC HFA S0 Sa
    go_wp2_with fail
    refine bodyPost_ret (v := .tuple #[.slice a2 R.length c2, .int .i64 0]) (by simp [results, Tryz.results108, go_sem]) rfl ⟨?_, HF2.out⟩
    rw [← HR.out]
    exact ⟨a2, c2, rfl, HO.out⟩
set_option maxRecDepth 20000 in
theorem sheetBytes_any (sb base : Nat) (foot : Nat → Prop) (cur : Frm) (w : World) (h : SheetAt w base foot sb cur []) (hl : cur.b.length ≤ 100000000) :
    Calls Tryz.prog 61 #[pt sb] w fun e w' => (∃ a c, e = .returned (.tuple #[.slice a cur.b.length c, .int .i64 0]) ∧ w'.ownsRow w.heap.size 5 1 (.slice a cur.b.length c) cur.b.length (Lib.byteCells cur.b)) ∧ Fr (fun _ => False) w w' := by
  obtain ⟨bv, av, bvs, B, h0, h1, h2, h3, -⟩ := h
  obtain ⟨aav, nav, cav, rfl, hnav⟩ := own_shape h3
  simp only [List.length_nil] at hnav
  subst hnav
  have hv := (Vals.of_own h1).1
  have HC := Lib.hid (cloneByte_any bv cur.b w hv (by omega))
  obtain ⟨ab, cb, rfl, -⟩ := Vals.form hv
  have e4 := B.cell 4
  have e5 := B.cell 5
  have e6 := B.cell 6
  simp at e4 e5 e6
  clear B hv h0 h1 h2 h3
  go_enter Tryz.func61, Tryz.ntmps61
  go_wp2_with fail
  refine HC.out.mono ?_
  rintro e w1 ⟨⟨u, rfl, hown⟩, F1⟩
  obtain ⟨a1, m1, c1, rfl, rfl⟩ := own_shape hown
  have HO := Lib.hid hown
  clear hown HC
  go_wp2_with fail
  exact bodyPost_ret (v := .tuple #[.slice a1 cur.b.length c1, .int .i64 0]) (by simp [results, Tryz.results61, go_sem]) rfl ⟨⟨a1, c1, rfl, HO.out⟩, F1⟩
end Go.Proofs.YthamenngccaijaaGreatDoor

namespace Go.Proofs.YthamenngccaijaaGreatDoor
open Go Go.RowKit Go.Q
set_option linter.unusedSimpArgs false
theorem own_front {w : World} {base n sz : Nat} {t : TypeId} {a : Option Addr} {m c : Nat} {xs : List Value} (h : w.ownsRow base t sz (.slice a m c) n xs) (k : Nat) (hk : k ≤ n) : w.ownsRow base t sz (.slice a k c) k (xs.take (k * sz)) := by
  obtain ⟨h1, h2⟩ := h
  refine ⟨by rw [List.length_take, h1]; exact Nat.min_eq_left (Nat.mul_le_mul_right sz hk), ?_⟩
  rcases h2 with ⟨he, h0⟩ | ⟨g, cap, cur, he, hg, hh, hnc, hcm, hcs, htk⟩
  · simp only [Value.slice.injEq] at he
    obtain ⟨rfl, rfl, rfl⟩ := he
    obtain rfl : k = 0 := by omega
    exact .inl ⟨rfl, rfl⟩
  · simp only [Value.slice.injEq] at he
    obtain ⟨rfl, rfl, rfl⟩ := he
    refine .inr ⟨g, _, cur, rfl, hg, hh, by omega, hcm, hcs, ?_⟩
    rw [← htk, List.take_take, Nat.min_eq_left (Nat.mul_le_mul_right sz hk)]
theorem zip_frm : ∀ (ar : List Frm) (bvs : List Value) (i : Nat) (f : Frm) (b : Value), ar[i]? = some f → bvs[i]? = some b → ∀ j u, (frmCells f b)[j]? = some u → (List.zipWith frmCells ar bvs).flatten[5 * i + j]? = some u
  | [], _, i, f, b, h, _, _, _, _ => by simp at h
  | _ :: _, [], i, f, b, _, h, _, _, _ => by simp at h
  | x :: ar, y :: bvs, 0, f, b, h1, h2, j, u, hu => by
    simp only [List.getElem?_cons_zero, Option.some.injEq] at h1 h2
    subst h1; subst h2
    simp only [List.zipWith_cons_cons, List.flatten_cons, Nat.mul_zero, Nat.zero_add]
    rw [List.getElem?_append_left (List.getElem?_eq_some_iff.1 hu).1]
    exact hu
  | x :: ar, y :: bvs, i + 1, f, b, h1, h2, j, u, hu => by
    simp only [List.getElem?_cons_succ] at h1 h2
    have := zip_frm ar bvs i f b h1 h2 j u hu
    simp only [List.zipWith_cons_cons, List.flatten_cons]
    rw [List.getElem?_append_right (by simp [frmCells]; omega), show 5 * (i + 1) + j - (frmCells x y).length = 5 * i + j from by simp [frmCells]; omega]
    exact this
theorem zip_take : ∀ (ar : List Frm) (bvs : List Value) (k : Nat), ((List.zipWith frmCells ar bvs).flatten).take (k * 5) = (List.zipWith frmCells (ar.take k) (bvs.take k)).flatten
  | [], _, k => by simp
  | _ :: _, [], k => by simp
  | x :: ar, y :: bvs, 0 => by simp
  | x :: ar, y :: bvs, k + 1 => by
    have := zip_take ar bvs k
    simp only [List.zipWith_cons_cons, List.flatten_cons, List.take_succ_cons]
    rw [List.take_append, List.take_of_length_le (by simp [frmCells]; omega), ← this]
    congr 2
    simp [frmCells]; omega
theorem SheetAt.wide {w : World} {base sb : Nat} {foot foot' : Nat → Prop} {cur : Frm} {ar : List Frm} (h : SheetAt w base foot sb cur ar) (hw : ∀ k, foot k → foot' k) : SheetAt w base foot' sb cur ar := by
  obtain ⟨bv, av, bvs, B, h0, h1, h2, h3, h4, h5, h6, h7, h8⟩ := h
  exact ⟨bv, av, bvs, B, hw _ h0, h1, h2, h3, h4, fun k hk => ⟨(h5 k hk).1, hw k (h5 k hk).2⟩, fun k hk => ⟨(h6 k hk).1, (h6 k hk).2.1, hw k (h6 k hk).2.2⟩, fun b hb k hk => ⟨(h7 b hb k hk).1, (h7 b hb k hk).2.1, (h7 b hb k hk).2.2.1, hw k (h7 b hb k hk).2.2.2⟩, h8⟩
theorem own_cell {w : World} {base n sz : Nat} {t : TypeId} {a : Option Addr} {m c : Nat} {xs : List Value} (h : w.ownsRow base t sz (.slice a m c) n xs) (h0 : 0 < n) : ∃ g, a = some ⟨g, 0, none⟩ ∧ ∀ i u, xs[i]? = some u → w.cell? ⟨g, i, none⟩ = some u := by
  obtain ⟨h1, h2⟩ := h
  rcases h2 with ⟨he, hn⟩ | ⟨g, cap, cur, he, hg, hh, hnc, hcm, hcs, htk⟩
  · omega
  · simp only [Value.slice.injEq] at he
    obtain ⟨rfl, rfl, rfl⟩ := he
    refine ⟨g, rfl, fun i u hu => ?_⟩
    have hil := (List.getElem?_eq_some_iff.1 hu).1
    rw [← htk, List.getElem?_take_of_lt (by omega)] at hu
    simp only [World.cell?, hh]
    simpa using hu
set_option maxRecDepth 20000 in
set_option maxHeartbeats 4000000 in
theorem sheetShut_any (sb base : Nat) (foot : Nat → Prop) (T : Tag) (l : List UInt8) (ar : List Frm) (top : Frm) (w : World) (h : SheetAt w base foot sb ⟨T, false, l⟩ (ar ++ [top])) (hT : tagGood T) (hl : l.length ≤ 16777216) (hb : base ≤ w.heap.size) (har : ar.length ≤ 1000) (htl : top.b.length + (wrapS T l).length ≤ 100000000) :
    Calls Tryz.prog 60 #[pt sb] w fun e w' => e = .returned (.tuple #[]) ∧ SheetAt w' base (fun k => foot k ∨ w.heap.size ≤ k) sb (top.more (wrapS T l)) ar ∧ Fr foot w w' := by
  have HW := Lib.hid (frameWhole_any sb base foot T l (ar ++ [top]) w h hT hl)
  have hlt := h.lt
  obtain ⟨bv, av, bvs, B, h0, h1, h2, h3, h4, h5, h6, h7, h8⟩ := h
  rw [List.length_append, List.length_singleton] at h2 h3
  obtain ⟨aav, nav, cav, rfl, rfl⟩ := own_shape h3
  obtain ⟨tb, htb⟩ : ∃ tb, bvs[ar.length]? = some tb := ⟨_, List.getElem?_eq_getElem (by omega)⟩
  have hat : (ar ++ [top])[ar.length]? = some top := by rw [List.getElem?_append_right (Nat.le_refl _)]; simp
  have htown := h4 _ _ _ htb hat
  obtain ⟨atb, ntb, ctb, rfl, hntb⟩ := own_shape htown
  subst hntb
  obtain ⟨R, hR⟩ : ∃ R, R = wrapS T l := ⟨_, rfl⟩
  rw [← hR] at HW htl ⊢
  have HR := Lib.hid hR
  clear hR
  have e5 := B.cell 5
  have e6 := B.cell 6
  simp at e5 e6
  have hw1 : IntKind.i64.wrap (((ar.length + 1 : Nat) : Int) - 1) = (ar.length : Int) := by simp [IntKind.wrap, IntKind.signed, IntKind.bits]; omega
  have q1 : ¬ (ar.length : Int) < 0 := by omega
  go_enter Tryz.func60, Tryz.ntmps60
  go_wp2_with fail
  refine (off_no sb w e6).mono ?_
  rintro e w0 ⟨rfl, rfl⟩
  go_upto_region 4 with fail
  go_wp2_with fail
  refine HW.out.mono ?_
  rintro e w1 ⟨⟨aR, cR, rfl, hown⟩, F1⟩
  have B1 := B.fr F1 (fun h => h)
  have g1 := ownsRow_fr h1 F1 (fun _ _ h => h)
  have g3 := ownsRow_fr h3 F1 (fun _ _ h => h)
  have gt := ownsRow_fr htown F1 (fun _ _ h => h)
  have c5 := B1.cell 5
  simp at c5
  obtain ⟨g, rfl, hgc⟩ := own_cell g3 (by omega)
  obtain ⟨hcv, hcm⟩ : ar.length + 1 ≤ cav ∧ cav ≤ maxLen := by
    rcases g3.2 with ⟨he, -⟩ | ⟨g', cap, cur, he, -, -, hnc, hcm, -⟩
    · simp at he
    · simp only [Value.slice.injEq] at he
      obtain ⟨-, -, rfl⟩ := he
      exact ⟨hnc, hcm⟩
  have hzf : ∀ j u, (frmCells top (.slice atb top.b.length ctb))[j]? = some u → w1.cell? ⟨g, ar.length * 5 + j, none⟩ = some u := fun j u hu => by
    rw [Nat.mul_comm]
    exact hgc _ _ (zip_frm _ _ _ _ _ hat htb j u hu)
  have k0 : w1.cell? ⟨g, ar.length * 5, none⟩ = _ := hzf 0 _ rfl
  have k1 := hzf 1 _ rfl
  have k2 := hzf 2 _ rfl
  have k3 := hzf 3 _ rfl
  have k4 := hzf 4 _ rfl
  have H := Lib.hid (And.intro h1 (And.intro h3 (And.intro h4 (And.intro h5 (And.intro h6 (And.intro h7 (And.intro h8 (And.intro hat (And.intro htb (And.intro htown (And.intro B (And.intro B1 (And.intro g1 (And.intro g3 (And.intro gt (And.intro hown (And.intro F1 (And.intro hgc (And.intro hT h0)))))))))))))))))))
  clear h1 h3 h4 h5 h6 h7 h8 hat htb htown B B1 g1 g3 gt hown F1 hgc hT h0 HW e5 e6 hzf
  have SB := H.out.2.2.2.2.2.2.2.2.2.2.2.1.cell
  have ZB := H.out.2.2.2.2.2.2.2.2.2.2.2.1.frozen
  go_upto_region 8 with fail
  obtain ⟨B2, F2⟩ := set5of7 H.out.2.2.2.2.2.2.2.2.2.2.2.1 (.int .i64 top.tag.cls) (.int .i64 top.tag.num) (.bool top.tag.made) (.bool top.set) (.slice atb top.b.length ctb)
  generalize (((((w1.setCell ⟨sb, 0, none⟩ (.int .i64 top.tag.cls)).setCell ⟨sb, 1, none⟩ (.int .i64 top.tag.num)).setCell ⟨sb, 2, none⟩ (.bool top.tag.made)).setCell ⟨sb, 3, none⟩ (.bool top.set)).setCell ⟨sb, 4, none⟩ (.slice atb top.b.length ctb)) = w2 at *
  have e5 := B2.cell 5
  simp at e5
  have ZB2 := B2.frozen
  have HB2 := Lib.hid B2
  have HF2 := Lib.hid F2
  clear k0 k1 k2 k3 k4 c5 SB ZB B2 F2
  have s0 : (0 : Int) ≤ (ar.length : Int) := by omega
  have s1 : (ar.length : Int) ≤ (cav : Int) := by omega
  go_upto_region 9 with fail
  obtain ⟨B3, F3⟩ := setAt5 HB2.out (.slice (some ⟨g, 0, none⟩) ar.length cav)
  generalize (w2.setCell ⟨sb, 5, none⟩ (.slice (some ⟨g, 0, none⟩) ar.length cav)) = w3 at *
  obtain ⟨h1, h3, h4, h5, h6, h7, h8, hat, htb, htown, B, B1, g1, g3, gt, hown, F1, hgc, hT, h0⟩ := H.out
  have G3 : Fr (fun k => k = sb) w w3 := (F1.mono (fun _ _ h => h.elim)).trans (HF2.out.trans F3)
  have F13 : Fr (fun k => k = sb) w1 w3 := HF2.out.trans F3
  have g33 := own_front (ownsRow_fr g3 F13 (fun k hk => (h6 k hk).1)) ar.length (by omega)
  rw [zip_take, List.take_left' rfl] at g33
  have hmt : ∀ i b, (bvs.take ar.length)[i]? = some b → bvs[i]? = some b ∧ i < ar.length := fun i b hi => by
    have := (List.getElem?_eq_some_iff.1 hi).1
    rw [List.length_take] at this
    have hil : i < ar.length := by omega
    rw [List.getElem?_take_of_lt hil] at hi
    exact ⟨hi, hil⟩
  have S3 : SheetAt w3 base foot sb top ar := by
    refine ⟨.slice atb top.b.length ctb, .slice (some ⟨g, 0, none⟩) ar.length cav, bvs.take ar.length, B3, h0, ownsRow_fr gt F13 (fun k hk => (h7 _ (List.mem_of_getElem? htb) k hk).1), by rw [List.length_take]; omega, g33, fun i b f hb hf => ?_, fun k hk => ?_, fun k hk => ?_, fun b hb k hk => ?_, ?_⟩
    · obtain ⟨hb', hil⟩ := hmt i b hb
      exact ownsRow_fr (h4 i b f hb' (by rw [List.getElem?_append_left hil]; exact hf)) G3 (fun k hk => (h7 b (List.mem_of_getElem? hb') k hk).1)
    · have := h7 _ (List.mem_of_getElem? htb) k hk
      exact ⟨this.1, this.2.2.2⟩
    · have hk' : (Value.slice (some ⟨g, 0, none⟩) (ar.length + 1) cav).ownBlock = some k := hk
      have := h6 k hk'
      exact ⟨this.1, fun e => (h7 _ (List.mem_of_getElem? htb) k e).2.2.1 hk', this.2.2⟩
    · obtain ⟨i, hi⟩ := List.mem_iff_getElem?.1 hb
      obtain ⟨hb', hil⟩ := hmt i b hi
      have := h7 b (List.mem_of_getElem? hb') k hk
      refine ⟨this.1, fun e => ?_, this.2.2.1, this.2.2.2⟩
      have hp := List.pairwise_iff_getElem.1 h8 i ar.length (List.getElem?_eq_some_iff.1 hb').1 (by omega) hil
      rw [(List.getElem?_eq_some_iff.1 hb').2, (List.getElem?_eq_some_iff.1 htb).2] at hp
      exact hp k hk e
    · exact h8.sublist (List.take_sublist _ _)
  have hs3 := G3.size
  have hs1 := F1.size
  have hR3 := (Vals.of_own (ownsRow_fr hown F13 (fun k hk e => by
    have := (hown.lt k hk).1
    omega))).1
  have HA := Lib.hid (sheetAdd_any sb base foot top ar (.slice aR R.length cR) R w3 S3 hR3 (by omega) htl)
  have HG := Lib.hid G3
  have HR0 := Lib.hid h0
  clear h1 h3 h4 h5 h6 h7 h8 hat htb htown B B1 g1 g3 gt hown F1 hgc hT h0 B3 F3 F13 g33 S3 hR3 G3 hmt H HB2 HF2 e5 ZB2
  go_wp2_with fail
  refine HA.out.mono ?_
  rintro e w4 ⟨rfl, S4, F4⟩
  go_wp2_with fail
  go_end0
  refine ⟨rfl, S4.wide (fun k hk => ?_), (HG.out.mono (fun k _ h => h ▸ HR0.out)).trans F4⟩
  rcases hk with h | h
  · exact .inl h
  · exact .inr (by omega)
end Go.Proofs.YthamenngccaijaaGreatDoor

namespace Go.Q
open Go Go.RowKit
def wholesN (n : List (List Part)) : List (List UInt8) := n.map fun r => rdnWhole ((rdnS r).getD [])
def nameWhole (n : List (List Part)) : List UInt8 := wrapS (tagOf 16) (wholesN n).flatten
end Go.Q
namespace Go.Proofs.YthamenngccaijaaGreatDoor
open Go Go.RowKit Go.Q
set_option linter.unusedSimpArgs false
theorem SheetAt.now {w : World} {base sb : Nat} {foot : Nat → Prop} {cur : Frm} {ar : List Frm} (h : SheetAt w base foot sb cur ar) : SheetAt w base (fun k => foot k ∧ k < w.heap.size) sb cur ar := by
  have hlt := h.lt
  obtain ⟨bv, av, bvs, B, h0, h1, h2, h3, h4, h5, h6, h7, h8⟩ := h
  refine ⟨bv, av, bvs, B, ⟨h0, hlt⟩, h1, h2, h3, h4, fun k hk => ⟨(h5 k hk).1, (h5 k hk).2, (h1.lt k hk).2⟩, fun k hk => ⟨(h6 k hk).1, (h6 k hk).2.1, (h6 k hk).2.2, (h3.lt k hk).2⟩, fun b hb k hk => ?_, h8⟩
  have := h7 b hb k hk
  refine ⟨this.1, this.2.1, this.2.2.1, this.2.2.2, ?_⟩
  obtain ⟨i, hi⟩ := List.mem_iff_getElem?.1 hb
  have hil : i < ar.length := by have := (List.getElem?_eq_some_iff.1 hi).1; omega
  exact ((h4 i b _ hi (List.getElem?_eq_getElem hil)).lt k hk).2
theorem parts_kept {w : World} {foot : Nat → Prop} {R : List UInt8} {a : Option Addr} {n c base : Nat} (ho : w.ownsRow base 5 1 (.slice a n c) n (Lib.byteCells R)) (hf : ∀ k, foot k → k < base) (hb : base ≤ w.heap.size) : Kept (fun W => Parts W (.slice (some ⟨w.heap.size, 0, none⟩) 1 1) [R]) foot (w.alloc (.cells #[.slice a n c] 23)) := fun W F => by
  have B := (Blk.new w 23 #[.slice a n c]).fr F (fun h => by have := hf _ h; omega)
  have ho2 := ownsRow_fr (ownsRow_fr ho ((Fr.refl w).alloc _) (fun _ _ h => h)) F (fun k hk h => by have := hf _ h; have := (ho.lt k hk).1; omega)
  refine ⟨[.slice a n c], Vals.of_block B (by show 1 ≤ maxLen; decide), rfl, fun i u l hu hl => ?_⟩
  cases i with
  | zero =>
    simp only [List.getElem?_cons_zero, Option.some.injEq] at hu hl
    subst hu; subst hl
    exact (Vals.of_own ho2).1
  | succ i => simp at hu
set_option maxRecDepth 20000 in
set_option maxHeartbeats 4000000 in
theorem nameWrite_ok (v : Value) (n : List (List Part)) (w : World) (h : NameAt w v n) (hf : ∀ r ∈ n, fewB r) (hok : nameOk n = true) (hs : (wholesN n).flatten.length ≤ 16777216) :
    Calls Tryz.prog 11 #[v] w fun e w' => (∃ a c, e = .returned (.tuple #[.slice a (nameWhole n).length c, .int .i64 0]) ∧ w'.ownsRow w.heap.size 5 1 (.slice a (nameWhole n).length c) (nameWhole n).length (Lib.byteCells (nameWhole n))) ∧ Fr (fun _ => False) w w' := by
  have H := Lib.hid h
  have HRI := right_any v n w h hf
  rw [hok] at HRI
  obtain ⟨hn64, hrd⟩ := name_rdns hok
  have HRD := Lib.hid hrd
  have HS := Lib.hid hs
  obtain ⟨a, cap, rfl, hc, hm, -⟩ := h
  clear hok hrd hs
  go_enter Tryz.func11, Tryz.ntmps11
  go_wp2_with fail
  refine HRI.mono ?_
  rintro e w0 ⟨rfl, F0⟩
  have HF0 := Lib.hid F0
  clear F0 HRI
  go_wp2_with fail
  refine (sheetNew_any w0).mono ?_
  rintro e w1 ⟨rfl, S1, F1⟩
  have HS1 := Lib.hid S1
  have HF1 := Lib.hid F1
  clear S1 F1
  go_wp2_with fail
  refine (headOf_any 16 w1).mono ?_
  rintro e w2 ⟨rfl, F2⟩
  have HS2 := Lib.hid (HS1.out.old F2)
  have HF2 := Lib.hid (HF1.out.trans F2)
  have hz2 := HS2.out.lt
  have HO := Lib.hid (sheetOpen_any w0.heap.size w0.heap.size _ _ _ (tagOf 16) w2 HS2.out (by omega) (by simp))
  clear F2 HS1 HF1 HS2
  go_wp2_with fail
  refine HO.out.mono ?_
  rintro e w3 ⟨rfl, S3, F3⟩
  have HS3 := Lib.hid S3.now
  have HF3 := Lib.hid (HF2.out.trans' F3 (fun k hk e => by omega))
  clear S3 F3 HF2 HO
  go_wp2_with fail
  go_loopg [18] n.length (fun g ii wr => ∃ j : Nat, g = n.length - j ∧ j ≤ n.length ∧ ii = .int .i64 j ∧ SheetAt wr w0.heap.size (fun k => w0.heap.size ≤ k ∧ k < wr.heap.size) w0.heap.size ⟨tagOf 16, false, ((wholesN n).take j).flatten⟩ [⟨⟨0, 0, false⟩, false, []⟩] ∧ Fr (fun _ => False) w0 wr)
  case atStart =>
    exact ⟨0, rfl, Nat.zero_le _, rfl, HS3.out.wide (fun k hk => ⟨by rcases hk.1 with h | h <;> omega, hk.2⟩), HF3.out⟩
  case round =>
    obtain ⟨j, hg, hj, rfl, hS, F⟩ := hrel
    have HG := Lib.hid hg
    have HSj := Lib.hid hS
    have HF := Lib.hid F
    have HFF := Lib.hid (HF0.out.trans F)
    clear hg hS HS3 HF3
    by_cases hjl : j < n.length
    · obtain ⟨a0, cap0, he, _, _, hx⟩ := H.out.old HFF.out
      simp only [Value.slice.injEq, true_and] at he
      obtain ⟨rfl, rfl⟩ := he
      obtain ⟨b, off, rfl, hy⟩ := hx (by omega)
      obtain ⟨r, hr⟩ : ∃ r, n[j]? = some r := ⟨_, List.getElem?_eq_getElem hjl⟩
      obtain ⟨x, e1, hA⟩ := hy j r hr
      have hmem := List.mem_of_getElem? hr
      obtain ⟨ws, hws⟩ := Option.isSome_iff_exists.1 (HRD.out r hmem)
      have hwl : (wholesN n)[j]? = some (rdnWhole ws) := by
        unfold wholesN
        rw [List.getElem?_map, hr]
        simp [hws]
      have hft := flat_take hwl
      have hfl := flat_le (wholesN n) (j + 1)
      rw [hft, List.length_append] at hfl
      have hle := HS.out
      have hwr : ws.flatten.length ≤ (rdnWhole ws).length := by
        unfold rdnWhole
        rw [wrap_len]
        omega
      have HW := writeRdn_any x r wr hA (hf r hmem) (fun ws' h' => by rw [hws] at h'; cases h'; omega)
      rw [hws] at HW
      have HWR := Lib.hid HW
      have HFT := Lib.hid hft
      have r1 : (0 : Int) ≤ (j : Int) := by omega
      have r2 : (j : Int) < (n.length : Int) := by omega
      obtain ⟨R, hR⟩ : ∃ R, R = rdnWhole ws := ⟨_, rfl⟩
      rw [← hR] at hfl
      have HR := Lib.hid hR
      clear hx hy hr hA hmem hws hwl hft hwr F HW hR
      go_wp2_with fail
      refine HWR.out.mono ?_
      rintro e w4 ⟨hres, F4⟩
      unfold writeRdnOut at hres
      simp only at hres
      rw [← HR.out] at hres
      obtain ⟨aR, cR, rfl, hown⟩ := hres
      have HS4 := Lib.hid (HSj.out.old F4)
      have HF4 := Lib.hid F4
      have HOW := Lib.hid hown
      clear HWR F4 hown
      go_wp2_with fail
      refine (sheetFail_no _ _ _ _ _ w4 HS4.out).mono ?_
      rintro e w5 ⟨rfl, S5, F5⟩
      have HS5 := Lib.hid S5
      have HF5 := Lib.hid F5
      clear S5 F5 HS4
      have hown5 := ownsRow_fr HOW.out HF5.out (fun k hk e => by
        have := (HOW.out.lt k hk).1
        omega)
      have hz4 := HF4.out.size
      have hz5 := HF5.out.size
      have hz0 := HF.out.size
      have FA : Fr (fun _ => False) w5 (w5.alloc (.cells #[.slice aR R.length cR] 23)) := (Fr.refl w5).alloc _
      have hzA := FA.size
      have HP := Lib.hid (sheetPut_any w0.heap.size w0.heap.size _ _ _ _ [R] _ (HS5.out.old FA) (parts_kept hown5 (fun k hk => hk.2) (by omega)) (by omega) (by
        show ((wholesN n).take j).flatten.length + [R].flatten.length ≤ 100000000
        simp only [List.flatten_cons, List.flatten_nil, List.append_nil]
        omega) (by simp))
      have G5 := Lib.hid ((HF4.out.mono (T := fun k => w0.heap.size ≤ k) (fun _ _ h => h.elim)).trans ((HF5.out.mono (fun _ _ h => h.1)).trans (FA.mono (fun _ _ h => h.elim))))
      clear hown5 FA HS5 HF4 HF5 HOW
      go_wp2_with fail
      refine HP.out.mono ?_
      rintro e w6 ⟨rfl, S6, F6⟩
      have HS6 := Lib.hid (S6.now.wide (foot' := fun k => w0.heap.size ≤ k ∧ k < w6.heap.size) (fun k hk => ⟨by rcases hk.1 with h | h <;> omega, hk.2⟩))
      have HF6 := Lib.hid (HF.out.trans' (G5.out.trans (F6.mono (fun _ _ h => h.1))) (fun k hk e => by omega))
      clear S6 F6 G5 HP HF HFF
      go_wp2_with fail
      go_roundg (n.length - (j + 1))
      case measure => rw [HG.out]; omega
      case rel =>
        refine ⟨j + 1, rfl, by omega, by go_num, ?_, HF6.out⟩
        have := HS6.out
        rw [HFT.out, ← HR.out]
        simpa [Frm.more] using this
    · obtain rfl : j = n.length := by omega
      have q1 : ¬ (n.length : Int) < (n.length : Int) := by omega
      have hS := HSj.out
      rw [show (wholesN n).take n.length = wholesN n from List.take_of_length_le (by simp [wholesN])] at hS
      have hsl := hS.lt
      have hz0 := HF0.out.size
      have hsn := HS.out
      have hll := len_small (wholesN n).flatten.length hsn
      have hwl : (nameWhole n).length ≤ 20000000 := by
        unfold nameWhole
        rw [wrap_len]
        omega
      have HSH := Lib.hid (sheetShut_any w0.heap.size w0.heap.size _ (tagOf 16) (wholesN n).flatten [] ⟨⟨0, 0, false⟩, false, []⟩ wr hS ⟨by decide, by decide⟩ hsn (by omega) (by simp) (by
        show ([] : List UInt8).length + (nameWhole n).length ≤ 100000000
        simp only [List.length_nil]
        omega))
      clear hS
      go_wp2_with fail
      refine HSH.out.mono ?_
      rintro e w4 ⟨rfl, S4, F4⟩
      obtain ⟨R, hR⟩ : ∃ R, R = nameWhole n := ⟨_, rfl⟩
      have HB := Lib.hid (sheetBytes_any w0.heap.size w0.heap.size _ _ w4 S4 (by
        show ([] ++ nameWhole n).length ≤ 100000000
        simp only [List.nil_append]
        omega))
      rw [show (Frm.more ⟨⟨0, 0, false⟩, false, []⟩ (wrapS (tagOf 16) (wholesN n).flatten)).b = R from by rw [hR]; rfl] at HB
      have HR := Lib.hid hR
      have HF4 := Lib.hid (HFF.out.trans' F4 (fun k hk e => by omega))
      clear S4 F4 HSH hR
      go_wp2_with fail
      refine HB.out.mono ?_
      rintro e w5 ⟨⟨aR, cR, rfl, hown⟩, F5⟩
      have HOW := Lib.hid (own_le hown HF4.out.size)
      have HF5 := Lib.hid (HF4.out.trans F5)
      clear hown F5 HB
      go_wp2_with fail
      refine bodyPost_ret (v := .tuple #[.slice aR R.length cR, .int .i64 0]) (by simp [results, Tryz.results11, go_sem]) rfl ⟨⟨aR, cR, ?_, ?_⟩, HF5.out⟩
      · rw [HR.out]
      · rw [← HR.out]
        exact HOW.out
set_option maxRecDepth 20000 in
theorem nameWrite_bad (v : Value) (n : List (List Part)) (w : World) (h : NameAt w v n) (hf : ∀ r ∈ n, fewB r) (hok : nameOk n = false) :
    Calls Tryz.prog 11 #[v] w fun e w' => e = .returned (.tuple #[.slice none 0 0, .int .i64 1]) ∧ Fr (fun _ => False) w w' := by
  have HR := right_any v n w h hf
  rw [hok] at HR
  have HRI := Lib.hid HR
  clear h hok HR
  go_enter Tryz.func11, Tryz.ntmps11
  go_wp2_with fail
  refine HRI.out.mono ?_
  rintro e w0 ⟨rfl, F0⟩
  go_wp2_with fail
  exact bodyPost_ret (v := .tuple #[.slice none 0 0, .int .i64 1]) (by simp [results, Tryz.results11, go_sem]) rfl ⟨rfl, F0⟩
end Go.Proofs.YthamenngccaijaaGreatDoor

namespace Go.Q
open Go Go.RowKit
open Go.Proofs.YthamenngccaijaaGreatDoor
theorem steps_get : ∀ (l : List Part) (last : Option (List UInt8)) (ws : List (List UInt8)), stepsS last l = some ws → ∀ (j : Nat) (p : Part), l[j]? = some p → ∃ x, ws[j]? = some x ∧ attrS p.o p.b = some x
  | [], _, _, _, j, p, hp => by simp at hp
  | q :: t, last, ws, h, j, p, hp => by
    obtain ⟨x, ws', h1, h2, rfl, -⟩ := steps_in h
    cases j with
    | zero =>
      simp only [List.getElem?_cons_zero, Option.some.injEq] at hp
      subst hp
      exact ⟨x, rfl, h1⟩
    | succ j =>
      simp only [List.getElem?_cons_succ] at hp
      obtain ⟨y, h3, h4⟩ := steps_get t _ _ h2 j p hp
      exact ⟨y, by simpa using h3, h4⟩
theorem rdn_get {l : List Part} {ws : List (List UInt8)} (h : rdnS l = some ws) : ws.length = l.length ∧ l.length ≤ 16 ∧ ∀ (j : Nat) (p : Part), l[j]? = some p → ∃ x, ws[j]? = some x ∧ attrS p.o p.b = some x := by
  unfold rdnS at h
  split at h
  · cases h
  · rename_i hl
    exact ⟨(steps_up l none ws h).2.2, by omega, steps_get l none ws h⟩
theorem attr_room {o : List Int} {b x : List UInt8} (h : attrS o b = some x) : x.length ≤ 306 + b.length := by
  unfold attrS at h
  split at h
  · rename_i h0
    simp only [Bool.and_eq_true] at h0
    simp only [Option.some.injEq] at h
    subst h
    have h1 := oidWhole_len (nums_ok h0.1).2.1
    have h2 : (lenBytes (oidWhole o ++ b).length).length ≤ 5 := by unfold lenBytes; (repeat' split) <;> simp
    rw [wrap_len, List.length_append] at *
    omega
  · cases h
theorem flat_room {m : Nat} : ∀ {ls : List (List UInt8)}, (∀ l ∈ ls, l.length ≤ m) → ls.flatten.length ≤ ls.length * m
  | [], _ => by simp
  | x :: t, h => by
    have h1 := h x (List.mem_cons_self ..)
    have h2 := flat_room (m := m) (ls := t) (fun l hl => h l (List.mem_cons_of_mem _ hl))
    rw [List.flatten_cons, List.length_append, List.length_cons, Nat.add_mul]
    omega
theorem rdn_room {l : List Part} {ws : List (List UInt8)} (h : rdnS l = some ws) (hb : ∀ p ∈ l, p.b.length ≤ 200) : ws.flatten.length ≤ 8096 ∧ (rdnWhole ws).length ≤ 8102 := by
  obtain ⟨h1, h2, h3⟩ := rdn_get h
  have h4 : ∀ x ∈ ws, x.length ≤ 506 := fun x hx => by
    obtain ⟨i, hi⟩ := List.mem_iff_getElem?.1 hx
    have hil : i < l.length := by have := (List.getElem?_eq_some_iff.1 hi).1; omega
    obtain ⟨y, hy, ha⟩ := h3 i _ (List.getElem?_eq_getElem hil)
    rw [hi] at hy
    simp only [Option.some.injEq] at hy
    subst hy
    have := attr_room ha
    have := hb _ (List.getElem_mem hil)
    omega
  have h5 := flat_room h4
  have h6 : ws.length * 506 ≤ 16 * 506 := Nat.mul_le_mul_right _ (by omega)
  have h7 : ws.flatten.length ≤ 8096 := by omega
  refine ⟨h7, ?_⟩
  have h8 := len_small ws.flatten.length (by omega)
  unfold rdnWhole
  rw [wrap_len]
  omega
theorem name_room {n : List (List Part)} (h : nameOk n = true) (hb : ∀ r ∈ n, ∀ p ∈ r, p.b.length ≤ 200) : (wholesN n).flatten.length ≤ 518528 := by
  obtain ⟨h1, h2⟩ := name_rdns h
  have h3 := flat_room (m := 8102) (ls := wholesN n) (fun x hx => by
    obtain ⟨r, hr, rfl⟩ := List.mem_map.1 hx
    obtain ⟨ws, hws⟩ := Option.isSome_iff_exists.1 (h2 r hr)
    rw [hws]
    exact (rdn_room hws (hb r hr)).2)
  have h4 : (wholesN n).length * 8102 ≤ 64 * 8102 := Nat.mul_le_mul_right _ (by simp [wholesN]; omega)
  omega
end Go.Q
namespace Go.Proofs.YthamenngccaijaaGreatDoor
open Go Go.RowKit Go.Q
set_option linter.unusedSimpArgs false
end Go.Proofs.YthamenngccaijaaGreatDoor

namespace Go.Q
open Go
theorem num_up : ∀ (f q : Nat) (rest : List UInt8), q < 128 ^ f → q ≤ 16777216 → numberS 0 0 ((up7 f q).reverse ++ rest) = numberS (up7 f q).length q rest
  | 0, q, rest, h, _ => by
    obtain rfl : q = 0 := by simpa using h
    rfl
  | f + 1, q, rest, h, hq => by
    rw [up7]
    by_cases h0 : q = 0
    · subst h0
      rw [if_pos rfl]
      rfl
    · rw [if_neg h0, List.reverse_cons, List.append_assoc, List.length_cons]
      have hd : q / 128 < 128 ^ f := by
        rw [Nat.pow_succ] at h
        exact Nat.div_lt_of_lt_mul (by omega)
      rw [num_up f (q / 128) _ hd (by omega)]
      have e := u8' (q % 128 + 128) (by omega)
      have hz : ¬ ((up7 f (q / 128)).length = 0 ∧ q % 128 + 128 = 128) := by
        rintro ⟨h1, h2⟩
        have h3 : q / 128 ≠ 0 := by omega
        cases f with
        | zero => simp at hd; omega
        | succ f => rw [up7, if_neg h3] at h1; simp at h1
      show numberS _ _ (UInt8.ofNat (q % 128 + 128) :: rest) = _
      rw [numberS, e, if_neg hz, if_neg (by omega), if_neg (by omega)]
      congr 1
      omega
theorem num_fwd {m : Nat} (h : m ≤ 2147483647) (rest : List UInt8) : numberS 0 0 (base128 m ++ rest) = .ok (m, (base128 m).length) := by
  unfold base128
  rw [List.reverse_cons, List.append_assoc, num_up 5 (m / 128) _ (by omega) (by omega), List.length_append, List.length_reverse]
  have e := u8' (m % 128) (by omega)
  show numberS _ _ (UInt8.ofNat (m % 128) :: rest) = _
  rw [numberS, e, if_neg (by omega), if_neg (by omega), if_pos (by omega)]
  simp only [List.length_singleton, Except.ok.injEq, Prod.mk.injEq, and_true]
  omega
theorem base_ne (m : Nat) : base128 m ≠ [] := by simp [base128]
theorem oidSt_fwd {o : List Int} (ho : o.length ≠ 32) {m : Nat} (h : m ≤ 2147483647) (rest : List UInt8) : oidStS o 0 0 (base128 m ++ rest) = oidStS (addS o m) 0 0 rest := by
  rw [oidSt_num o _ 0 0 (.inr (by simp [base_ne])), num_fwd h]
  simp only
  rw [if_neg ho, Nat.sub_zero, List.drop_left]
theorem oidSt_all : ∀ (r o : List Int), o ≠ [] → (∀ n ∈ r, arcOk n = true) → o.length + r.length ≤ 32 → oidStS o 0 0 (r.flatMap fun n => base128 n.toNat) = .ok (o ++ r)
  | [], o, _, _, _ => by simp [oidStS]
  | n :: t, o, h0, hr, hl => by
    have hn := hr n (List.mem_cons_self ..)
    unfold arcOk at hn
    simp only [decide_eq_true_eq] at hn
    simp only [List.length_cons] at hl
    rw [List.flatMap_cons, oidSt_fwd (by omega) (by omega)]
    have ha : addS o n.toNat = o ++ [n] := by
      unfold addS
      rw [if_neg h0]
      congr 2
      omega
    rw [ha, oidSt_all t _ (by simp) (fun m hm => hr m (List.mem_cons_of_mem _ hm)) (by simp; omega)]
    simp
theorem oidParse_fwd {o : List Int} (h : oidOk o = true) : oidParseS (oidBytes o) = .ok o := by
  have h' := h
  unfold oidOk at h
  simp only [Bool.and_eq_true, decide_eq_true_eq] at h
  obtain ⟨⟨⟨g1, g2⟩, g3⟩, g4⟩ := h
  obtain ⟨a, b, r, rfl⟩ : ∃ a b r, o = a :: b :: r := by
    match o, g1 with
    | a :: b :: r, _ => exact ⟨a, b, r, rfl⟩
    | [a], g1 => simp at g1
    | [], g1 => simp at g1
  rw [List.all_eq_true] at g3
  have ha := g3 a (by simp)
  have hb := g3 b (by simp)
  unfold arcOk at ha hb
  simp only [decide_eq_true_eq] at ha hb
  simp only [List.getD_cons_zero, List.getD_cons_succ, twoOk, Bool.or_eq_true, Bool.and_eq_true, decide_eq_true_eq] at g4
  simp only [List.length_cons] at g2
  have he : oidBytes (a :: b :: r) = base128 (40 * a + b).toNat ++ r.flatMap fun n => base128 n.toNat := by
    simp only [oidBytes, Go.Proofs.YthamenngccaijaaGreatDoor.numsS, List.getD_cons_zero, List.getD_cons_succ, List.drop_succ_cons, List.drop_zero, List.flatMap_cons]
  unfold oidParseS
  rw [he, if_neg (by simp [base_ne]), oidSt_fwd (by simp) (by omega)]
  have hs : addS [] (40 * a + b).toNat = [a, b] := by
    unfold addS
    rw [if_pos rfl]
    split
    · simp only [List.cons.injEq, and_true]
      omega
    · simp only [List.cons.injEq, and_true]
      omega
  rw [hs, oidSt_all r [a, b] (by simp) (fun n hn => g3 n (by simp [hn])) (by simp; omega)]
  rfl
theorem open_fwd {t : Tag} (h : tagGood t) {y : List UInt8} (hy : y.length ≤ 16777216) (rest : List UInt8) : openS t (wrapS t y ++ rest) = .ok (y, (wrapS t y).length) := by
  unfold openS
  rw [wrap_read h hy]
  simp only
  rw [if_neg (by simp), if_neg (by rw [List.length_append, wrap_len]; omega), wrap_len]
  have e : (wrapS t y ++ rest).drop (1 + (lenBytes y.length).length) = y ++ rest := by
    unfold wrapS
    rw [Nat.add_comm, List.cons_append, List.drop_succ_cons, List.append_assoc, List.drop_left]
  rw [e, List.take_left]
theorem oidRead_fwd {o : List Int} (h : oidOk o = true) (rest : List UInt8) : oidReadS (oidWhole o ++ rest) = .ok (o, (oidWhole o).length) := by
  unfold oidReadS oidWhole
  rw [open_fwd tag6 (by have := oidBytes_len (o := o) (by unfold oidOk at h; simp only [Bool.and_eq_true, decide_eq_true_eq] at h; omega); omega)]
  simp only
  rw [oidParse_fwd h]
theorem one_of_single {b : List UInt8} (h : singleB b = true) : ∃ t k n, oneS b = .ok (t, k, n) ∧ ¬ n < b.length := by
  unfold singleB at h
  split at h
  · rename_i ls hls
    cases b with
    | nil => rw [allS_nil] at hls; cases hls; simp at h
    | cons x t =>
      unfold allS at hls
      simp only [List.length_cons, wholesS] at hls
      split at hls
      · cases hls
      · rename_i u k n hn
        split at hls
        · cases hls
        · rename_i l hl
          simp only [Except.ok.injEq] at hls
          subst hls
          refine ⟨_, _, _, hn, fun hlt => ?_⟩
          simp only [List.length_cons, beq_iff_eq, Nat.add_eq_right, List.length_eq_zero_iff] at h
          subst h
          have hd : (x :: t).drop n ≠ [] := by
            rw [Ne, List.drop_eq_nil_iff]
            omega
          cases hq : (x :: t).drop n with
          | nil => exact hd hq
          | cons y s =>
            rw [hq] at hl
            cases ht : t.length with
            | zero => rw [ht] at hl; simp [wholesS] at hl
            | succ f =>
              rw [ht] at hl
              simp only [wholesS] at hl
              split at hl
              · cases hl
              · split at hl
                · cases hl
                · cases hl
  · cases h
theorem part_fwd {p : Part} {x : List UInt8} (h : attrS p.o p.b = some x) (hb : p.b.length ≤ 16000000) (rest : List UInt8) : partReadS (x ++ rest) = .ok (p, x.length) ∧ x ≠ [] := by
  unfold attrS at h
  split at h
  · rename_i h0
    simp only [Bool.and_eq_true] at h0
    simp only [Option.some.injEq] at h
    subst h
    have hol := oidWhole_len (o := p.o) (by have := h0.1; unfold oidOk at this; simp only [Bool.and_eq_true, decide_eq_true_eq] at this; omega)
    refine ⟨?_, by simp [wrapS]⟩
    unfold partReadS
    rw [open_fwd tag16 (by rw [List.length_append]; omega)]
    simp only
    rw [oidRead_fwd h0.1]
    simp only
    rw [List.drop_left]
    obtain ⟨t, k, n, hn, hlt⟩ := one_of_single h0.2
    rw [hn]
    simp only
    rw [if_neg (by rw [List.length_append]; omega)]
  · cases h
theorem stepsS_last (y : Option (List UInt8)) (x : List UInt8) (p : Part) (t : List Part) (ws : List (List UInt8)) (ha : attrS p.o p.b = some x) (hc : ∀ z, y = some z → cmpS z x < 0) (h : stepsS (some x) t = some ws) : stepsS y (p :: t) = some (x :: ws) := by
  simp only [stepsS, ha, h]
  cases y with
  | none => rfl
  | some z =>
    have := hc z rfl
    simp only
    rw [if_neg (by simp; omega)]
    rfl
theorem rdnGo_back : ∀ (f : Nat) (out : List Part) (last l : List UInt8) (r : List Part), out.length ≤ 16 → l.length ≤ f → rdnGoS f out last l = .ok r → ∃ t ws, r = out ++ t ∧ stepsS (if out.length = 0 then none else some last) t = some ws ∧ ws.flatten = l ∧ r.length ≤ 16 ∧ r.length ≠ 0
  | f, out, last, [], r, ho, hl, h => by
    have h' : (if out.length = 0 then (.error 6 : Except Int (List Part)) else .ok out) = .ok r := by cases f <;> exact h
    split at h'
    · cases h'
    · rename_i h0
      cases h'
      exact ⟨[], [], by simp, rfl, rfl, ho, h0⟩
  | 0, out, last, x :: t, r, ho, hl, h => by simp at hl
  | f + 1, out, last, x :: t, r, ho, hl, h => by
    simp only [rdnGoS] at h
    split at h
    · cases h
    rename_i h16
    split at h
    · cases h
    rename_i p m hx
    obtain ⟨hb1, hb2, hb3, hb4⟩ := partRead_back hx
    split at h
    · cases h
    rename_i hc1
    split at h
    · cases h
    rename_i hc2
    obtain ⟨t', ws, rfl, h2, h3, h4, h5⟩ := rdnGo_back f (out ++ [p]) _ _ r (by rw [List.length_append, List.length_singleton]; omega) (by simp only [List.length_drop, List.length_cons] at hl ⊢; omega) h
    rw [if_neg (by simp)] at h2
    refine ⟨p :: t', (x :: t).take m :: ws, by simp, stepsS_last _ _ p t' ws hb1 (fun z hz => ?_) h2, ?_, h4, h5⟩
    · split at hz
      · cases hz
      · rename_i h0
        simp only [Option.some.injEq] at hz
        subst hz
        omega
    · rw [List.flatten_cons, h3, List.take_append_drop]
theorem rdnRead_back {l : List UInt8} {r : List Part} {k : Nat} (h : rdnReadS l = .ok (r, k)) : ∃ ws, rdnS r = some ws ∧ l.take k = rdnWhole ws ∧ k ≤ l.length ∧ 1 ≤ k := by
  have hk := rdnRead_len h
  unfold rdnReadS at h
  split at h
  · cases h
  rename_i x k' hx
  split at h
  · cases h
  rename_i r' hr
  simp only [Except.ok.injEq, Prod.mk.injEq] at h
  obtain ⟨rfl, rfl⟩ := h
  obtain ⟨h1, -, -, -⟩ := open_back hx tag17
  obtain ⟨t, ws, g1, g2, g3, g4, g5⟩ := rdnGo_back _ [] [] x _ (by simp) (Nat.le_refl _) hr
  rw [List.nil_append] at g1
  subst g1
  refine ⟨ws, ?_, by rw [h1, ← g3]; rfl, hk⟩
  unfold rdnS
  rw [if_neg (by omega)]
  exact g2
theorem nameGo_back : ∀ (f : Nat) (out : List (List Part)) (l : List UInt8) (n : List (List Part)), out.length ≤ 64 → l.length ≤ f → nameGoS f out l = .ok n → ∃ t, n = out ++ t ∧ (∀ r ∈ t, (rdnS r).isSome = true) ∧ (wholesN t).flatten = l ∧ n.length ≤ 64
  | f, out, [], n, ho, hl, h => by
    have h' : (.ok out : Except Int (List (List Part))) = .ok n := by cases f <;> exact h
    cases h'
    exact ⟨[], by simp, by simp, rfl, ho⟩
  | 0, out, x :: t, n, ho, hl, h => by simp at hl
  | f + 1, out, x :: t, n, ho, hl, h => by
    simp only [nameGoS] at h
    split at h
    · cases h
    rename_i h64
    split at h
    · cases h
    rename_i r k hx
    obtain ⟨ws, hb1, hb2, hb3, hb4⟩ := rdnRead_back hx
    obtain ⟨t', rfl, h2, h3, h4⟩ := nameGo_back f (out ++ [r]) _ n (by rw [List.length_append, List.length_singleton]; omega) (by simp only [List.length_drop, List.length_cons] at hl ⊢; omega) h
    refine ⟨r :: t', by simp, fun q hq => ?_, ?_, h4⟩
    · rcases List.mem_cons.1 hq with rfl | hq
      · rw [hb1]; rfl
      · exact h2 q hq
    · have e : wholesN (r :: t') = rdnWhole ws :: wholesN t' := by
        unfold wholesN
        rw [List.map_cons, hb1]
        rfl
      rw [e, List.flatten_cons, h3, ← hb2, List.take_append_drop]
theorem nameParse_back {l : List UInt8} {n : List (List Part)} (h : nameParseS l = .ok n) : nameOk n = true ∧ nameWhole n = l := by
  unfold nameParseS at h
  split at h
  · cases h
  rename_i n' k hr
  split at h
  · cases h
  rename_i hk
  simp only [Except.ok.injEq] at h
  subst h
  unfold nameReadS at hr
  split at hr
  · cases hr
  rename_i x k' hx
  split at hr
  · cases hr
  rename_i n2 hn
  simp only [Except.ok.injEq, Prod.mk.injEq] at hr
  obtain ⟨rfl, rfl⟩ := hr
  obtain ⟨h1, -, h3, -⟩ := open_back hx tag16
  obtain ⟨t, g1, g2, g3, g4⟩ := nameGo_back _ [] x _ (by simp) (Nat.le_refl _) hn
  rw [List.nil_append] at g1
  subst g1
  refine ⟨?_, ?_⟩
  · unfold nameOk
    rw [Bool.and_eq_true]
    exact ⟨decide_eq_true g4, List.all_eq_true.2 g2⟩
  · unfold nameWhole
    rw [g3, ← h1, List.take_of_length_le (by omega)]
theorem rdnGo_fwd : ∀ (t : List Part) (ws : List (List UInt8)) (out : List Part) (last : List UInt8) (f : Nat), stepsS (if out.length = 0 then none else some last) t = some ws → out.length + t.length ≤ 16 → out.length + t.length ≠ 0 → (∀ p ∈ t, p.b.length ≤ 16000000) → ws.flatten.length ≤ f → rdnGoS f out last ws.flatten = .ok (out ++ t)
  | [], ws, out, last, f, h, h16, h0, hb, hf => by
    simp only [stepsS, Option.some.injEq] at h
    subst h
    have e : rdnGoS f out last [] = if out.length = 0 then .error 6 else .ok out := by cases f <;> rfl
    rw [List.flatten_nil, e, if_neg (by simpa using h0), List.append_nil]
  | p :: t, ws, out, last, f, h, h16, h0, hb, hf => by
    obtain ⟨x, ws', h1, h2, rfl, h3⟩ := steps_in h
    obtain ⟨h4, h5⟩ := part_fwd h1 (hb p (List.mem_cons_self ..)) ws'.flatten
    rw [List.flatten_cons] at hf ⊢
    simp only [List.length_cons, List.length_append] at h16 hf
    cases x with
    | nil => exact absurd rfl h5
    | cons y s =>
      simp only [List.length_cons] at hf
      obtain ⟨f, rfl⟩ : ∃ f', f = f' + 1 := ⟨f - 1, by omega⟩
      rw [List.cons_append] at h4 ⊢
      simp only [rdnGoS]
      rw [if_neg (by omega), h4]
      simp only
      have e1 : (y :: (s ++ ws'.flatten)).take (y :: s).length = y :: s := by rw [← List.cons_append, List.take_left]
      have e2 : (y :: (s ++ ws'.flatten)).drop (y :: s).length = ws'.flatten := by rw [← List.cons_append, List.drop_left]
      rw [e1, e2]
      have hc : out.length ≠ 0 → cmpS last (y :: s) < 0 := fun h0 => h3 last (by rw [if_neg h0])
      rw [if_neg (fun hh => by have := hc hh.1; omega), if_neg (fun hh => by have := hc hh.1; omega)]
      rw [rdnGo_fwd t ws' (out ++ [p]) (y :: s) f (by rw [if_neg (by simp)]; exact h2) (by simp; omega) (by simp) (fun q hq => hb q (List.mem_cons_of_mem _ hq)) (by omega)]
      simp
theorem rdnRead_fwd {r : List Part} {ws : List (List UInt8)} (h : rdnS r = some ws) (hb : ∀ p ∈ r, p.b.length ≤ 16000000) (hl : ws.flatten.length ≤ 16777216) (rest : List UInt8) : rdnReadS (rdnWhole ws ++ rest) = .ok (r, (rdnWhole ws).length) := by
  unfold rdnS at h
  split at h
  · cases h
  rename_i hr
  unfold rdnReadS rdnWhole
  rw [open_fwd tag17 hl]
  simp only [rdnSt]
  rw [rdnGo_fwd r ws [] [] _ h (by rw [List.length_nil]; omega) (by rw [List.length_nil]; omega) hb (Nat.le_refl _)]
  rfl
theorem nameGo_fwd : ∀ (t out : List (List Part)) (f : Nat), (∀ r ∈ t, (rdnS r).isSome = true) → (∀ r ∈ t, ∀ p ∈ r, p.b.length ≤ 16000000) → out.length + t.length ≤ 64 → (wholesN t).flatten.length ≤ 16777216 → (wholesN t).flatten.length ≤ f → nameGoS f out (wholesN t).flatten = .ok (out ++ t)
  | [], out, f, _, _, _, _, _ => by
    have e : nameGoS f out [] = .ok out := by cases f <;> rfl
    rw [List.append_nil]
    exact e
  | r :: t, out, f, h, hb, h64, hl, hf => by
    obtain ⟨ws, hws⟩ := Option.isSome_iff_exists.1 (h r (List.mem_cons_self ..))
    have e : wholesN (r :: t) = rdnWhole ws :: wholesN t := by
      unfold wholesN
      rw [List.map_cons, hws]
      rfl
    rw [e, List.flatten_cons] at hl hf ⊢
    rw [List.length_append] at hl hf
    have hwl : (rdnWhole ws).length = 1 + (lenBytes ws.flatten.length).length + ws.flatten.length := wrap_len _ _
    have hx := rdnRead_fwd hws (hb r (List.mem_cons_self ..)) (by omega) (wholesN t).flatten
    generalize hW : rdnWhole ws = W at *
    cases W with
    | nil => simp at hwl; omega
    | cons y s =>
      simp only [List.length_cons] at hf h64
      obtain ⟨f, rfl⟩ : ∃ f', f = f' + 1 := ⟨f - 1, by omega⟩
      rw [List.cons_append] at hx ⊢
      simp only [nameGoS]
      rw [if_neg (by omega), hx]
      simp only
      have e2 : (y :: (s ++ (wholesN t).flatten)).drop (y :: s).length = (wholesN t).flatten := by rw [← List.cons_append, List.drop_left]
      rw [e2, nameGo_fwd t (out ++ [r]) f (fun q hq => h q (List.mem_cons_of_mem _ hq)) (fun q hq => hb q (List.mem_cons_of_mem _ hq)) (by simp; omega) (by omega) (by omega)]
      simp
theorem nameParse_fwd {n : List (List Part)} (h : nameOk n = true) (hb : ∀ r ∈ n, ∀ p ∈ r, p.b.length ≤ 16000000) (hl : (wholesN n).flatten.length ≤ 16777216) : nameParseS (nameWhole n) = .ok n := by
  obtain ⟨h1, h2⟩ := name_rdns h
  have e := open_fwd tag16 hl []
  rw [List.append_nil] at e
  unfold nameParseS nameReadS nameWhole
  rw [e]
  simp only [nameSt]
  rw [nameGo_fwd n [] _ h2 hb (by simpa using h1) hl (Nat.le_refl _)]
  simp
end Go.Q

namespace Go.Q
theorem held_z {α : Type} {o : α} {l : List α} : (o :: l)[0]? = some o := rfl
theorem held_s {α : Type} {a o : α} {l : List α} {i : Nat} (h : l[i]? = some o) : (a :: l)[i + 1]? = some o := h
theorem held_at {α : Type} {o : α} {l : List α} {i : Nat} (h : l[i]? = some o) : l.toArray[i]? = some o := by simpa using h
end Go.Q

namespace Go.Q
open Go Go.RowKit
instance : DecidableEq Part := fun p q => if h : p.o = q.o ∧ p.b = q.b then isTrue (by cases p; cases q; simp_all) else isFalse (fun e => h (by rw [e]; exact ⟨rfl, rfl⟩))
theorem Part.ext2 {p q : Part} (h1 : p.o = q.o) (h2 : p.b = q.b) : p = q := by cases p; cases q; simp_all
theorem take_next {α : Type} {l m : List α} {i : Nat} {x : α} (h : l.take i = m.take i) (h1 : l[i]? = some x) (h2 : m[i]? = some x) : l.take (i + 1) = m.take (i + 1) := by
  rw [List.take_add_one, List.take_add_one, h, h1, h2]
theorem ne_at {α : Type} {l m : List α} {i : Nat} {x y : α} (h1 : l[i]? = some x) (h2 : m[i]? = some y) (h : x ≠ y) : l ≠ m := fun e => by
  subst e
  rw [h1] at h2
  exact h (Option.some.inj h2)
theorem eq_of_take {α : Type} {l m : List α} (h : l.length = m.length) (h1 : l.take l.length = m.take l.length) : l = m := by
  rw [List.take_length] at h1
  rw [h1, h, List.take_length]
end Go.Q
namespace Go.Proofs.YthamenngccaijaaGreatDoor
open Go Go.RowKit Go.Q
set_option linter.unusedSimpArgs false
set_option maxRecDepth 20000 in
set_option maxHeartbeats 8000000 in
theorem r14Like_any (v u : Value) (n m : List (List Part)) (w : World) (h : NameAt w v n) (hu : NameAt w u m) :
    Calls Tryz.prog 13 #[v, u] w fun e w' => e = .returned (.bool (decide (n = m))) ∧ Fr (fun _ => False) w w' := by
  have H := Lib.hid h
  have HU := Lib.hid hu
  obtain ⟨a, cap, rfl, hc, hm, -⟩ := h
  obtain ⟨a', cap', rfl, hc', hm', -⟩ := hu
  have hcm : cap ≤ 9223372036854775807 := by unfold maxLen at hm; omega
  have hcm' : cap' ≤ 9223372036854775807 := by unfold maxLen at hm'; omega
  clear hm hm'
  by_cases hlen : n.length = m.length
  · have q1 : ((n.length : Int) != (m.length : Int)) = false := by simp [hlen]
    have q2 : (n.length != m.length) = false := by simp [hlen]
    have q3 : ((n.length : Int) == (m.length : Int)) = true := by simp [hlen]
    have q4 : (n.length == m.length) = true := by simp [hlen]
    have HLEN := Lib.hid hlen
    clear hlen
    go_enter Tryz.func13, Tryz.ntmps13
    go_wp2_with fail
    clear q1 q2 q3 q4
    go_loopg [5] n.length (fun g ii wr => ∃ i : Nat, g = n.length - i ∧ i ≤ n.length ∧ ii = .int .i64 i ∧ n.take i = m.take i ∧ Fr (fun _ => False) w wr)
    case atStart => exact ⟨0, rfl, Nat.zero_le _, rfl, rfl, Fr.refl _⟩
    case round =>
      obtain ⟨i, hg, hi, rfl, ht, F⟩ := hrel
      have HG := Lib.hid hg
      have HT := Lib.hid ht
      have HF := Lib.hid F
      clear hg ht
      by_cases hil : i < n.length
      · have him : i < m.length := by have := HLEN.out; omega
        obtain ⟨a0, cap0, he, _, _, hx⟩ := H.out
        simp only [Value.slice.injEq, true_and] at he
        obtain ⟨rfl, rfl⟩ := he
        obtain ⟨b, off, rfl, hy⟩ := hx (by omega)
        obtain ⟨r, hr⟩ : ∃ r, n[i]? = some r := ⟨_, List.getElem?_eq_getElem hil⟩
        obtain ⟨x, e0, hA⟩ := hy i r hr
        clear hx hy
        obtain ⟨a0, cap0, he, _, _, hx⟩ := HU.out
        simp only [Value.slice.injEq, true_and] at he
        obtain ⟨rfl, rfl⟩ := he
        obtain ⟨b', off', rfl, hy⟩ := hx (by omega)
        obtain ⟨s, hs⟩ : ∃ s, m[i]? = some s := ⟨_, List.getElem?_eq_getElem him⟩
        obtain ⟨y, e0', hA'⟩ := hy i s hs
        clear hx hy
        have HRI := Lib.hid hr
        have HSI := Lib.hid hs
        have HA := Lib.hid hA
        have HA' := Lib.hid hA'
        obtain ⟨ar, cr, rfl, hcr, hmr, -⟩ := hA
        obtain ⟨a2, cs, rfl, hcs, hms, -⟩ := hA'
        have hcr2 : cr ≤ 9223372036854775807 := by unfold maxLen at hmr; omega
        have hcs2 : cs ≤ 9223372036854775807 := by unfold maxLen at hms; omega
        have HE0 := Lib.hid e0
        have HE0' := Lib.hid e0'
        have e0w := F.cell e0 (fun h => h)
        have e0w' := F.cell e0' (fun h => h)
        have r1 : (0 : Int) ≤ (i : Int) := by omega
        have r2 : (i : Int) < (n.length : Int) := by omega
        have r3 : (i : Int) < (m.length : Int) := by omega
        clear hr hs F hmr hms e0 e0'
        by_cases hl2 : r.length = s.length
        · have q1 : ((r.length : Int) != (s.length : Int)) = false := by simp [hl2]
          have q2 : (r.length != s.length) = false := by simp [hl2]
          have q3 : ((r.length : Int) == (s.length : Int)) = true := by simp [hl2]
          have q4 : (r.length == s.length) = true := by simp [hl2]
          have HL2 := Lib.hid hl2
          clear hl2
          go_upto_region 6 with fail
          go_quiet (fail)
          have HF1 := Lib.hid (HF.out.drewN nq)
          generalize (wr.drewN nq) = w1 at *
          go_wp2_with fail
          clear q1 q2 q3 q4 e0w e0w'
          go_loopg [6] r.length (fun g kk wr => ∃ k : Nat, g = r.length - k ∧ k ≤ r.length ∧ kk = .int .i64 k ∧ r.take k = s.take k ∧ Fr (fun _ => False) w wr)
          case atStart => exact ⟨0, rfl, Nat.zero_le _, rfl, rfl, HF1.out⟩
          case round =>
            obtain ⟨k, hg, hk, rfl, ht, F⟩ := hrel
            have HG2 := Lib.hid hg
            have HT2 := Lib.hid ht
            have HF2 := Lib.hid F
            have e0w := F.cell HE0.out (fun h => h)
            have e0w' := F.cell HE0'.out (fun h => h)
            clear hg ht
            by_cases hkl : k < r.length
            · have hks : k < s.length := by have := HL2.out; omega
              obtain ⟨a0, cap0, he, _, _, hx⟩ := HA.out
              simp only [Value.slice.injEq, true_and] at he
              obtain ⟨rfl, rfl⟩ := he
              obtain ⟨b1, o1, rfl, hy⟩ := hx (by omega)
              obtain ⟨p, hp⟩ : ∃ p, r[k]? = some p := ⟨_, List.getElem?_eq_getElem hkl⟩
              obtain ⟨x, y, e1, e2, hpx, hpy⟩ := hy k p hp
              clear hx hy
              obtain ⟨a0, cap0, he, _, _, hx⟩ := HA'.out
              simp only [Value.slice.injEq, true_and] at he
              obtain ⟨rfl, rfl⟩ := he
              obtain ⟨b2, o2, rfl, hy⟩ := hx (by omega)
              obtain ⟨q, hq⟩ : ∃ q, s[k]? = some q := ⟨_, List.getElem?_eq_getElem hks⟩
              obtain ⟨x', y', e1', e2', hqx, hqy⟩ := hy k q hq
              clear hx hy
              rw [Nat.mul_comm] at e1 e2 e1' e2'
              obtain ⟨ax, cx, rfl, -⟩ := Ints.form hpx
              obtain ⟨ay, cy, rfl, -⟩ := Vals.form hpy
              obtain ⟨ax', cx', rfl, -⟩ := Ints.form hqx
              obtain ⟨ay', cy', rfl, -⟩ := Vals.form hqy
              have hS : ∀ w', Fr (fun _ => False) w w' → w'.cell? ⟨b, off + i, none⟩ = some (.slice (some ⟨b1, o1, none⟩) r.length cr) ∧ w'.cell? ⟨b', off' + i, none⟩ = some (.slice (some ⟨b2, o2, none⟩) s.length cs) ∧ w'.cell? ⟨b1, o1 + k * 2, none⟩ = some (.slice ax p.o.length cx) ∧ w'.cell? ⟨b1, o1 + k * 2 + 1, none⟩ = some (.slice ay p.b.length cy) ∧ w'.cell? ⟨b2, o2 + k * 2, none⟩ = some (.slice ax' q.o.length cx') ∧ w'.cell? ⟨b2, o2 + k * 2 + 1, none⟩ = some (.slice ay' q.b.length cy') := fun w' f => ⟨f.cell HE0.out (fun h => h), f.cell HE0'.out (fun h => h), f.cell e1 (fun h => h), f.cell e2 (fun h => h), f.cell e1' (fun h => h), f.cell e2' (fun h => h)⟩
              have HS := Lib.hid hS
              obtain ⟨d1, hd1⟩ : ∃ d1, decide (p.o = q.o) = d1 := ⟨_, rfl⟩
              obtain ⟨d2, hd2⟩ : ∃ d2, decide (p.b = q.b) = d2 := ⟨_, rfl⟩
              have hc1 : ∀ W, Fr (fun _ => False) w W → Calls Tryz.prog 64 #[.slice ax p.o.length cx, .slice ax' q.o.length cx'] W fun e w' => e = .returned (.bool d1) ∧ Fr (fun _ => False) W w' := fun W f => by
                have := r04Same_any _ _ p.o q.o W (hpx.old f) (hqx.old f)
                rw [hd1] at this
                exact this
              have hc2 : ∀ W, Fr (fun _ => False) w W → Calls Tryz.prog 15 #[.slice ay p.b.length cy, .slice ay' q.b.length cy'] W fun e w' => e = .returned (.bool d2) ∧ Fr (fun _ => False) W w' := fun W f => by
                have := r01Same_any _ _ p.b q.b W (hpy.old f) (hqy.old f)
                rw [hd2] at this
                exact this
              have HC1 := Lib.hid hc1
              have HC2 := Lib.hid hc2
              have HD1 := Lib.hid hd1
              have HD2 := Lib.hid hd2
              have HPI := Lib.hid hp
              have HQI := Lib.hid hq
              have s1 : (0 : Int) ≤ (k : Int) := by omega
              have s2 : (k : Int) < (r.length : Int) := by omega
              have s3 : (k : Int) < (s.length : Int) := by omega
              clear hp hq e1 e2 e1' e2' hpx hpy hqx hqy hS hc1 hc2 hd1 hd2
              go_upto_region 11 with fail
              clear e0w e0w'
              have G : Fr (fun _ => False) w wr.drew := F.drew
              clear F
              cases d1 with
              | false =>
                have hne : n ≠ m := ne_at HRI.out HSI.out (ne_at HPI.out HQI.out (fun e => by have := of_decide_eq_false HD1.out; rw [e] at this; exact this rfl))
                have HNE := Lib.hid (decide_eq_false hne)
                clear hne
                refine wp_region_held_drew (S := (fun w' => w'.cell? ⟨b, off + i, none⟩ = some (.slice (some ⟨b1, o1, none⟩) r.length cr) ∧ w'.cell? ⟨b', off' + i, none⟩ = some (.slice (some ⟨b2, o2, none⟩) s.length cs) ∧ w'.cell? ⟨b1, o1 + k * 2, none⟩ = some (.slice ax p.o.length cx) ∧ w'.cell? ⟨b1, o1 + k * 2 + 1, none⟩ = some (.slice ay p.b.length cy) ∧ w'.cell? ⟨b2, o2 + k * 2, none⟩ = some (.slice ax' q.o.length cx') ∧ w'.cell? ⟨b2, o2 + k * 2 + 1, none⟩ = some (.slice ay' q.b.length cy'))) (by kernel_rfl) ?_ (fun hHeld => ?_)
                · exact HS.out _ G
                refine wpAnyH_take (i := 0) (v := ?vr0) (held_at held_z) (by kernel_rfl) (by kernel_rfl) (by kernel_rfl) (fun _ _ _ h => h) (Or.inl ⟨by rfl, ?hyr0⟩) (by assumption) ?restr0
                case hyr0 => intro w9 hSw; (try dsimp only at hSw); go_simp; all_goals with_reducible rfl
                try simp only [Act.put, List.setIfInBounds_toArray, List.set_cons_zero, List.set_cons_succ]
                refine wpAnyH_take (i := 1) (v := ?vr1) (held_at (held_s held_z)) (by kernel_rfl) (by kernel_rfl) (by kernel_rfl) (fun _ _ _ h => h) (Or.inl ⟨by rfl, ?hyr1⟩) (by assumption) ?restr1
                case hyr1 => intro w9 hSw; (try dsimp only at hSw); go_simp; all_goals with_reducible rfl
                try simp only [Act.put, List.setIfInBounds_toArray, List.set_cons_zero, List.set_cons_succ]
                refine wpAnyH_take (i := 2) (v := ?vr2) (held_at (held_s (held_s held_z))) (by kernel_rfl) (by kernel_rfl) (by kernel_rfl) (fun _ _ _ h => h) (Or.inl ⟨by rfl, ?hyr2⟩) (by assumption) ?restr2
                case hyr2 => intro w9 hSw; (try dsimp only at hSw); go_simp; all_goals with_reducible rfl
                try simp only [Act.put, List.setIfInBounds_toArray, List.set_cons_zero, List.set_cons_succ]
                refine wpAnyH_take (i := 3) (v := ?vr3) (held_at (held_s (held_s (held_s held_z)))) (by kernel_rfl) (by kernel_rfl) (by kernel_rfl) (fun _ _ _ h => h) (Or.inl ⟨by rfl, ?hyr3⟩) (by assumption) ?restr3
                case hyr3 => intro w9 hSw; (try dsimp only at hSw); go_simp; all_goals with_reducible rfl
                try simp only [Act.put, List.setIfInBounds_toArray, List.set_cons_zero, List.set_cons_succ]
                refine wpAnyH_take (i := 4) (v := ?vr4) (held_at (held_s (held_s (held_s (held_s held_z))))) (by kernel_rfl) (by kernel_rfl) (by kernel_rfl) (fun _ _ _ h => h) (Or.inl ⟨by rfl, ?hyr4⟩) (by assumption) ?restr4
                case hyr4 => intro w9 hSw; (try dsimp only at hSw); go_simp; all_goals with_reducible rfl
                try simp only [Act.put, List.setIfInBounds_toArray, List.set_cons_zero, List.set_cons_succ]
                refine wpAnyH_take (i := 5) (v := ?vr5) (held_at (held_s (held_s (held_s (held_s (held_s held_z)))))) (by kernel_rfl) (by kernel_rfl) (by kernel_rfl) (fun _ _ _ h => h) (Or.inl ⟨by rfl, ?hyr5⟩) (by assumption) ?restr5
                case hyr5 => intro w9 hSw; (try dsimp only at hSw); go_simp; all_goals with_reducible rfl
                try simp only [Act.put, List.setIfInBounds_toArray, List.set_cons_zero, List.set_cons_succ]
                refine wpAnyH_take (i := 6) (v := ?vr6) (held_at (held_s (held_s (held_s (held_s (held_s (held_s held_z))))))) (by kernel_rfl) (by kernel_rfl) (by kernel_rfl) (fun _ _ _ h => h) (Or.inl ⟨by rfl, ?hyr6⟩) (by assumption) ?restr6
                case hyr6 => intro w9 hSw; (try dsimp only at hSw); go_simp; all_goals with_reducible rfl
                try simp only [Act.put, List.setIfInBounds_toArray, List.set_cons_zero, List.set_cons_succ]
                refine wpAnyH_take (i := 7) (v := ?vr7) (held_at (held_s (held_s (held_s (held_s (held_s (held_s (held_s held_z)))))))) (by kernel_rfl) (by kernel_rfl) (by kernel_rfl) (fun _ _ _ h => h) (Or.inl ⟨by rfl, ?hyr7⟩) (by assumption) ?restr7
                case hyr7 => intro w9 hSw; (try dsimp only at hSw); go_simp; all_goals with_reducible rfl
                try simp only [Act.put, List.setIfInBounds_toArray, List.set_cons_zero, List.set_cons_succ]
                refine wpAnyH_take (i := 8) (v := ?vr8) (held_at (held_s (held_s (held_s (held_s (held_s (held_s (held_s (held_s held_z))))))))) (by kernel_rfl) (by kernel_rfl) (by kernel_rfl) (fun _ _ _ h => h) (Or.inl ⟨by rfl, ?hyr8⟩) (by assumption) ?restr8
                case hyr8 => intro w9 hSw; (try dsimp only at hSw); go_simp; all_goals with_reducible rfl
                try simp only [Act.put, List.setIfInBounds_toArray, List.set_cons_zero, List.set_cons_succ]
                refine wpAnyH_take (i := 9) (v := ?vr9) (held_at (held_s (held_s (held_s (held_s (held_s (held_s (held_s (held_s (held_s held_z)))))))))) (by kernel_rfl) (by kernel_rfl) (by kernel_rfl) (fun _ _ _ h => h) (Or.inl ⟨by rfl, ?hyr9⟩) (by assumption) ?restr9
                case hyr9 => intro w9 hSw; (try dsimp only at hSw); go_simp; all_goals with_reducible rfl
                try simp only [Act.put, List.setIfInBounds_toArray, List.set_cons_zero, List.set_cons_succ]
                refine wpAnyH_take (i := 10) (v := ?vr10) (held_at (held_s (held_s (held_s (held_s (held_s (held_s (held_s (held_s (held_s (held_s held_z))))))))))) (by kernel_rfl) (by kernel_rfl) (by kernel_rfl) (fun _ _ _ h => h) (Or.inl ⟨by rfl, ?hyr10⟩) (by assumption) ?restr10
                case hyr10 => intro w9 hSw; (try dsimp only at hSw); go_simp; all_goals with_reducible rfl
                try simp only [Act.put, List.setIfInBounds_toArray, List.set_cons_zero, List.set_cons_succ]
                refine wpAnyH_take (i := 11) (v := ?vr11) (held_at (held_s (held_s (held_s (held_s (held_s (held_s (held_s (held_s (held_s (held_s (held_s held_z)))))))))))) (by kernel_rfl) (by kernel_rfl) (by kernel_rfl) (fun _ _ _ h => h) (Or.inl ⟨by rfl, ?hyr11⟩) (by assumption) ?restr11
                case hyr11 => intro w9 hSw; (try dsimp only at hSw); go_simp; all_goals with_reducible rfl
                try simp only [Act.put, List.setIfInBounds_toArray, List.set_cons_zero, List.set_cons_succ]
                refine wpAnyH_take (i := 12) (v := ?vr12) (held_at (held_s (held_s (held_s (held_s (held_s (held_s (held_s (held_s (held_s (held_s (held_s (held_s held_z))))))))))))) (by kernel_rfl) (by kernel_rfl) (by kernel_rfl) (fun _ _ _ h => h) (Or.inl ⟨by rfl, ?hyr12⟩) (by assumption) ?restr12
                case hyr12 => intro w9 hSw; (try dsimp only at hSw); go_simp; all_goals with_reducible rfl
                try simp only [Act.put, List.setIfInBounds_toArray, List.set_cons_zero, List.set_cons_succ]
                refine wpAnyH_take (i := 13) (v := ?vr13) (held_at (held_s (held_s (held_s (held_s (held_s (held_s (held_s (held_s (held_s (held_s (held_s (held_s (held_s held_z)))))))))))))) (by kernel_rfl) (by kernel_rfl) (by kernel_rfl) (fun _ _ _ h => h) (Or.inl ⟨by rfl, ?hyr13⟩) (by assumption) ?restr13
                case hyr13 => intro w9 hSw; (try dsimp only at hSw); go_simp; all_goals with_reducible rfl
                try simp only [Act.put, List.setIfInBounds_toArray, List.set_cons_zero, List.set_cons_succ]
                refine wpAnyH_take (i := 14) (v := ?vr14) (held_at (held_s (held_s (held_s (held_s (held_s (held_s (held_s (held_s (held_s (held_s (held_s (held_s (held_s (held_s held_z))))))))))))))) (by kernel_rfl) (by kernel_rfl) (by kernel_rfl) (fun _ _ _ h => h) (Or.inl ⟨by rfl, ?hyr14⟩) (by assumption) ?restr14
                case hyr14 => intro w9 hSw; (try dsimp only at hSw); go_simp; all_goals with_reducible rfl
                try simp only [Act.put, List.setIfInBounds_toArray, List.set_cons_zero, List.set_cons_succ]
                refine wpAnyH_take (i := 15) (v := ?vr15) (held_at (held_s (held_s (held_s (held_s (held_s (held_s (held_s (held_s (held_s (held_s (held_s (held_s (held_s (held_s (held_s held_z)))))))))))))))) (by kernel_rfl) (by kernel_rfl) (by kernel_rfl) (fun _ _ _ h => h) (Or.inl ⟨by rfl, ?hyr15⟩) (by assumption) ?restr15
                case hyr15 => intro w9 hSw; (try dsimp only at hSw); go_simp; all_goals with_reducible rfl
                try simp only [Act.put, List.setIfInBounds_toArray, List.set_cons_zero, List.set_cons_succ]
                refine wpAnyH_ready (rs := [16]) (by kernel_rfl) (by simp) ?_
                refine AllReadyH.cons (held_at (held_s (held_s (held_s (held_s (held_s (held_s (held_s (held_s (held_s (held_s (held_s (held_s (held_s (held_s (held_s (held_s held_z))))))))))))))))) (fun K hK => ?_) AllReadyH.nil
                go_simp
                go_at_call 64; (with_reducible refine (HC1.out _ G).mono ?_); rintro e w' ⟨rfl, F⟩; replace G := G.trans F
                try go_wp2_with fail
                refine hK.out _ _ ?_ (fun hHeld => ?_)
                · exact HS.out _ G
                clear hK K
                try simp only [Act.put, List.setIfInBounds_toArray, List.set_cons_zero, List.set_cons_succ]
                refine wpAnyH_take (i := 17) (v := ?vr17) (held_at (held_s (held_s (held_s (held_s (held_s (held_s (held_s (held_s (held_s (held_s (held_s (held_s (held_s (held_s (held_s (held_s (held_s held_z)))))))))))))))))) (by kernel_rfl) (by kernel_rfl) (by kernel_rfl) (fun _ _ _ h => h) (Or.inl ⟨by rfl, ?hyr17⟩) (by assumption) ?restr17
                case hyr17 => intro w9 hSw; (try dsimp only at hSw); go_simp; all_goals with_reducible rfl
                try simp only [Act.put, List.setIfInBounds_toArray, List.set_cons_zero, List.set_cons_succ]
                refine wpAnyH_take (i := 18) (v := ?vr18) (held_at (held_s (held_s (held_s (held_s (held_s (held_s (held_s (held_s (held_s (held_s (held_s (held_s (held_s (held_s (held_s (held_s (held_s (held_s held_z))))))))))))))))))) (by kernel_rfl) (by kernel_rfl) (by kernel_rfl) (fun _ _ _ h => h) (Or.inl ⟨by rfl, ?hyr18⟩) (by assumption) ?restr18
                case hyr18 => intro w9 hSw; (try dsimp only at hSw); go_simp; all_goals with_reducible rfl
                try simp only [Act.put, List.setIfInBounds_toArray, List.set_cons_zero, List.set_cons_succ]
                refine wpAnyH_take (i := 19) (v := undef) (held_at (held_s (held_s (held_s (held_s (held_s (held_s (held_s (held_s (held_s (held_s (held_s (held_s (held_s (held_s (held_s (held_s (held_s (held_s (held_s held_z)))))))))))))))))))) (by kernel_rfl) (by kernel_rfl) (by kernel_rfl) (fun _ _ _ h => h) (Or.inr ⟨by rfl, rfl⟩) (by assumption) ?_
                try simp only [Act.put, List.setIfInBounds_toArray, List.set_cons_zero, List.set_cons_succ]
                refine wpAnyH_take (i := 20) (v := undef) (held_at (held_s (held_s (held_s (held_s (held_s (held_s (held_s (held_s (held_s (held_s (held_s (held_s (held_s (held_s (held_s (held_s (held_s (held_s (held_s (held_s held_z))))))))))))))))))))) (by kernel_rfl) (by kernel_rfl) (by kernel_rfl) (fun _ _ _ h => h) (Or.inr ⟨by rfl, rfl⟩) (by assumption) ?_
                try simp only [Act.put, List.setIfInBounds_toArray, List.set_cons_zero, List.set_cons_succ]
                refine wpAnyH_take (i := 21) (v := undef) (held_at (held_s (held_s (held_s (held_s (held_s (held_s (held_s (held_s (held_s (held_s (held_s (held_s (held_s (held_s (held_s (held_s (held_s (held_s (held_s (held_s (held_s held_z)))))))))))))))))))))) (by kernel_rfl) (by kernel_rfl) (by kernel_rfl) (fun _ _ _ h => h) (Or.inr ⟨by rfl, rfl⟩) (by assumption) ?_
                try simp only [Act.put, List.setIfInBounds_toArray, List.set_cons_zero, List.set_cons_succ]
                refine wpAnyH_take (i := 22) (v := undef) (held_at (held_s (held_s (held_s (held_s (held_s (held_s (held_s (held_s (held_s (held_s (held_s (held_s (held_s (held_s (held_s (held_s (held_s (held_s (held_s (held_s (held_s (held_s held_z))))))))))))))))))))))) (by kernel_rfl) (by kernel_rfl) (by kernel_rfl) (fun _ _ _ h => h) (Or.inr ⟨by rfl, rfl⟩) (by assumption) ?_
                try simp only [Act.put, List.setIfInBounds_toArray, List.set_cons_zero, List.set_cons_succ]
                refine wpAnyH_take (i := 23) (v := undef) (held_at (held_s (held_s (held_s (held_s (held_s (held_s (held_s (held_s (held_s (held_s (held_s (held_s (held_s (held_s (held_s (held_s (held_s (held_s (held_s (held_s (held_s (held_s (held_s held_z)))))))))))))))))))))))) (by kernel_rfl) (by kernel_rfl) (by kernel_rfl) (fun _ _ _ h => h) (Or.inr ⟨by rfl, rfl⟩) (by assumption) ?_
                try simp only [Act.put, List.setIfInBounds_toArray, List.set_cons_zero, List.set_cons_succ]
                refine wpAnyH_take (i := 24) (v := undef) (held_at (held_s (held_s (held_s (held_s (held_s (held_s (held_s (held_s (held_s (held_s (held_s (held_s (held_s (held_s (held_s (held_s (held_s (held_s (held_s (held_s (held_s (held_s (held_s (held_s held_z))))))))))))))))))))))))) (by kernel_rfl) (by kernel_rfl) (by kernel_rfl) (fun _ _ _ h => h) (Or.inr ⟨by rfl, rfl⟩) (by assumption) ?_
                try simp only [Act.put, List.setIfInBounds_toArray, List.set_cons_zero, List.set_cons_succ]
                refine wpAnyH_take (i := 25) (v := undef) (held_at (held_s (held_s (held_s (held_s (held_s (held_s (held_s (held_s (held_s (held_s (held_s (held_s (held_s (held_s (held_s (held_s (held_s (held_s (held_s (held_s (held_s (held_s (held_s (held_s (held_s held_z)))))))))))))))))))))))))) (by kernel_rfl) (by kernel_rfl) (by kernel_rfl) (fun _ _ _ h => h) (Or.inr ⟨by rfl, rfl⟩) (by assumption) ?_
                try simp only [Act.put, List.setIfInBounds_toArray, List.set_cons_zero, List.set_cons_succ]
                refine wpAnyH_take (i := 26) (v := undef) (held_at (held_s (held_s (held_s (held_s (held_s (held_s (held_s (held_s (held_s (held_s (held_s (held_s (held_s (held_s (held_s (held_s (held_s (held_s (held_s (held_s (held_s (held_s (held_s (held_s (held_s (held_s held_z))))))))))))))))))))))))))) (by kernel_rfl) (by kernel_rfl) (by kernel_rfl) (fun _ _ _ h => h) (Or.inr ⟨by rfl, rfl⟩) (by assumption) ?_
                try simp only [Act.put, List.setIfInBounds_toArray, List.set_cons_zero, List.set_cons_succ]
                refine wpAnyH_take (i := 27) (v := undef) (held_at (held_s (held_s (held_s (held_s (held_s (held_s (held_s (held_s (held_s (held_s (held_s (held_s (held_s (held_s (held_s (held_s (held_s (held_s (held_s (held_s (held_s (held_s (held_s (held_s (held_s (held_s (held_s held_z)))))))))))))))))))))))))))) (by kernel_rfl) (by kernel_rfl) (by kernel_rfl) (fun _ _ _ h => h) (Or.inr ⟨by rfl, rfl⟩) (by assumption) ?_
                try simp only [Act.put, List.setIfInBounds_toArray, List.set_cons_zero, List.set_cons_succ]
                refine wpAnyH_take (i := 28) (v := undef) (held_at (held_s (held_s (held_s (held_s (held_s (held_s (held_s (held_s (held_s (held_s (held_s (held_s (held_s (held_s (held_s (held_s (held_s (held_s (held_s (held_s (held_s (held_s (held_s (held_s (held_s (held_s (held_s (held_s held_z))))))))))))))))))))))))))))) (by kernel_rfl) (by kernel_rfl) (by kernel_rfl) (fun _ _ _ h => h) (Or.inr ⟨by rfl, rfl⟩) (by assumption) ?_
                try simp only [Act.put, List.setIfInBounds_toArray, List.set_cons_zero, List.set_cons_succ]
                refine wpAnyH_take (i := 29) (v := undef) (held_at (held_s (held_s (held_s (held_s (held_s (held_s (held_s (held_s (held_s (held_s (held_s (held_s (held_s (held_s (held_s (held_s (held_s (held_s (held_s (held_s (held_s (held_s (held_s (held_s (held_s (held_s (held_s (held_s (held_s held_z)))))))))))))))))))))))))))))) (by kernel_rfl) (by kernel_rfl) (by kernel_rfl) (fun _ _ _ h => h) (Or.inr ⟨by rfl, rfl⟩) (by assumption) ?_
                try simp only [Act.put, List.setIfInBounds_toArray, List.set_cons_zero, List.set_cons_succ]
                refine wpAnyH_take (i := 30) (v := undef) (held_at (held_s (held_s (held_s (held_s (held_s (held_s (held_s (held_s (held_s (held_s (held_s (held_s (held_s (held_s (held_s (held_s (held_s (held_s (held_s (held_s (held_s (held_s (held_s (held_s (held_s (held_s (held_s (held_s (held_s (held_s held_z))))))))))))))))))))))))))))))) (by kernel_rfl) (by kernel_rfl) (by kernel_rfl) (fun _ _ _ h => h) (Or.inr ⟨by rfl, rfl⟩) (by assumption) ?_
                try simp only [Act.put, List.setIfInBounds_toArray, List.set_cons_zero, List.set_cons_succ]
                refine wpAnyH_take (i := 31) (v := undef) (held_at (held_s (held_s (held_s (held_s (held_s (held_s (held_s (held_s (held_s (held_s (held_s (held_s (held_s (held_s (held_s (held_s (held_s (held_s (held_s (held_s (held_s (held_s (held_s (held_s (held_s (held_s (held_s (held_s (held_s (held_s (held_s held_z)))))))))))))))))))))))))))))))) (by kernel_rfl) (by kernel_rfl) (by kernel_rfl) (fun _ _ _ h => h) (Or.inr ⟨by rfl, rfl⟩) (by assumption) ?_
                try simp only [Act.put, List.setIfInBounds_toArray, List.set_cons_zero, List.set_cons_succ]
                refine wpAnyH_take (i := 32) (v := undef) (held_at (held_s (held_s (held_s (held_s (held_s (held_s (held_s (held_s (held_s (held_s (held_s (held_s (held_s (held_s (held_s (held_s (held_s (held_s (held_s (held_s (held_s (held_s (held_s (held_s (held_s (held_s (held_s (held_s (held_s (held_s (held_s (held_s held_z))))))))))))))))))))))))))))))))) (by kernel_rfl) (by kernel_rfl) (by kernel_rfl) (fun _ _ _ h => h) (Or.inr ⟨by rfl, rfl⟩) (by assumption) ?_
                try simp only [Act.put, List.setIfInBounds_toArray, List.set_cons_zero, List.set_cons_succ]
                refine wpAnyH_take (i := 33) (v := undef) (held_at (held_s (held_s (held_s (held_s (held_s (held_s (held_s (held_s (held_s (held_s (held_s (held_s (held_s (held_s (held_s (held_s (held_s (held_s (held_s (held_s (held_s (held_s (held_s (held_s (held_s (held_s (held_s (held_s (held_s (held_s (held_s (held_s (held_s held_z)))))))))))))))))))))))))))))))))) (by kernel_rfl) (by kernel_rfl) (by kernel_rfl) (fun _ _ _ h => h) (Or.inr ⟨by rfl, rfl⟩) (by assumption) ?_
                try simp only [Act.put, List.setIfInBounds_toArray, List.set_cons_zero, List.set_cons_succ]
                refine wpAnyH_take (i := 34) (v := undef) (held_at (held_s (held_s (held_s (held_s (held_s (held_s (held_s (held_s (held_s (held_s (held_s (held_s (held_s (held_s (held_s (held_s (held_s (held_s (held_s (held_s (held_s (held_s (held_s (held_s (held_s (held_s (held_s (held_s (held_s (held_s (held_s (held_s (held_s (held_s held_z))))))))))))))))))))))))))))))))))) (by kernel_rfl) (by kernel_rfl) (by kernel_rfl) (fun _ _ _ h => h) (Or.inr ⟨by rfl, rfl⟩) (by assumption) ?_
                try simp only [Act.put, List.setIfInBounds_toArray, List.set_cons_zero, List.set_cons_succ]
                refine wpAnyH_take (i := 35) (v := undef) (held_at (held_s (held_s (held_s (held_s (held_s (held_s (held_s (held_s (held_s (held_s (held_s (held_s (held_s (held_s (held_s (held_s (held_s (held_s (held_s (held_s (held_s (held_s (held_s (held_s (held_s (held_s (held_s (held_s (held_s (held_s (held_s (held_s (held_s (held_s (held_s held_z)))))))))))))))))))))))))))))))))))) (by kernel_rfl) (by kernel_rfl) (by kernel_rfl) (fun _ _ _ h => h) (Or.inr ⟨by rfl, rfl⟩) (by assumption) ?_
                try simp only [Act.put, List.setIfInBounds_toArray, List.set_cons_zero, List.set_cons_succ]
                refine wpAnyH_take (i := 36) (v := undef) (held_at (held_s (held_s (held_s (held_s (held_s (held_s (held_s (held_s (held_s (held_s (held_s (held_s (held_s (held_s (held_s (held_s (held_s (held_s (held_s (held_s (held_s (held_s (held_s (held_s (held_s (held_s (held_s (held_s (held_s (held_s (held_s (held_s (held_s (held_s (held_s (held_s held_z))))))))))))))))))))))))))))))))))))) (by kernel_rfl) (by kernel_rfl) (by kernel_rfl) (fun _ _ _ h => h) (Or.inr ⟨by rfl, rfl⟩) (by assumption) ?_
                try simp only [Act.put, List.setIfInBounds_toArray, List.set_cons_zero, List.set_cons_succ]
                refine wpAnyH_take (i := 37) (v := ?vr37) (held_at (held_s (held_s (held_s (held_s (held_s (held_s (held_s (held_s (held_s (held_s (held_s (held_s (held_s (held_s (held_s (held_s (held_s (held_s (held_s (held_s (held_s (held_s (held_s (held_s (held_s (held_s (held_s (held_s (held_s (held_s (held_s (held_s (held_s (held_s (held_s (held_s (held_s held_z)))))))))))))))))))))))))))))))))))))) (by kernel_rfl) (by kernel_rfl) (by kernel_rfl) (fun _ _ _ h => h) (Or.inl ⟨by rfl, ?hyr37⟩) (by assumption) ?restr37
                case hyr37 => intro w9 hSw; (try dsimp only at hSw); go_simp; all_goals with_reducible rfl
                try simp only [Act.put, List.setIfInBounds_toArray, List.set_cons_zero, List.set_cons_succ]
                refine wpAnyH_done (by kernel_rfl) ?_ _
                all_goals
                  go_wp2_with fail
                  go_ret
                  exact ⟨by rw [HNE.out]; rfl, G⟩
              | true =>
                cases d2 with
                | false =>
                  have hne : n ≠ m := ne_at HRI.out HSI.out (ne_at HPI.out HQI.out (fun e => by have := of_decide_eq_false HD2.out; rw [e] at this; exact this rfl))
                  have HNE := Lib.hid (decide_eq_false hne)
                  clear hne
                  go_region_held3 (fun w' => w'.cell? ⟨b, off + i, none⟩ = some (.slice (some ⟨b1, o1, none⟩) r.length cr) ∧ w'.cell? ⟨b', off' + i, none⟩ = some (.slice (some ⟨b2, o2, none⟩) s.length cs) ∧ w'.cell? ⟨b1, o1 + k * 2, none⟩ = some (.slice ax p.o.length cx) ∧ w'.cell? ⟨b1, o1 + k * 2 + 1, none⟩ = some (.slice ay p.b.length cy) ∧ w'.cell? ⟨b2, o2 + k * 2, none⟩ = some (.slice ax' q.o.length cx') ∧ w'.cell? ⟨b2, o2 + k * 2 + 1, none⟩ = some (.slice ay' q.b.length cy')) (exact HS.out _ G) (first
                    | (go_at_call 64; refine (HC1.out _ G).mono ?_; rintro e w' ⟨rfl, F⟩; replace G := G.trans F)
                    | (go_at_call 15; refine (HC2.out _ G).mono ?_; rintro e w' ⟨rfl, F⟩; replace G := G.trans F))
                  all_goals
                    go_wp2_with fail
                    go_ret
                    exact ⟨by rw [HNE.out]; rfl, G⟩
                | true =>
                  have hpq : p = q := Part.ext2 (of_decide_eq_true HD1.out) (of_decide_eq_true HD2.out)
                  have HNT := Lib.hid (take_next HT2.out HPI.out (by rw [hpq]; exact HQI.out))
                  clear hpq
                  go_region_held3 (fun w' => w'.cell? ⟨b, off + i, none⟩ = some (.slice (some ⟨b1, o1, none⟩) r.length cr) ∧ w'.cell? ⟨b', off' + i, none⟩ = some (.slice (some ⟨b2, o2, none⟩) s.length cs) ∧ w'.cell? ⟨b1, o1 + k * 2, none⟩ = some (.slice ax p.o.length cx) ∧ w'.cell? ⟨b1, o1 + k * 2 + 1, none⟩ = some (.slice ay p.b.length cy) ∧ w'.cell? ⟨b2, o2 + k * 2, none⟩ = some (.slice ax' q.o.length cx') ∧ w'.cell? ⟨b2, o2 + k * 2 + 1, none⟩ = some (.slice ay' q.b.length cy')) (exact HS.out _ G) (first
                    | (go_at_call 64; refine (HC1.out _ G).mono ?_; rintro e w' ⟨rfl, F⟩; replace G := G.trans F)
                    | (go_at_call 15; refine (HC2.out _ G).mono ?_; rintro e w' ⟨rfl, F⟩; replace G := G.trans F))
                  all_goals
                    go_wp2_with fail
                    go_roundg (r.length - (k + 1))
                    case measure => rw [HG2.out]; omega
                    case rel => exact ⟨k + 1, rfl, by omega, by go_num, HNT.out, G⟩
            · obtain rfl : k = r.length := by omega
              have hrs : r = s := eq_of_take HL2.out HT2.out
              have HNT := Lib.hid (take_next HT.out HRI.out (by rw [hrs]; exact HSI.out))
              clear hrs
              go_wp2_with fail
              go_roundg (n.length - (i + 1))
              case measure => rw [HG.out]; omega
              case rel => exact ⟨i + 1, rfl, by omega, by go_num, HNT.out, F⟩
        · have q1 : ((r.length : Int) != (s.length : Int)) = true := by simp; omega
          have q2 : (r.length != s.length) = true := by simpa using hl2
          have q3 : ((r.length : Int) == (s.length : Int)) = false := by simp; omega
          have q4 : (r.length == s.length) = false := by simpa using hl2
          have hne : n ≠ m := ne_at HRI.out HSI.out (fun e => hl2 (by rw [e]))
          have HNE := Lib.hid (decide_eq_false hne)
          clear hne hl2
          go_upto_region 6 with fail
          go_quiet (fail)
          have HF1 := Lib.hid (HF.out.drewN nq)
          generalize (wr.drewN nq) = w1 at *
          go_wp2_with fail
          go_ret
          exact ⟨by rw [HNE.out]; rfl, HF1.out⟩
      · obtain rfl : i = n.length := by omega
        have hnm : n = m := eq_of_take HLEN.out HT.out
        have HNM := Lib.hid (decide_eq_true hnm)
        clear hnm
        go_wp2_with fail
        go_ret
        exact ⟨by rw [HNM.out]; rfl, F⟩
  · have q1 : ((n.length : Int) != (m.length : Int)) = true := by simp; omega
    have q2 : (n.length != m.length) = true := by simpa using hlen
    have q3 : ((n.length : Int) == (m.length : Int)) = false := by simp; omega
    have q4 : (n.length == m.length) = false := by simpa using hlen
    have hne : n ≠ m := fun e => hlen (by rw [e])
    have HNE := Lib.hid (decide_eq_false hne)
    clear hne hlen
    go_enter Tryz.func13, Tryz.ntmps13
    go_wp2_with fail
    go_ret
    exact ⟨by rw [HNE.out]; rfl, Fr.refl _⟩
end Go.Proofs.YthamenngccaijaaGreatDoor

namespace Go.Proofs.YthamenngccaijaaGreatDoor
open Go Go.RowKit Go.Q
set_option linter.unusedSimpArgs false
def NewCur (w w' : World) (g : Nat) (l : List UInt8) : Prop := w.heap.size ≤ g ∧ CurAt w' g (fun k => k < w.heap.size) l 0
set_option maxRecDepth 20000 in
theorem sub_ok {w : World} {c : Nat} {K : Nat → Prop} {bs : List UInt8} {i : Nat} (h : CurAt w c K bs i) (n : Nat) (hn : n ≤ bs.length - i) :
    Calls Tryz.prog 128 #[pt c, .int .i64 n] w fun e w' => ∃ g, e = .returned (.tuple #[pt g, .int .i64 0]) ∧ NewCur w w' g ((bs.drop i).take n) ∧ CurAt w' c K bs (i + n) ∧ Fr (fun k => k = c) w w' := by
  have hsm := h.small
  have hle := h.le
  have hcl := h.lt
  obtain ⟨l, hl⟩ : ∃ l, l = (bs.drop i).take n := ⟨_, rfl⟩
  have hll : l.length = n := by rw [hl, List.length_take, List.length_drop]; omega
  have HT := Lib.hid (take_ok h n hn)
  rw [← hl] at HT ⊢
  have HLL := Lib.hid hll
  clear hl hll h
  go_enter Tryz.func128, Tryz.ntmps128
  go_wp2_with fail
  refine HT.out.mono ?_
  rintro e w1 ⟨v, rfl, ho, C1, F1⟩
  have hv := Vals.of_own ho
  have HV := Lib.hid hv
  obtain ⟨a, m, cap, rfl, rfl⟩ := own_shape ho
  have HC1 := Lib.hid C1
  have HF1 := Lib.hid F1
  have hs1 := F1.size
  clear HT ho hv C1 F1
  go_wp2_with fail
  have F2 : Fr (fun _ => False) w1 (w1.alloc (.cells #[.slice a m cap, .int .i64 0] 118)) := (Fr.refl w1).alloc _
  refine bodyPost_ret (v := .tuple #[pt w1.heap.size, .int .i64 0]) (by simp [results, Tryz.results128, go_sem]) rfl ⟨_, rfl, ⟨hs1, _, Blk.new w1 _ _, HV.out.1.old F2, Nat.zero_le _, by rw [HLL.out]; omega, by omega, fun _ k hk e => ?_⟩, HC1.out.old F2, HF1.out.trans (F2.mono (fun _ _ h => h.elim))⟩
  have := HV.out.2 k hk
  omega
theorem sub_end {w : World} {c : Nat} {K : Nat → Prop} {bs : List UInt8} {i : Nat} (h : CurAt w c K bs i) (n : Nat) (hn : bs.length - i < n) :
    Calls Tryz.prog 128 #[pt c, .int .i64 n] w fun e w' => e = .returned (.tuple #[.pointer none, .int .i64 3]) ∧ Fr (fun _ => False) w w' := by
  have HT := Lib.hid (take_end h n hn)
  clear h
  go_enter Tryz.func128, Tryz.ntmps128
  go_wp2_with fail
  refine HT.out.mono ?_
  rintro e w1 ⟨rfl, F1⟩
  go_wp2_with fail
  exact bodyPost_ret (v := .tuple #[.pointer none, .int .i64 3]) (by simp [results, Tryz.results128, go_sem]) rfl ⟨rfl, F1⟩
theorem NewCur.up {w w1 w' : World} {g : Nat} {l : List UInt8} (h : NewCur w1 w' g l) (hs : w.heap.size ≤ w1.heap.size) : NewCur w w' g l :=
  ⟨Nat.le_trans hs h.1, h.2.step (Fr.refl w') (S := fun _ => False) (fun _ _ h => h.elim) (fun _ hk => .inl (Nat.lt_of_lt_of_le hk hs))⟩
set_option maxRecDepth 20000 in
theorem rest_any {w : World} {c : Nat} {K : Nat → Prop} {bs : List UInt8} {i : Nat} (h : CurAt w c K bs i) :
    Calls Tryz.prog 276 #[pt c] w fun e w' => ∃ v, e = .returned v ∧ w'.ownsRow w.heap.size 5 1 v (bs.length - i) (Lib.byteCells (bs.drop i)) ∧ CurAt w' c K bs bs.length ∧ Fr (fun k => k = c) w w' := by
  have hsm := h.small
  have hle := h.le
  have H := Lib.hid h
  have hcut := Lib.hid (fun w' (C : CurAt w' c K bs i) => cut_any C i (bs.length - i) (by omega))
  have e1 : (i : Int) + ((bs.length - i : Nat) : Int) = (bs.length : Int) := by omega
  rw [e1] at hcut
  have e2 : (bs.drop i).take (bs.length - i) = bs.drop i := List.take_of_length_le (by rw [List.length_drop]; omega)
  rw [e2] at hcut
  clear h e1 e2
  go_enter Tryz.func276, Tryz.ntmps276
  go_upto_region 3 with fail
  have C1 := H.out.old (Fr.refl w).drew
  have HC := Lib.hid C1
  obtain ⟨sl, B, -⟩ := C1
  have F2 : Fr (fun _ => False) w w.drew := (Fr.refl w).drew
  have hcl := H.out.lt
  clear H
  go_region_held3 (fun w' => ∀ j, w'.cell? ⟨c, j, none⟩ = (#[sl, .int .i64 i] : Array Value)[j]?) (exact B.cell) (first
    | (go_at_call 111; refine (size_any HC.out).mono ?_; rintro e w' ⟨rfl, rfl⟩)
    | (go_at_call 72; refine (hcut.out _ HC.out).mono ?_; rintro e w' ⟨v, rfl, ho, F⟩; replace B := B.fr F (fun h => h); have C3 := HC.out.old F))
  have HO := Lib.hid ho
  have HC3 := Lib.hid C3
  have e1 := B.cell 1
  have f1 := B.frozen 1
  simp at e1
  have hv := Lib.hid (Vals.of_own ho)
  clear ho C3
  go_wp2_with fail
  refine (size_any HC3.out).mono ?_
  rintro e w4 ⟨rfl, rfl⟩
  go_wp2_with fail
  obtain ⟨C4, F4⟩ := HC3.out.set bs.length (Nat.le_refl _)
  have hne : ∀ k, v.ownBlock = some k → k ≠ c := fun k hk e => by
    have h1 := (hv.out.2 k hk).1
    have h2 := HC.out.lt
    omega
  go_ret
  exact ⟨v, rfl, own_le (ownsRow_fr HO.out F4 (fun k hk e => hne k hk e)) F2.size, C4, ((F2.trans F).mono (fun _ _ h => h.elim)).trans F4⟩
end Go.Proofs.YthamenngccaijaaGreatDoor

namespace Go.Q
open Go Go.RowKit
theorem openS_err1 {T : Tag} {l : List UInt8} {x : Int} (h : readS l = .error x) : openS T l = .error x := by unfold openS; rw [h]
theorem openS_tag {T u : Tag} {l : List UInt8} {n k : Nat} (h : readS l = .ok (u, n, k)) (hu : u ≠ T) : openS T l = .error 4 := by unfold openS; rw [h]; exact if_pos hu
theorem openS_end {T : Tag} {l : List UInt8} {n k : Nat} (h : readS l = .ok (T, n, k)) (hn : l.length - k < n) : openS T l = .error 3 := by unfold openS; rw [h]; simp only; rw [if_neg (by simp), if_pos hn]
theorem openS_ok {T : Tag} {l : List UInt8} {n k : Nat} (h : readS l = .ok (T, n, k)) (hn : ¬ l.length - k < n) : openS T l = .ok ((l.drop k).take n, k + n) := by unfold openS; rw [h]; simp only; rw [if_neg (by simp), if_neg hn]
theorem openS_nz {T : Tag} {l : List UInt8} {x : Int} (h : openS T l = .error x) : x ≠ 0 := by
  unfold openS at h
  split at h
  · rename_i hr
    cases h
    exact Go.Proofs.YthamenngccaijaaGreatDoor.readS_err hr
  · split at h
    · cases h; decide
    · split at h
      · cases h; decide
      · cases h
end Go.Q
namespace Go.Proofs.YthamenngccaijaaGreatDoor
open Go Go.RowKit Go.Q
set_option linter.unusedSimpArgs false
def OpenOut1 (w w' : World) (c : Nat) (K : Nat → Prop) (bs : List UInt8) (p : Nat) (r : Except Int (List UInt8 × Nat)) (e : Ending) : Prop :=
  match r with
  | .ok (y, k) => ∃ g, e = .returned (.tuple #[pt g, .int .i64 0]) ∧ NewCur w w' g y ∧ CurAt w' c K bs (p + k)
  | .error x => e = .returned (.tuple #[.pointer none, .int .i64 x]) ∧ ∃ q, p ≤ q ∧ CurAt w' c K bs q
set_option maxRecDepth 20000 in
set_option maxHeartbeats 2000000 in
theorem open1_any {w : World} {c : Nat} {K : Nat → Prop} {bs : List UInt8} {p : Nat} (h : CurAt w c K bs p) (T : Tag) (bx bt : Nat) (B : Blk w bx 50 #[pt c]) (BT : Blk w bt 97 #[.int .i64 T.cls, .int .i64 T.num, .bool T.made]) (hbx : bx ≠ c) (hbt : bt ≠ c) :
    Calls Tryz.prog 126 #[pt bx, pt bt] w fun e w' => OpenOut1 w w' c K bs p (openS T (bs.drop p)) e ∧ Fr (fun k => k = c) w w' := by
  have hle := h.le
  have HR := Lib.hid (read_any h)
  have HB := Lib.hid B
  have HBT := Lib.hid BT
  have e0 := B.cell 0
  simp at e0
  clear h B BT
  go_enter Tryz.func126, Tryz.ntmps126
  go_wp2_with fail
  refine HR.out.mono ?_
  rintro e w1 ⟨⟨⟨tc, tn, tm⟩, n, x, rfl, ht⟩, C1, F1⟩
  rw [show frontV ⟨tc, tn, tm⟩ n = .agg #[.int .i64 tc, .int .i64 tn, .bool tm, .int .i64 n] from rfl]
  have HT := Lib.hid ht
  go_upto_region 2 with fail
  have F2 : Fr (fun _ => False) w1 (w1.alloc (.cells #[.int .i64 tc, .int .i64 tn, .bool tm, .int .i64 n] 189)) := (Fr.refl w1).alloc _
  have BD := Blk.new w1 189 #[.int .i64 tc, .int .i64 tn, .bool tm, .int .i64 n]
  have HC2 := Lib.hid (C1.old F2)
  have G2 := F1.trans (F2.mono (T := fun k => k = c) (fun _ _ h => h.elim))
  have HG2 := Lib.hid G2
  have SB := ((HB.out.fr F1 hbx).fr F2 (fun h => h)).cell 0
  have ST := ((HBT.out.fr F1 hbt).fr F2 (fun h => h)).cell
  have SD := BD.cell
  simp at SB
  obtain ⟨d, hd⟩ : ∃ d, d = w1.heap.size := ⟨_, rfl⟩
  rw [← hd] at BD SD ⊢
  clear hd C1 F1 F2 ht HR e0
  generalize (w1.alloc (.cells #[.int .i64 tc, .int .i64 tn, .bool tm, .int .i64 n] 189)) = w2 at *
  by_cases hx : x = 0
  · subst hx
    obtain ⟨u, hu⟩ : ∃ u : Tag, u = ⟨tc, tn, tm⟩ := ⟨_, rfl⟩
    have hok : ∃ k, readS (bs.drop p) = .ok (u, n, k) := by
      have ht := HT.out
      cases hr : readS (bs.drop p) with
      | error e => rw [hr] at ht; exact absurd ht.symm (readS_err hr)
      | ok vk => obtain ⟨v, m, k⟩ := vk; rw [hr] at ht; exact ⟨k, by rw [hu, ht.1, ht.2.1]⟩
    obtain ⟨k, hk⟩ := hok
    have hkl := (readS_le hk).1
    have hc := HC2.out
    rw [hk] at hc
    have HC := Lib.hid hc
    have HK := Lib.hid hk
    have HU := Lib.hid hu
    rw [List.length_drop] at hkl
    have bad : u ≠ T → OpenOut1 w w2 c K bs p (openS T (bs.drop p)) (.returned (.tuple #[.pointer none, .int .i64 4])) := fun hne => by
      rw [openS_tag HK.out hne]
      exact ⟨rfl, p + k, by omega, HC.out⟩
    have HBAD := Lib.hid bad
    clear hk hc hu bad HC2
    go_wp2_with fail
    rotate_left
    iterate 3
      refine bodyPost_ret (v := .tuple #[.pointer none, .int .i64 4]) (by simp [results, Tryz.results126, go_sem]) rfl ⟨HBAD.out fun e => ?_, HG2.out⟩
      have e2 := HU.out
      rw [e] at e2
      subst e2
      first | exact absurd rfl ‹¬ tm = _› | exact absurd rfl ‹¬ tn = _› | exact absurd rfl ‹¬ tc = _›
    have hT : u = T := by
      rw [HU.out]
      show (⟨tc, tn, tm⟩ : Tag) = ⟨T.cls, T.num, T.made⟩
      rw [‹tc = T.cls›, ‹tn = T.num›, ‹tm = T.made›]
    rw [hT] at HK
    clear hT HU HBAD
    by_cases hn : n ≤ bs.length - (p + k)
    · have HO := Lib.hid (openS_ok (T := T) HK.out (by rw [List.length_drop]; omega))
      have hS := sub_ok HC.out n hn
      rw [show (bs.drop (posR p (.ok (u, n, k)))).take n = ((bs.drop p).drop k).take n from by rw [List.drop_drop]; rfl] at hS
      refine hS.mono ?_
      rintro e w3 ⟨g, rfl, hN, C3, F3⟩
      have HN := Lib.hid hN
      have HC3 := Lib.hid C3
      have HF3 := Lib.hid (HG2.out.trans F3)
      clear hS hN C3 F3 G2
      go_wp2_with fail
      refine bodyPost_ret (v := .tuple #[pt g, .int .i64 0]) (by simp [results, Tryz.results126, go_sem]) rfl ⟨?_, HF3.out⟩
      rw [HO.out]
      exact ⟨g, rfl, HN.out.up HG2.out.size, by have := HC3.out; rwa [show posR p (.ok (u, n, k)) + n = p + (k + n) from Nat.add_assoc p k n] at this⟩
    · have HO := Lib.hid (openS_end (T := T) HK.out (by rw [List.length_drop]; omega))
      refine (sub_end HC.out n (by show bs.length - (p + k) < n; omega)).mono ?_
      rintro e w3 ⟨rfl, F3⟩
      have HC3 := Lib.hid (HC.out.old F3)
      have HF3 := Lib.hid (HG2.out.trans (F3.mono (fun _ _ h => h.elim)))
      clear F3 G2 HC
      go_wp2_with fail
      refine bodyPost_ret (v := .tuple #[.pointer none, .int .i64 3]) (by simp [results, Tryz.results126, go_sem]) rfl ⟨?_, HF3.out⟩
      rw [HO.out]
      exact ⟨rfl, p + k, by omega, HC3.out⟩
  · have hx1 : (x == 0) = false := beq_eq_false_iff_ne.2 hx
    have herr : readS (bs.drop p) = .error x := by
      have ht := HT.out
      cases hr : readS (bs.drop p) with
      | error e => rw [hr] at ht; rw [show x = e from ht]
      | ok vk => obtain ⟨v, m, k⟩ := vk; rw [hr] at ht; exact absurd ht.2.2 hx
    have hc := HC2.out
    rw [herr] at hc
    have HO := Lib.hid (openS_err1 (T := T) herr)
    have HC := Lib.hid hc
    clear herr hc
    go_wp2_with fail
    refine bodyPost_ret (v := .tuple #[.pointer none, .int .i64 x]) (by simp [results, Tryz.results126, go_sem]) rfl ⟨?_, HG2.out⟩
    rw [HO.out]
    exact ⟨rfl, p, Nat.le_refl _, HC.out⟩
def OpenOut (w w' : World) (c : Nat) (K : Nat → Prop) (bs : List UInt8) (p : Nat) (r : Except Int (List UInt8 × Nat)) (e : Ending) : Prop :=
  match r with
  | .ok (y, k) => ∃ g, e = .returned (.tuple #[pt g, .int .i64 0]) ∧ NewCur w w' g y ∧ CurAt w' c K bs (p + k)
  | .error x => e = .returned (.tuple #[.pointer none, .int .i64 x]) ∧ CurAt w' c K bs p
set_option maxRecDepth 20000 in
set_option maxHeartbeats 2000000 in
theorem open_any {w : World} {c : Nat} {K : Nat → Prop} {bs : List UInt8} {p : Nat} (h : CurAt w c K bs p) (T : Tag) :
    Calls Tryz.prog 81 #[pt c, .agg #[.int .i64 T.cls, .int .i64 T.num, .bool T.made]] w fun e w' => OpenOut w w' c K bs p (openS T (bs.drop p)) e ∧ Fr (fun k => k = c) w w' := by
  have hlc := h.lt
  obtain ⟨bx, hbx⟩ : ∃ bx, bx = w.heap.size := ⟨_, rfl⟩
  have B := (Blk.new w 50 #[pt c]).alloc (.cells #[.int .i64 T.cls, .int .i64 T.num, .bool T.made] 97)
  have BT := Blk.new (w.alloc (.cells #[pt c] 50)) 97 #[.int .i64 T.cls, .int .i64 T.num, .bool T.made]
  rw [World.size_alloc] at BT
  have F : Fr (fun _ => False) w ((w.alloc (.cells #[pt c] 50)).alloc (.cells #[.int .i64 T.cls, .int .i64 T.num, .bool T.made] 97)) := ((Fr.refl w).alloc _).alloc _
  have H := Lib.hid (h.old F)
  rw [← hbx] at B BT
  have hbc : bx ≠ c := by omega
  have htc : bx + 1 ≠ c := by omega
  have HBX := Lib.hid hbx
  have e0 := B.cell 0
  simp at e0
  clear h hbx hlc
  go_enter Tryz.func81, Tryz.ntmps81
  go_upto_region 1 with fail
  rw [← HBX.out]
  generalize ((w.alloc (.cells #[pt c] 50)).alloc (.cells #[.int .i64 T.cls, .int .i64 T.num, .bool T.made] 97)) = w0 at *
  have HF := Lib.hid F
  have HO1 := Lib.hid (open1_any H.out T bx (bx + 1) B BT hbc htc)
  clear F B BT HBX
  go_wp2_with (first | (go_at_call 125; go_in))
  refine (at_any H.out).mono ?_
  rintro e w1' ⟨rfl, rfl⟩
  go_wp2_with fail
  refine HO1.out.mono ?_
  rintro e w2 ⟨hout, F2⟩
  have HF2 := Lib.hid ((HF.out.mono (T := fun k => k = c) (fun _ _ h => h.elim)).trans F2)
  clear F2 HO1 H
  have hsz := HF.out.size
  cases hr : openS T (bs.drop p) with
  | error x =>
    rw [hr] at hout
    obtain ⟨rfl, q, hq, C2⟩ := hout
    have hx := openS_nz hr
    have hx1 : (x == 0) = false := beq_eq_false_iff_ne.2 hx
    have hx2 : (x != 0) = true := by simpa using hx
    have HB := Lib.hid (back_any C2 p hq)
    have HR := Lib.hid hr
    clear hr hx C2
    go_wp2_with fail
    refine HB.out.mono ?_
    rintro e w3 ⟨rfl, C3, F3⟩
    have HC3 := Lib.hid C3
    have HF3 := Lib.hid (HF2.out.trans F3)
    clear C3 F3 HB
    go_wp2_with fail
    refine bodyPost_ret (v := .tuple #[.pointer none, .int .i64 x]) (by simp [results, Tryz.results81, go_sem]) rfl ⟨?_, HF3.out⟩
    rw [HR.out]
    exact ⟨rfl, HC3.out⟩
  | ok yk =>
    obtain ⟨y, k⟩ := yk
    rw [hr] at hout
    obtain ⟨g, rfl, hN, C2⟩ := hout
    have HN := Lib.hid (hN.up hsz)
    have HC2 := Lib.hid C2
    have HR := Lib.hid hr
    clear hr hN C2
    go_wp2_with fail
    refine bodyPost_ret (v := .tuple #[pt g, .int .i64 0]) (by simp [results, Tryz.results81, go_sem]) rfl ⟨?_, HF2.out⟩
    rw [HR.out]
    exact ⟨g, rfl, HN.out, HC2.out⟩
theorem open_err {w : World} {c : Nat} {K : Nat → Prop} {bs : List UInt8} {p : Nat} (h : CurAt w c K bs p) (T : Tag) {x : Int} (ho : openS T (bs.drop p) = .error x) :
    Calls Tryz.prog 81 #[pt c, tagV T] w fun e w' => e = .returned (.tuple #[.pointer none, .int .i64 x]) ∧ CurAt w' c K bs p ∧ Fr (fun k => k = c) w w' :=
  (open_any h T).mono fun e w' ⟨h1, h2⟩ => by
    rw [ho] at h1
    exact ⟨h1.1, h1.2, h2⟩
theorem open_on {w : World} {c : Nat} {K : Nat → Prop} {bs : List UInt8} {p : Nat} (h : CurAt w c K bs p) (T : Tag) {y : List UInt8} {k : Nat} (ho : openS T (bs.drop p) = .ok (y, k)) :
    Calls Tryz.prog 81 #[pt c, tagV T] w fun e w' => (∃ g, e = .returned (.tuple #[pt g, .int .i64 0]) ∧ NewCur w w' g y ∧ CurAt w' c K bs (p + k)) ∧ Fr (fun k => k = c) w w' :=
  (open_any h T).mono fun e w' ⟨h1, h2⟩ => by
    rw [ho] at h1
    exact ⟨h1, h2⟩
end Go.Proofs.YthamenngccaijaaGreatDoor

namespace Go.Q
open Go Go.RowKit
theorem numberS_nz : ∀ {l : List UInt8} {i n : Nat} {x : Int}, numberS i n l = .error x → x ≠ 0
  | [], i, n, x, h => by simp only [numberS, Except.error.injEq] at h; omega
  | y :: t, i, n, x, h => by
    simp only [numberS] at h
    split at h
    · cases h; decide
    split at h
    · cases h; decide
    split at h
    · cases h
    · exact numberS_nz h
theorem oidStS_nz : ∀ {l : List UInt8} {o : List Int} {i n : Nat} {x : Int}, oidStS o i n l = .error x → x ≠ 0
  | [], o, i, n, x, h => by
    simp only [oidStS] at h
    split at h
    · cases h
    · cases h; decide
  | y :: t, o, i, n, x, h => by
    simp only [oidStS] at h
    split at h
    · cases h; decide
    split at h
    · cases h; decide
    split at h
    · split at h
      · cases h; decide
      · exact oidStS_nz h
    · exact oidStS_nz h
theorem oidParse_nz {l : List UInt8} {x : Int} (h : oidParseS l = .error x) : x ≠ 0 := by
  unfold oidParseS at h
  split at h
  · cases h; decide
  · exact oidStS_nz h
theorem oidRead_nz {l : List UInt8} {x : Int} (h : oidReadS l = .error x) : x ≠ 0 := by
  unfold oidReadS at h
  split at h
  · rename_i hx
    cases h
    exact openS_nz hx
  · split at h
    · rename_i hx
      cases h
      exact oidParse_nz hx
    · cases h
end Go.Q
namespace Go.Proofs.YthamenngccaijaaGreatDoor
open Go Go.RowKit Go.Q
set_option linter.unusedSimpArgs false
def nextOut (w' : World) (c : Nat) (K : Nat → Prop) (bs : List UInt8) (p : Nat) (r : Except Int (Nat × Nat)) (e : Ending) : Prop :=
  match r with
  | .ok (m, k) => e = .returned (.tuple #[.int .i64 m, .int .i64 0]) ∧ CurAt w' c K bs (p + k)
  | .error x => e = .returned (.tuple #[.int .i64 0, .int .i64 x]) ∧ ∃ q, p ≤ q ∧ CurAt w' c K bs q
set_option maxRecDepth 20000 in
set_option maxHeartbeats 2000000 in
theorem oidNext_any {w : World} {c : Nat} {K : Nat → Prop} {bs : List UInt8} {p : Nat} (h : CurAt w c K bs p) :
    Calls Tryz.prog 181 #[pt c] w fun e w' => nextOut w' c K bs p (numberS 0 0 (bs.drop p)) e ∧ Fr (fun k => k = c) w w' := by
  have H := Lib.hid h
  have hple := h.le
  clear h
  go_enter Tryz.func181, Tryz.ntmps181
  go_wp2_with fail
  go_loopg [4, 5] (bs.length - p) (fun g n i wr => ∃ (k m : Nat), g = bs.length - p - k ∧ m ≤ 2147483647 ∧ n = .int .i64 m ∧ i = .int .i64 k ∧ CurAt wr c K bs (p + k) ∧ Fr (fun k => k = c) w wr ∧ numberS 0 0 (bs.drop p) = numberS k m (bs.drop (p + k)))
  case atStart => exact ⟨0, 0, rfl, by omega, rfl, rfl, H.out, Fr.refl _, rfl⟩
  case round =>
    obtain ⟨k, m, hg, hm, rfl, rfl, hC, hF, hN⟩ := hrel
    have HG := Lib.hid hg
    have HC := Lib.hid hC
    have HN := Lib.hid hN
    have hcle := hC.le
    have hcsm := hC.small
    clear hg hC hN
    cases hd : bs.drop (p + k) with
    | nil =>
      have HD := Lib.hid hd
      clear hd
      go_wp2_with fail
      refine (byte_end HC.out HD.out).mono ?_
      rintro e w1 ⟨rfl, F1⟩
      go_wp2_with fail
      have hN := HN.out
      rw [HD.out] at hN
      simp only [numberS] at hN
      refine bodyPost_ret (v := .tuple #[.int .i64 0, .int .i64 6]) (by simp [results, Tryz.results181, go_sem]) rfl ⟨?_, hF.trans (F1.mono (fun _ _ h => h.elim))⟩
      rw [hN]
      exact ⟨rfl, _, Nat.le_add_right _ _, HC.out.old F1⟩
    | cons x t =>
      have HD := Lib.hid hd
      have hdl : (bs.drop (p + k)).length = t.length + 1 := by rw [hd]; rfl
      rw [List.length_drop] at hdl
      have hd2 : bs.drop (p + (k + 1)) = t := by
        rw [← Nat.add_assoc, ← List.drop_drop, hd]; rfl
      have HD2 := Lib.hid hd2
      clear hd hd2 hdl
      go_wp2_with fail
      refine (byte_on HC.out HD.out).mono ?_
      rintro e w1 ⟨rfl, C1, F1⟩
      have hx : x.toNat < 256 := x.toNat_lt
      have hN := HN.out
      rw [HD.out] at hN
      simp only [numberS] at hN
      have HC1 := Lib.hid C1
      have HF1 := Lib.hid (hF.trans F1)
      clear C1 hF F1 HC
      by_cases h3 : k = 0 ∧ x.toNat = 128
      · rw [if_pos h3] at hN
        have HN2 := Lib.hid hN
        obtain ⟨rfl, h128⟩ := h3
        have h128' : (x.toNat : Int) = 128 := by omega
        clear hN HN
        go_wp2_with fail
        refine bodyPost_ret (v := .tuple #[.int .i64 0, .int .i64 6]) (by simp [results, Tryz.results181, go_sem]) rfl ⟨?_, HF1.out⟩
        rw [HN2.out]
        exact ⟨rfl, _, by omega, HC1.out⟩
      · rw [if_neg h3] at hN
        obtain ⟨r, hr⟩ : ∃ r, r = x.toNat % 128 := ⟨_, rfl⟩
        have hr2 : r < 128 := by omega
        have hb1 : bits .and .u8 (x.toNat : Int) 127 = (r : Int) := by rw [hr]; exact and127 x
        obtain ⟨v, hv⟩ : ∃ v, v = m * 128 + r := ⟨_, rfl⟩
        have hb2 : bits .or .i64 ((m : Int) * 128) (r : Int) = (v : Int) := by rw [hv]; exact or7 m r (by omega) hr2
        have hw1 : wrap64 ((m : Int) * 128) = (m : Int) * 128 := by unfold wrap64; omega
        have hw2 : wrap64 (r : Int) = (r : Int) := wrap_nat r (by omega)
        rw [← hr, ← hv] at hN
        have HN2 := Lib.hid hN
        have HW := Lib.hid (And.intro hb1 (And.intro hb2 (And.intro hw1 hw2)))
        clear hb1 hb2 hw1 hw2 hN HN
        have hxv : x.toNat < 128 → m * 128 + x.toNat = v := fun h => by omega
        have HXV := Lib.hid hxv
        clear hr hv hxv
        rcases Classical.em (k = 0) with h0 | h0
        case' inl =>
          have h128' : ¬ (x.toNat : Int) = 128 := by omega
          have hk0 : ((k : Int) == 0) = true := by simpa using h0
        case' inr =>
          have hk0 : ((k : Int) == 0) = false := by simpa using h0
        all_goals
          by_cases hvm : 2147483647 < v
          · have hv31 : (2147483647 : Int) < (v : Int) := by omega
            have hE := HN2.out
            rw [if_pos hvm] at hE
            have HE := Lib.hid hE
            clear hE HN2 hvm hm
            go_upto_region 8 with fail
            simp only [HW.out.1, HW.out.2.2.1, HW.out.2.2.2, HW.out.2.1]
            go_wp2_with fail
            refine bodyPost_ret (v := .tuple #[.int .i64 0, .int .i64 2]) (by simp [results, Tryz.results181, go_sem]) rfl ⟨?_, HF1.out⟩
            rw [HE.out]
            exact ⟨rfl, _, by omega, HC1.out⟩
          · have hv31 : ¬ (2147483647 : Int) < (v : Int) := by omega
            have hE := HN2.out
            rw [if_neg hvm] at hE
            by_cases hx7 : x.toNat < 128
            · have hx8 : (x.toNat : Int) < 128 := by omega
              rw [if_pos hx7, HXV.out hx7] at hE
              have HE := Lib.hid hE
              clear hE HN2 hvm hm
              go_upto_region 8 with fail
              simp only [HW.out.1, HW.out.2.2.1, HW.out.2.2.2, HW.out.2.1]
              go_wp2_with fail
              refine bodyPost_ret (v := .tuple #[.int .i64 v, .int .i64 0]) (by simp [results, Tryz.results181, go_sem]) rfl ⟨?_, HF1.out⟩
              rw [HE.out]
              exact ⟨rfl, HC1.out⟩
            · have hx8 : ¬ (x.toNat : Int) < 128 := by omega
              rw [if_neg hx7] at hE
              have HE := Lib.hid hE
              clear hE HN2 hvm hm
              go_upto_region 8 with fail
              simp only [HW.out.1, HW.out.2.2.1, HW.out.2.2.2, HW.out.2.1]
              go_wp2_with fail
              go_roundg (bs.length - p - (k + 1))
              case measure => rw [HG.out]; have := HC1.out.le; omega
              case rel => exact ⟨k + 1, v, rfl, by omega, rfl, by go_num, HC1.out, HF1.out, by rw [HE.out, HD2.out]⟩
set_option maxRecDepth 20000 in
theorem oidSplit_any (m : Nat) (hm : m ≤ 2147483647) (w : World) :
    Calls Tryz.prog 182 #[.int .i64 m] w fun e w' => ∃ a c, e = .returned (.slice a 2 c) ∧ w'.ownsRow w.heap.size 3 1 (.slice a 2 c) 2 (intCells (addS [] m)) ∧ Fr (fun _ => False) w w' := by
  have HA := Lib.hid (show addS [] m = if m < 80 then [((m / 40 : Nat) : Int), ((m % 40 : Nat) : Int)] else [2, (m : Int) - 80] from rfl)
  have hq : (m : Int) / 40 = ((m / 40 : Nat) : Int) := by omega
  have hr : (m : Int) % 40 = ((m % 40 : Nat) : Int) := by omega
  generalize m / 40 = mq at *
  generalize m % 40 = mr at *
  by_cases h8 : m < 80
  · have q1 : (m : Int) < 80 := by omega
    have hA := HA.out
    rw [if_pos h8] at hA
    have HA2 := Lib.hid hA
    clear hA HA
    go_enter Tryz.func182, Tryz.ntmps182
    go_wp2_with fail
    go_ret
    rw [HA2.out]
    exact ⟨_, 2, rfl, own_block (Blk.new w 3 #[.int .i64 mq, .int .i64 mr]) 2 (Nat.le_refl _) (by unfold maxLen; simp) _ (Nat.le_refl _), (Fr.refl w).alloc _⟩
  · have q1 : ¬ (m : Int) < 80 := by omega
    have hA := HA.out
    rw [if_neg h8] at hA
    have HA2 := Lib.hid hA
    clear hA HA hq hr
    go_enter Tryz.func182, Tryz.ntmps182
    go_wp2_with fail
    go_ret
    rw [HA2.out]
    exact ⟨_, 2, rfl, own_block (Blk.new w 3 #[.int .i64 2, .int .i64 ((m : Int) - 80)]) 2 (Nat.le_refl _) (by unfold maxLen; simp) _ (Nat.le_refl _), (Fr.refl w).alloc _⟩
def oidParseOut (w w' : World) (r : Except Int (List Int)) (e : Ending) : Prop :=
  match r with
  | .ok o => ∃ a c, e = .returned (.tuple #[.slice a o.length c, .int .i64 0]) ∧ w'.ownsRow w.heap.size 3 1 (.slice a o.length c) o.length (intCells o)
  | .error x => e = .returned (.tuple #[.slice none 0 0, .int .i64 x])
theorem addS_snoc {o : List Int} (h : o ≠ []) (m : Nat) : addS o m = o ++ [(m : Int)] := if_neg h
set_option maxRecDepth 20000 in
set_option maxHeartbeats 2000000 in
theorem oidParse_any (v : Value) (l : List UInt8) (w : World) (h : Bytes w v l) (hl : l.length ≤ 1099511627776) :
    Calls Tryz.prog 140 #[v] w fun e w' => oidParseOut w w' (oidParseS l) e ∧ Fr (fun _ => False) w w' := by
  have hN := Lib.hid (new_any w v l h hl)
  have HP := Lib.hid (show oidParseS l = if l = [] then .error 6 else oidStS [] 0 0 l from rfl)
  clear h
  go_enter Tryz.func140, Tryz.ntmps140
  go_wp2_with fail
  refine hN.out.mono ?_
  rintro e w1 ⟨rfl, C1, F1⟩
  obtain ⟨c, hc⟩ : ∃ c, c = w.heap.size := ⟨_, rfl⟩
  have HX := Lib.hid (oidNext_any C1)
  have HF1 := Lib.hid F1
  rw [← hc] at HX C1 ⊢
  have hs1 := F1.size
  have hc1 := C1.lt
  have HC := Lib.hid hc
  clear C1 F1 hN hc
  go_wp2_with fail
  refine HX.out.mono ?_
  rintro e w2 ⟨hout, F2⟩
  rw [List.drop_zero] at hout
  have HF2 := Lib.hid (HF1.out.trans' F2 (fun i hi e => absurd hi (by rw [e, HC.out]; exact Nat.lt_irrefl _)))
  have hs2 := F2.size
  clear F2 HX HF1
  unfold nextOut at hout
  cases hn : numberS 0 0 l with
  | error x =>
    rw [hn] at hout
    obtain ⟨rfl, -⟩ := hout
    have hx := numberS_nz hn
    have hx1 : (x == 0) = false := beq_eq_false_iff_ne.2 hx
    have hx2 : (x != 0) = true := by simpa using hx
    have hr : oidParseS l = .error x := by
      rw [HP.out]
      cases l with
      | nil => rw [if_pos rfl]; simp only [numberS] at hn; cases hn; rfl
      | cons y t => rw [if_neg (by simp), oidSt_num [] _ 0 0 (.inr (by simp)), hn]
    have HR := Lib.hid hr
    clear hn hr hx HP
    go_wp2_with fail
    refine bodyPost_ret (v := .tuple #[.slice none 0 0, .int .i64 x]) (by simp [results, Tryz.results140, go_sem]) rfl ⟨?_, HF2.out⟩
    rw [HR.out]
    exact rfl
  | ok mk =>
    obtain ⟨m, k⟩ := mk
    rw [hn] at hout
    obtain ⟨rfl, C2⟩ := hout
    obtain ⟨j, hj, -, hm, hj1, hjl⟩ := numberS_back _ 0 0 m k (fun _ => rfl) (fun h => absurd rfl h) hn
    have hl0 : l ≠ [] := by rintro rfl; simp at hjl; omega
    have hst : oidParseS l = oidStS (addS [] m) 0 0 (l.drop k) := by
      rw [HP.out, if_neg hl0, oidSt_num [] _ 0 0 (.inr hl0), hn]
      simp only [List.length_nil]
      rw [if_neg (by omega), Nat.sub_zero]
    have hal : (addS [] m).length = 2 := by unfold addS; rw [if_pos rfl]; split <;> rfl
    obtain ⟨o2, ho2⟩ : ∃ o, o = addS [] m := ⟨_, rfl⟩
    have HS2 := Lib.hid (oidSplit_any m hm w2)
    rw [← ho2] at hst hal HS2
    rw [Nat.zero_add] at C2
    have hc2 := C2.lt
    have HST := Lib.hid hst
    have HAL := Lib.hid hal
    have HC2 := Lib.hid C2
    have hle2 := C2.le
    clear C2 hst hal ho2 hn hj hjl hl0 HP
    go_wp2_with fail
    refine HS2.out.mono ?_
    rintro e w3 ⟨a2, c2, rfl, hown, F3⟩
    have HO3 := Lib.hid hown
    have HC3 := Lib.hid ((HC2.out.step (K' := fun k => k < w.heap.size ∨ w2.heap.size ≤ k) (Fr.refl w2) (S := fun _ => False) (fun _ _ h => h.elim) (fun k hk => by have := HC.out; omega)).old F3)
    have HF3 := Lib.hid (HF2.out.trans F3)
    have hs3 := F3.size
    clear hown F3 HF2 HC2 HS2
    go_wp2_with fail
    go_loopg [7] (l.length - k) (fun g u wr => ∃ (o : List Int) (q : Nat) (a : Option Addr) (cc : Nat), g = l.length - q ∧ q ≤ l.length ∧ o.length ≤ 32 ∧ 2 ≤ o.length ∧ u = .slice a o.length cc ∧ wr.ownsRow w2.heap.size 3 1 (.slice a o.length cc) o.length (intCells o) ∧ CurAt wr c (fun k => k < w.heap.size ∨ w2.heap.size ≤ k) l q ∧ Fr (fun _ => False) w wr ∧ w2.heap.size ≤ wr.heap.size ∧ oidParseS l = oidStS o 0 0 (l.drop q))
    case atStart => exact ⟨o2, k, a2, c2, rfl, hle2, by rw [HAL.out]; omega, by rw [HAL.out]; exact Nat.le_refl _, by rw [HAL.out], by rw [HAL.out]; exact HO3.out, HC3.out, HF3.out, hs3, HST.out⟩
    case round =>
      obtain ⟨o, q, a, cc, hg, hq, ho32, ho2, rfl, hown, hC, hF, hsz, hR⟩ := hrel
      have HG := Lib.hid hg
      have HOW := Lib.hid hown
      have HCC := Lib.hid hC
      have HF := Lib.hid hF
      have HR := Lib.hid hR
      have HL := Lib.hid (left_any hC)
      clear hg hown hC hF hR
      by_cases hql : q < l.length
      · have q1 : (0 : Int) < ((l.length - q : Nat) : Int) := by omega
        obtain ⟨lq, hlq⟩ : ∃ lq, lq = l.length - q := ⟨_, rfl⟩
        rw [← hlq] at q1 HL HG
        have HLQ := Lib.hid hlq
        clear hlq
        go_wp2_with fail
        refine HL.out.mono ?_
        rintro e w4 ⟨rfl, F4⟩
        have HC4 := Lib.hid (HCC.out.old F4)
        have HX := Lib.hid (oidNext_any HC4.out)
        have HF4 := Lib.hid (HF.out.trans F4)
        have HO4 := Lib.hid (ownsRow_fr HOW.out F4 (fun _ _ h => h))
        have hs4 := F4.size
        clear F4 HCC HF HOW HL
        go_wp2_with fail
        refine HX.out.mono ?_
        rintro e w5 ⟨hout, F5⟩
        have HF5 := Lib.hid (HF4.out.trans' F5 (fun i hi e => absurd hi (by rw [e, HC.out]; exact Nat.lt_irrefl _)))
        have HO5 := Lib.hid (ownsRow_fr HO4.out F5 (fun k hk e => by have := ((Vals.of_own HO4.out).2 k hk).1; omega))
        have hs5 := F5.size
        unfold nextOut at hout
        have hd0 : l.drop q ≠ [] := by
          intro e
          have := congrArg List.length e
          rw [List.length_drop, List.length_nil] at this
          omega
        have hst := oidSt_num o (l.drop q) 0 0 (.inr hd0)
        clear F5 HF4 HO4 HX hd0
        cases hn : numberS 0 0 (l.drop q) with
        | error x =>
          rw [hn] at hout hst
          obtain ⟨rfl, -⟩ := hout
          have hx := numberS_nz hn
          have hx1 : (x == 0) = false := beq_eq_false_iff_ne.2 hx
          have hx2 : (x != 0) = true := by simpa using hx
          have HR2 := Lib.hid (HR.out.trans hst)
          clear hn hx hst
          go_wp2_with fail
          refine bodyPost_ret (v := .tuple #[.slice none 0 0, .int .i64 x]) (by simp [results, Tryz.results140, go_sem]) rfl ⟨?_, HF5.out⟩
          rw [HR2.out]
          exact rfl
        | ok mk =>
          obtain ⟨m2, k2⟩ := mk
          rw [hn] at hout hst
          obtain ⟨rfl, C5⟩ := hout
          obtain ⟨j2, hj2, -, hm2, hj3, hjl2⟩ := numberS_back _ 0 0 m2 k2 (fun _ => rfl) (fun h => absurd rfl h) hn
          have HR2 := Lib.hid (HR.out.trans hst)
          rw [Nat.zero_add] at hj2
          subst hj2
          have hk2 := C5.le
          have HC5 := Lib.hid C5
          have hql2 : l.length - (q + k2) < l.length - q := by omega
          have HQ := Lib.hid hql2
          clear hn hst C5 HC4 hm2 hjl2 hql2
          by_cases h32 : o.length = 32
          · have q3 : ((o.length : Int) == 32) = true := by rw [h32]; rfl
            have q4 : (o.length == 32) = true := by rw [h32]; rfl
            have hr := HR2.out
            simp only [h32, ↓reduceIte] at hr
            have HR3 := Lib.hid hr
            clear hr HR2 h32
            go_wp2_with fail
            refine bodyPost_ret (v := .tuple #[.slice none 0 0, .int .i64 2]) (by simp [results, Tryz.results140, go_sem]) rfl ⟨?_, HF5.out⟩
            rw [HR3.out]
            exact rfl
          · have q3 : ((o.length : Int) == 32) = false := beq_eq_false_iff_ne.2 (by omega)
            have q4 : (o.length == 32) = false := beq_eq_false_iff_ne.2 (by omega)
            have hr := HR2.out
            have hlt : o.length + 1 ≤ 32 := by omega
            simp only [h32, ↓reduceIte, Nat.sub_zero] at hr
            rw [addS_snoc (by rintro rfl; simp at ho2), List.drop_drop] at hr
            have HR3 := Lib.hid hr
            obtain ⟨a7, c7, w7, hrun, ho7, F7, hw7⟩ := add_int HO5.out (Nat.le_trans hsz (Nat.le_trans hs4 hs5)) (by omega) (m2 : Int) w5.heap.size ((Fr.refl w5).alloc (.cells #[.int .i64 m2] 3)) (Blk.new w5 3 #[.int .i64 m2])
            have hkp := (Vals.of_own HO5.out).2
            have HC7 := Lib.hid (HC5.out.step (K' := fun k => k < w.heap.size ∨ w2.heap.size ≤ k) F7 (fun k hk e => .inr (hkp k e).1) (fun k hk => .inl hk))
            have HF7 := Lib.hid (HF5.out.trans' F7 (fun i hi e => absurd hi (by have := (hkp i e).1; omega)))
            have hs7 := F7.size
            have HRUN := Lib.hid hrun
            have HO7 := Lib.hid ho7
            clear hr HR2 h32 hrun ho7 F7 hw7 hkp HC5
            go_wp2_with (at_builtin; refine wpList_append_run (by rfl) (.tmp 36) (.tmp 38) 105 (by rfl) _ w7 (by exact HRUN.out) ?_)
            go_roundg (l.length - (q + k2))
            case measure => rw [HG.out, HLQ.out]; exact HQ.out
            case rel => exact ⟨o ++ [(m2 : Int)], q + k2, a7, c7, rfl, hk2, by rw [List.length_append]; exact hlt, by rw [List.length_append]; omega, by rw [List.length_append]; rfl, by rw [List.length_append]; exact HO7.out, HC7.out, HF7.out, by omega, HR3.out⟩
      · obtain rfl : q = l.length := by omega
        have q1 : ¬ (0 : Int) < ((l.length - l.length : Nat) : Int) := by omega
        have hr := HR.out
        rw [List.drop_length] at hr
        simp only [oidStS, ↓reduceIte] at hr
        have HR2 := Lib.hid hr
        rw [Nat.sub_self] at HL
        clear hr HR q1
        go_wp2_with fail
        refine HL.out.mono ?_
        rintro e w4 ⟨rfl, F4⟩
        have HF4 := Lib.hid (HF.out.trans F4)
        have HO4 := Lib.hid (own_le (ownsRow_fr HOW.out F4 (fun _ _ h => h)) (Nat.le_trans hs1 hs2))
        clear F4 HF HOW HL
        go_wp2_with fail
        refine bodyPost_ret (v := .tuple #[.slice a o.length cc, .int .i64 0]) (by simp [results, Tryz.results140, go_sem]) rfl ⟨?_, HF4.out⟩
        rw [HR2.out]
        exact ⟨a, cc, rfl, HO4.out⟩
end Go.Proofs.YthamenngccaijaaGreatDoor
