/-
  Go's library: slices.Grow of nil, slices.Concat of steps; slices.Compare of integers. The walks of the law's Step, To, Of. The reference of the layer 6: Kind, among, May. The reference of the layer 6: Utf8. The reference of the layer 6: what wide is to answer. The reference of the layer 6: wide. The reference of the layer 6: Signs: what it is to answer; the walks of no kind, and of UTF-8. The reference of the layer 6: Signs, the walk of pairs. The reference of the layer 6: Signs, the walk of single bytes. The reference of the layer 6: Signs. The reference of the layer 6: what is right is read: plain laws. The reference of the layer 2: ReadTag, ReadLength, Read. The reference of the layer 2: ReadLength. The reference of the layer 2: Read. What is read of tags and lengths lies within: plain laws. The reference of the layer 6: Read, of any kind. The reference of the layer 8: Wholes. The reference's digits to the base 128: a plain law; setting a cell of a row of one's own. The reference of the layer 2: Of, Bytes, Length, Wrap. The reference of the layer 4: digits, Contents, Whole. The walks of the layers 4 and 14: oid.Compare, name.Texts. The reference of the layer 4: Right, Compare, Same. The reference of the layer 14: Whole. The reference of the layer 1: Compare, Same, Hex. The reference of the layer 14: Step, Right.
-/
import Derived.Test.YtgffhiopbnkjbaaGreatDoorW0b
import Derived.Lib.AppendZerosOnto
import Derived.Lib.SliceRun
import Derived.Lib.Walk
import Derived.Test.YtgffhiopbnkjbaaGreatDoorW0a
import Derived.Deep.RegionLaw
namespace Go.Q
open Go Go.RowKit
/-- Which of two rows of numbers is less. -/
def cmpI : List Int → List Int → Int
  | [], [] => 0
  | [], _ :: _ => -1
  | _ :: _, [] => 1
  | x :: s, y :: t => if x < y then -1 else if y < x then 1 else cmpI s t
theorem cmpI_zero : ∀ (s t : List Int), cmpI s t = 0 ↔ s = t
  | [], [] => by simp [cmpI]
  | [], _ :: _ => by simp [cmpI]
  | _ :: _, [] => by simp [cmpI]
  | x :: s, y :: t => by
    have ih := cmpI_zero s t
    unfold cmpI
    split
    · simp; intro h; omega
    · split
      · simp; intro h; omega
      · rw [ih]
        simp
        intro _
        omega
/-- A row of parts of one's own, its texts read in w. -/
def AttrRow (w wr : World) (base : Nat) (v : Value) (l : List Part) : Prop :=
  ∃ cs : List Value, wr.ownsRow base 39 2 v l.length cs ∧ ∀ (i : Nat) (p : Part), l[i]? = some p → ∃ x y, cs[2 * i]? = some x ∧ cs[2 * i + 1]? = some y ∧ Vals w x (intCells p.o) ∧ Bytes w y p.b
theorem AttrRow.at {w wr : World} {base : Nat} {v : Value} {l : List Part} (h : AttrRow w wr base v l) (F : Fr (fun _ => False) w wr) : Attrs wr v l := by
  obtain ⟨cs, ⟨h1, h2⟩, h3⟩ := h
  rcases h2 with ⟨rfl, h0⟩ | ⟨g, cap, cur, rfl, hg, hh, hnc, hcm, hcs, htk⟩
  · exact ⟨none, 0, by rw [h0], by omega, by unfold maxLen; omega, fun h => by omega⟩
  · refine ⟨_, cap, rfl, hnc, hcm, fun _ => ⟨g, 0, rfl, fun i p hp => ?_⟩⟩
    obtain ⟨x, y, e1, e2, e3, e4⟩ := h3 i p hp
    have hi := (List.getElem?_eq_some_iff.1 hp).1
    have gc : ∀ k, k < l.length * 2 → wr.cell? ⟨g, 0 + k, none⟩ = cs[k]? := fun k hk => by
      have := congrArg (fun z : List Value => z[k]?) htk
      simp only [List.getElem?_take, if_pos hk, Array.getElem?_toList] at this
      rw [Nat.zero_add]
      simp only [World.cell?, hh]
      exact this
    refine ⟨x, y, ?_, ?_, e3.old F, e4.old F⟩
    · rw [gc (2 * i) (by omega)]; exact e1
    · rw [Nat.add_assoc, gc (2 * i + 1) (by omega)]; exact e2
theorem AttrRow.start {w wr : World} {base : Nat} {v : Value} (h : wr.ownsRow base 39 2 v 0 []) : AttrRow w wr base v [] := ⟨[], h, fun i p hp => by simp at hp⟩
theorem nmFlat_take {n : List (List Part)} {j : Nat} {r : List Part} (h : n[j]? = some r) : (n.take (j + 1)).flatten = (n.take j).flatten ++ r := by
  rw [List.take_add_one, h]
  simp
end Go.Q
namespace Go.Proofs.YtgffhiopbnkjbaaGreatDoor
open Go Go.RowKit Go.Q
theorem info39 : (Tryz.prog.info? 39).map (fun i => (i.zero, i.size, i.bytes)) = some (some (.agg #[.slice none 0 0, .slice none 0 0]), 2, 48) := by kernel_rfl

set_option maxRecDepth 20000 in
set_option maxHeartbeats 1000000 in
theorem growAttr_any (n : Nat) (w : World) (hn : n ≤ 1000000000) :
    Calls Tryz.prog 92 #[.slice none 0 0, .int .i64 n] w fun e w' => (∃ a c, e = .returned (.slice a 0 c) ∧ w'.ownsRow w.heap.size 39 2 (.slice a 0 c) 0 []) ∧ Fr (fun _ => False) w w' := by
  obtain ⟨i0, hi0, hz0, hz1, hz2⟩ := info_parts info39
  have w0 : wrap64 ((n : Int) - 0) = (n : Int) := by unfold wrap64; omega
  rcases Nat.eq_zero_or_pos n with rfl | h0
  · go_enter Tryz.func92, Tryz.ntmps92
    go_wp2_with fail
    go_ret
    exact ⟨⟨none, 0, rfl, rfl, .inl ⟨rfl, rfl⟩⟩, Fr.refl _⟩
  · have hrz := fun ty => Lib.run_append_grow_zeros (P := Tryz.prog) w 41 3 ty 39 i0 _ .i64 .i64 Tryz.underlying41 Tryz.underlying3 hi0 hz0 none 0 0 [] (by rw [hz1]; rfl) n h0 (by rw [hz1]; decide) (by omega) (by omega) (by rw [hz2]; omega) (growslice_fits (by omega) (by rw [hz2]; omega))
    have hG := grownCap_ge w (0 + n) 0 39
    have hG2 := grownCap_le_maxLen w (0 + n) 0 39 (by unfold maxLen; omega)
    have hcsz : (([] : List Value).toArray ++ Builtin.zeroCells (Value.agg #[.slice none 0 0, .slice none 0 0]).cells n ++ Builtin.zeroCells (Value.agg #[.slice none 0 0, .slice none 0 0]).cells (grownCap w (0 + n) 0 39 - (0 + n))).size = grownCap w (0 + n) 0 39 * 2 := by
      simp only [Array.size_append, size_zeroCells, List.size_toArray, List.length_nil]
      have : (Value.agg #[.slice none 0 0, .slice none 0 0]).cells.size = 2 := rfl
      rw [this]
      omega
    generalize ([] : List Value).toArray ++ Builtin.zeroCells (Value.agg #[.slice none 0 0, .slice none 0 0]).cells n ++ Builtin.zeroCells (Value.agg #[.slice none 0 0, .slice none 0 0]).cells (grownCap w (0 + n) 0 39 - (0 + n)) = cs at *
    generalize grownCap w (0 + n) 0 39 = G at *
    rw [Nat.zero_add] at hrz hG
    have BX := (Blk.new w.drew 39 cs)
    have F : Fr (fun _ => False) w (w.drew.alloc (.cells cs 39)) := (Fr.refl w).drew.alloc _
    have hown : (w.drew.alloc (.cells cs 39)).ownsRow w.heap.size 39 2 (.slice (some ⟨w.heap.size, 0, none⟩) 0 G) 0 [] := ⟨rfl, .inr ⟨w.heap.size, G, cs, rfl, Nat.le_refl _, BX, Nat.zero_le _, hG2, hcsz, rfl⟩⟩
    have HO := Lib.hid hown
    have HF := Lib.hid F
    have HRZ := Lib.hid hrz
    have hG63 : (G : Int) ≤ 9223372036854775807 := by unfold maxLen at hG2; omega
    have h1 : (0 : Int) < (n : Int) := by omega
    have hgn : (n : Int) ≤ (G : Int) := by omega
    clear hown F BX hrz hi0 hz0 hz1 hz2 hcsz hG2
    go_enter Tryz.func92, Tryz.ntmps92
    go_wp2_with (at_builtin; refine Lib.wpList_append_run _ rfl _ _ _ _ rfl _ _ rfl rfl _ _ (HRZ.out _) ?_)
    all_goals
      go_ret
      exact ⟨⟨_, _, rfl, HO.out⟩, HF.out⟩

/-- A step's parts are appended. -/
theorem AttrRow.add {w wr : World} {base : Nat} {v u : Value} {l r : List Part} (h : AttrRow w wr base v l) (hb : base ≤ wr.heap.size) (F : Fr (fun _ => False) w wr) (hr : Attrs w u r) (hr0 : 0 < r.length) (hn : l.length + r.length ≤ 1099511627776) :
    ∃ a c w', (Builtin.append_ #[41, 41] 41 #[v, u]).run Tryz.prog wr = .ok (.slice a (l.length + r.length) c) w' ∧ AttrRow w w' base (.slice a (l.length + r.length) c) (l ++ r) ∧ Fr (fun k => v.ownBlock = some k) wr w' := by
  obtain ⟨cs, h1, h3⟩ := h
  obtain ⟨ar, cr, rfl, hrc, hrm, hx⟩ := hr
  obtain ⟨b, o, rfl, hy⟩ := hx hr0
  have hcell : ∀ i, i < r.length → ∃ p x y, r[i]? = some p ∧ w.cell? ⟨b, o + 2 * i, none⟩ = some x ∧ w.cell? ⟨b, o + 2 * i + 1, none⟩ = some y ∧ Vals w x (intCells p.o) ∧ Bytes w y p.b := fun i hi => by
    obtain ⟨x, y, e⟩ := hy i _ (List.getElem?_eq_getElem hi)
    exact ⟨_, x, y, List.getElem?_eq_getElem hi, e⟩
  have hall : ∀ k, k < r.length * 2 → ∃ x, w.cell? ⟨b, o + k, none⟩ = some x ∧ x.oneCell' = true := fun k hk => by
    obtain ⟨p, x, y, -, e1, e2, e3, e4⟩ := hcell (k / 2) (by omega)
    rcases Nat.mod_two_eq_zero_or_one k with h0 | h0
    · obtain ⟨ax, cx, rfl, -⟩ := Ints.form e3
      exact ⟨_, by rw [show k = 2 * (k / 2) from by omega]; exact e1, rfl⟩
    · obtain ⟨ay, cy, rfl, -⟩ := Vals.form e4
      exact ⟨_, by rw [show k = 2 * (k / 2) + 1 from by omega, ← Nat.add_assoc]; exact e2, rfl⟩
  obtain ⟨news, hnl, hnews⟩ : ∃ news : List Value, news.length = r.length * 2 ∧ ∀ k x, news[k]? = some x → w.cell? ⟨b, o + k, none⟩ = some x ∧ x.oneCell' = true := by
    refine ⟨(List.range (r.length * 2)).map fun k => (w.cell? ⟨b, o + k, none⟩).getD undef, by simp, fun k x hk => ?_⟩
    have hkl : k < r.length * 2 := by
      have := (List.getElem?_eq_some_iff.1 hk).1
      simpa using this
    obtain ⟨y, e1, e2⟩ := hall k hkl
    rw [List.getElem?_map, List.getElem?_range hkl] at hk
    simp only [Option.map_some, Option.some.injEq] at hk
    rw [e1] at hk
    simp only [Option.getD_some] at hk
    subst hk
    exact ⟨e1, e2⟩
  obtain ⟨a, c, w', hrun, h4, F2, -⟩ := append_gen Tryz.underlying41 info39 rfl (by decide) (by decide) h1 hb ⟨b, o, none⟩ r.length cr news hnl (fun k x hk => by
    rw [show (⟨b, o, none⟩ : Addr).add k = ⟨b, o + k, none⟩ from by unfold Addr.add; split <;> simp_all]
    exact F.cell (hnews k x hk).1 (fun h => h)) (fun x hx => by
    obtain ⟨k, hk⟩ := List.mem_iff_getElem?.1 hx
    exact (hnews k x hk).2) hn
  have hcl : cs.length = l.length * 2 := h1.1
  refine ⟨a, c, w', hrun, ⟨cs ++ news, by rw [List.length_append]; exact h4, fun i p hp => ?_⟩, F2⟩
  rcases Nat.lt_or_ge i l.length with hi | hi
  · rw [List.getElem?_append_left hi] at hp
    obtain ⟨x, y, e1, e2, e3⟩ := h3 i p hp
    exact ⟨x, y, by rw [List.getElem?_append_left (by omega)]; exact e1, by rw [List.getElem?_append_left (by omega)]; exact e2, e3⟩
  · rw [List.getElem?_append_right hi] at hp
    have hil := (List.getElem?_eq_some_iff.1 hp).1
    obtain ⟨q, x, y, hq, e1, e2, e3⟩ := hcell (i - l.length) hil
    rw [hp] at hq
    simp only [Option.some.injEq] at hq
    subst hq
    have g1 : news[2 * (i - l.length)]? = some x := by
      have hlt : 2 * (i - l.length) < news.length := by omega
      obtain ⟨z, hz⟩ : ∃ z, news[2 * (i - l.length)]? = some z := ⟨_, List.getElem?_eq_getElem hlt⟩
      have := (hnews _ z hz).1
      rw [e1] at this
      rw [hz, ← this]
    have g2 : news[2 * (i - l.length) + 1]? = some y := by
      have hlt : 2 * (i - l.length) + 1 < news.length := by omega
      obtain ⟨z, hz⟩ : ∃ z, news[2 * (i - l.length) + 1]? = some z := ⟨_, List.getElem?_eq_getElem hlt⟩
      have := (hnews _ z hz).1
      rw [← Nat.add_assoc, e2] at this
      rw [hz, ← this]
    refine ⟨x, y, ?_, ?_, e3⟩
    · rw [List.getElem?_append_right (by omega), show 2 * i - cs.length = 2 * (i - l.length) from by omega]; exact g1
    · rw [List.getElem?_append_right (by omega), show 2 * i + 1 - cs.length = 2 * (i - l.length) + 1 from by omega]; exact g2

set_option maxRecDepth 20000 in
set_option maxHeartbeats 2000000 in
theorem concatRdn_any (v : Value) (n : List (List Part)) (w : World) (h : NameAt w v n) (hn : n.length ≤ 1000) (hr : ∀ r ∈ n, 0 < r.length ∧ r.length ≤ 1000) :
    Calls Tryz.prog 59 #[v] w fun e w' => (∃ u, e = .returned u ∧ Attrs w' u n.flatten) ∧ Fr (fun _ => False) w w' := by
  have H := Lib.hid h
  have HR := Lib.hid hr
  obtain ⟨a, cap, rfl, -⟩ := h
  have hfl : ∀ j, ((n.take j).flatten).length ≤ 1000 * 1000 := fun j => by
    have : ∀ m : List (List Part), (∀ r ∈ m, r.length ≤ 1000) → m.flatten.length ≤ m.length * 1000 := by
      intro m
      induction m with
      | nil => intro _; simp
      | cons x t ih =>
        intro hm
        have h1 := hm x (by simp)
        have h2 := ih (fun r hr => hm r (by simp [hr]))
        simp only [List.flatten_cons, List.length_append, List.length_cons, Nat.add_mul]
        omega
    have h1 := this (n.take j) (fun r hm => (HR.out r (List.mem_of_mem_take hm)).2)
    have h2 : (n.take j).length * 1000 ≤ 1000 * 1000 := Nat.mul_le_mul_right _ (by rw [List.length_take]; omega)
    omega
  have HFL := Lib.hid hfl
  clear hr hfl
  go_enter Tryz.func59, Tryz.ntmps59
  go_wp2_with fail
  go_loopg [3, 11] n.length (fun g s i wr => ∃ (j m : Nat), g = n.length - j ∧ j ≤ n.length ∧ s = .int .i64 m ∧ i = .int .i64 j ∧ m = ((n.take j).flatten).length ∧ wr = w)
  case atStart => exact ⟨0, 0, rfl, Nat.zero_le _, rfl, rfl, rfl, rfl⟩
  case round =>
    obtain ⟨j, m, hg, hj, rfl, rfl, hm, rfl⟩ := hrel
    have HG := Lib.hid hg
    have hml : m ≤ 1000 * 1000 := by rw [hm]; exact HFL.out j
    have HM := Lib.hid hm
    clear hg hm
    by_cases hjl : j < n.length
    · obtain ⟨a0, cap0, he, _, _, hx⟩ := H.out
      simp only [Value.slice.injEq, true_and] at he
      obtain ⟨rfl, rfl⟩ := he
      obtain ⟨b, off, rfl, hy⟩ := hx (by omega)
      obtain ⟨r, hr⟩ : ∃ r, n[j]? = some r := ⟨_, List.getElem?_eq_getElem hjl⟩
      obtain ⟨x, e1, hA⟩ := hy j r hr
      obtain ⟨ax, cx, rfl⟩ := hA.form
      have HFT := Lib.hid (nmFlat_take hr)
      have b2 := (HR.out r (List.mem_of_getElem? hr)).2
      have r1 : (0 : Int) ≤ (j : Int) := by omega
      have r2 : (j : Int) < (n.length : Int) := by omega
      clear hx hy hr hA
      have hnn : ¬ ((m : Int) + (r.length : Int)) < 0 := by omega
      go_wp2_with fail
      go_roundg (n.length - (j + 1))
      case measure => rw [HG.out]; omega
      case rel => exact ⟨j + 1, m + r.length, rfl, by omega, by go_num, by go_num, by rw [HFT.out, HM.out, List.length_append], rfl⟩
    · obtain rfl : j = n.length := by omega
      obtain ⟨wo, rfl⟩ : ∃ wo : World, wo = wr := ⟨_, rfl⟩
      have HGR := Lib.hid (growAttr_any m wo (by omega))
      clear hjl
      go_wp2_with fail
      refine HGR.out.mono ?_
      rintro e w1 ⟨⟨a1, c1, rfl, hown1⟩, F1⟩
      have HO1 := Lib.hid hown1
      have HF1 := Lib.hid F1
      clear HGR hown1 F1
      go_wp2_with fail
      go_loopg [6, 27] n.length (fun g s i w2 => ∃ (j : Nat) (l : List Part) (a2 : Option Addr) (c2 : Nat), g = n.length - j ∧ j ≤ n.length ∧ s = .slice a2 l.length c2 ∧ i = .int .i64 j ∧ l = (n.take j).flatten ∧ AttrRow wo w2 wo.heap.size (.slice a2 l.length c2) l ∧ Fr (fun _ => False) wo w2)
      case atStart => exact ⟨0, [], a1, c1, rfl, Nat.zero_le _, rfl, rfl, rfl, AttrRow.start HO1.out, HF1.out⟩
      case round =>
        obtain ⟨j, l, a2, c2, hg, hj, rfl, rfl, hl, hrow, F2⟩ := hrel
        have HG := Lib.hid hg
        have HRW := Lib.hid hrow
        have HF2 := Lib.hid F2
        have hll : l.length ≤ 1000 * 1000 := by rw [hl]; exact HFL.out j
        have HL := Lib.hid hl
        clear hg hrow hl
        by_cases hjl : j < n.length
        · obtain ⟨a0, cap0, he, _, _, hx⟩ := H.out
          simp only [Value.slice.injEq, true_and] at he
          obtain ⟨rfl, rfl⟩ := he
          obtain ⟨b, off, rfl, hy⟩ := hx (by omega)
          obtain ⟨r, hr⟩ : ∃ r, n[j]? = some r := ⟨_, List.getElem?_eq_getElem hjl⟩
          obtain ⟨x, e0, hA⟩ := hy j r hr
          have e1 := F2.cell e0 (fun h => h)
          have hrr := HR.out r (List.mem_of_getElem? hr)
          have HFT := Lib.hid (nmFlat_take hr)
          have hs2 := F2.size
          obtain ⟨a4, c4, w4, hrun, hrow4, F4⟩ := AttrRow.add HRW.out hs2 F2 hA hrr.1 (by omega)
          obtain ⟨ax, cx, rfl⟩ := hA.form
          have hbk : ∀ k, (Value.slice a2 l.length c2).ownBlock = some k → wo.heap.size ≤ k := fun k hk => by
            obtain ⟨cs, h1, -⟩ := HRW.out
            exact (h1.lt k hk).1
          have HF4 := Lib.hid (F2.trans' F4 (fun i hi e => by have := hbk i e; omega))
          have HRUN := Lib.hid hrun
          have HRW4 := Lib.hid hrow4
          have r1 : (0 : Int) ≤ (j : Int) := by omega
          have r2 : (j : Int) < (n.length : Int) := by omega
          clear hx hy hr hA hbk F4 hrun hrow4 F2 HRW HF2 e0
          go_wp2_with (at_builtin; refine wpList_append_run (by rfl) (.tmp 31) (.tmp 32) 41 (by rfl) _ w4 (by exact HRUN.out) ?_)
          go_roundg (n.length - (j + 1))
          case measure => rw [HG.out]; omega
          case rel => exact ⟨j + 1, l ++ r, a4, c4, rfl, by omega, by rw [List.length_append], by go_num, by rw [HFT.out, HL.out], by rw [List.length_append]; exact HRW4.out, HF4.out⟩
        · obtain rfl : j = n.length := by omega
          have hl2 := HL.out
          rw [List.take_length] at hl2
          have HAT := Lib.hid (HRW.out.at F2)
          have HL2 := Lib.hid hl2
          clear hl2 HRW
          go_wp2_with fail
          go_ret
          exact ⟨⟨_, rfl, by rw [← HL2.out]; exact HAT.out⟩, HF2.out⟩
end Go.Proofs.YtgffhiopbnkjbaaGreatDoor

namespace Go.Q
open Go Go.RowKit
theorem Ints.cut {w : World} {a : Option Addr} {c : Nat} {l : List Int} (h : Ints w (.slice a l.length c) l) (N m : Nat) (hm : m = min l.length N) : Ints w (.slice a m c) (l.take N) := by
  obtain ⟨a0, c0, he, h1, h2, -⟩ := Ints.form h
  simp only [Value.slice.injEq] at he
  obtain ⟨rfl, -, rfl⟩ := he
  have := Vals.sub h 0 m (Nat.zero_le _) (by omega) a c (fun _ b o e => by simpa using e) (by omega) h2
  simp only [Nat.sub_zero, List.drop_zero] at this
  have e : l.take N = l.take m := by
    rw [hm, ← List.take_take, List.take_of_length_le (l := l.take N) (by rw [List.length_take]; omega)]
  unfold Ints intCells
  rw [e, List.map_take]
  exact this
theorem Vals.cut {w : World} {a : Option Addr} {c : Nat} {l : List UInt8} (h : Bytes w (.slice a l.length c) l) (N m : Nat) (hm : m = min l.length N) : Bytes w (.slice a m c) (l.take N) := by
  obtain ⟨a0, c0, he, h1, h2, -⟩ := Vals.form h
  simp only [Value.slice.injEq] at he
  obtain ⟨rfl, -, rfl⟩ := he
  have := Vals.sub h 0 m (Nat.zero_le _) (by omega) a c (fun _ b o e => by simpa using e) (by omega) h2
  simp only [Nat.sub_zero, List.drop_zero] at this
  have e : l.take N = l.take m := by
    rw [hm, ← List.take_take, List.take_of_length_le (l := l.take N) (by rw [List.length_take]; omega)]
  unfold Bytes Lib.byteCells
  rw [e, List.map_take]
  exact this
theorem map_take_succ {α β : Type} (f : α → β) {l : List α} {j : Nat} {x : α} (h : l[j]? = some x) : (l.take (j + 1)).map f = (l.take j).map f ++ [f x] := by
  rw [List.take_add_one, h]
  simp
end Go.Q
namespace Go.Proofs.YtgffhiopbnkjbaaGreatDoor
open Go Go.RowKit Go.Q
set_option linter.unusedSimpArgs false

set_option maxRecDepth 20000 in
set_option maxHeartbeats 4000000 in
theorem lawStep_any (v : Value) (l : List Part) (w0 w : World) (h : Attrs w0 v l) (F0 : Fr (fun _ => False) w0 w) :
    Calls Tryz.prog 53 #[v] w fun e w' => (∃ a c, e = .returned (.slice a (cutStep l).length c) ∧ ARow 39 w0 w' w.heap.size (.slice a (cutStep l).length c) (cutStep l)) ∧ Fr (fun _ => False) w w' := by
  have H := Lib.hid h
  have HF0 := Lib.hid F0
  obtain ⟨a, cap, rfl, -⟩ := h
  have hcs : cutStep l = (l.take 20).map cutPart := rfl
  have HCS := Lib.hid hcs
  clear hcs F0
  go_enter Tryz.func53, Tryz.ntmps53
  go_wp2_with fail
  go_loopg [3, 4] l.length (fun g u i wr => ∃ (j : Nat) (au : Option Addr) (cu : Nat), g = l.length - j ∧ j ≤ l.length ∧ j ≤ 20 ∧ u = .slice au j cu ∧ i = .int .i64 j ∧ ARow 39 w0 wr w.heap.size (.slice au j cu) ((l.take j).map cutPart) ∧ Fr (fun _ => False) w wr)
  case atStart => exact ⟨0, none, 0, rfl, Nat.zero_le _, by omega, rfl, rfl, ARow.nil _ _ _ _, Fr.refl _⟩
  case round =>
    obtain ⟨j, au, cu, hg, hj, hj20, rfl, rfl, hrow, F⟩ := hrel
    have HG := Lib.hid hg
    have HRW := Lib.hid hrow
    have HF := Lib.hid F
    have hml : ((l.take j).map cutPart).length = j := by rw [List.length_map, List.length_take]; omega
    have HML := Lib.hid hml
    clear hg hrow hml
    by_cases hjl : j < l.length
    · have q1 : (j : Int) < (l.length : Int) := by omega
      by_cases h20 : j < 20
      · have q2 : (j : Int) < 20 := by omega
        obtain ⟨a0, cap0, he, _, _, hx⟩ := H.out
        simp only [Value.slice.injEq, true_and] at he
        obtain ⟨rfl, rfl⟩ := he
        obtain ⟨b, off, rfl, hy⟩ := hx (by omega)
        obtain ⟨p, hp⟩ : ∃ p, l[j]? = some p := ⟨_, List.getElem?_eq_getElem hjl⟩
        obtain ⟨x, y, e1, e2, hpx, hpy⟩ := hy j p hp
        obtain ⟨ax, cx, rfl, hcx, hmx, -⟩ := Ints.form hpx
        obtain ⟨ay, cy, rfl, hcy, hmy, -⟩ := Vals.form hpy
        have e1' : wr.cell? ⟨b, off + j * 2, none⟩ = some (.slice ax p.o.length cx) := by rw [Nat.mul_comm]; exact (HF0.out.trans F).cell e1 (fun h => h)
        have e2' : wr.cell? ⟨b, off + j * 2 + 1, none⟩ = some (.slice ay p.b.length cy) := by rw [Nat.mul_comm]; exact (HF0.out.trans F).cell e2 (fun h => h)
        obtain ⟨mo, hmo⟩ : ∃ m : Nat, m = min p.o.length 40 := ⟨_, rfl⟩
        obtain ⟨mb, hmb⟩ : ∃ m : Nat, m = min p.b.length 200 := ⟨_, rfl⟩
        have HPX := Lib.hid (Ints.cut hpx 40 mo hmo)
        have HPY := Lib.hid (Vals.cut hpy 200 mb hmb)
        have HMT := Lib.hid (map_take_succ cutPart hp)
        unfold maxLen at hmx hmy
        have c1 : min (p.o.length : Int) 40 = (mo : Int) := by omega
        have c2 : min (p.b.length : Int) 200 = (mb : Int) := by omega
        have c3 : (mo : Int) ≤ (cx : Int) := by omega
        have c4 : (mb : Int) ≤ (cy : Int) := by omega
        have c5 : (0 : Int) ≤ (mo : Int) := by omega
        have c6 : (0 : Int) ≤ (mb : Int) := by omega
        have r1 : (0 : Int) ≤ (j : Int) := by omega
        clear hx hy hp e1 e2 hpx hpy hmo hmb
        go_upto_region 6 with fail
        obtain ⟨z, hz⟩ : ∃ z, z = wr.heap.size := ⟨_, rfl⟩
        have BA := Blk.new wr 63 #[.slice ax p.o.length cx, .slice ay p.b.length cy]
        have F1 : Fr (fun _ => False) wr (wr.alloc (.cells #[.slice ax p.o.length cx, .slice ay p.b.length cy] 63)) := (Fr.refl wr).alloc _
        rw [← hz] at BA ⊢
        have HZ := Lib.hid hz
        clear hz e1' e2'
        generalize (wr.alloc (.cells #[.slice ax p.o.length cx, .slice ay p.b.length cy] 63)) = w1 at *
        obtain ⟨wa, hwa⟩ : ∃ wa, wa = w1.drew.alloc (.cells #[.slice ax mo cx, .slice ay mb cy] 39) := ⟨_, rfl⟩
        have Fa : Fr (fun _ => False) wr wa := by rw [hwa]; exact F1.drew.alloc _
        have BAa : Blk wa z 63 #[.slice ax p.o.length cx, .slice ay p.b.length cy] := by rw [hwa]; exact BA.drew.alloc _
        have BX : Blk wa w1.heap.size 39 #[.slice ax mo cx, .slice ay mb cy] := by rw [hwa]; exact Blk.new w1.drew _ _
        obtain ⟨a7, c7, w7, hrun, hrow7, F7⟩ := ARow.add Tryz.underlying41 info39 (HRW.out.fr Fa (fun _ _ h => h)) (HF.out.trans Fa).size (Fr.refl wa) w1.heap.size BX (cutPart p) HPX.out HPY.out (by rw [HML.out]; omega)
        have HG7 := Lib.hid ((HF.out.trans Fa).trans' F7 (fun i hi e => absurd hi (by have := (HRW.out.keep i e).1; omega)))
        have BA7 := BAa.fr F7 (fun e => by have := (HRW.out.keep z e).2; have := HZ.out; omega)
        rw [HML.out] at hrun hrow7
        have HRUN := Lib.hid hrun
        have HROW7 := Lib.hid hrow7
        have HC0 := Lib.hid BA.drew.cell
        have HCa := Lib.hid BAa.cell
        have HC7 := Lib.hid BA7.cell
        rw [hwa] at HCa HRUN
        clear hrun hrow7 F7 BA7 BAa BX Fa F1 BA hwa
        go_region_held3 (fun w' => ∀ j, w'.cell? ⟨z, j, none⟩ = (#[.slice ax p.o.length cx, .slice ay p.b.length cy] : Array Value)[j]?) (first | exact HC0.out | exact HCa.out | exact HC7.out) (first
          | (refine step_append_run (by rfl) (.tmp 20) (.tmp 36) 41 (by rfl) _ w7 (by exact HRUN.out) ?_)
          | fail)
        all_goals
          go_wp2_with fail
          go_roundg (l.length - (j + 1))
          case measure => rw [HG.out]; omega
          case rel => exact ⟨j + 1, a7, c7, rfl, by omega, by omega, rfl, by go_num, by rw [HMT.out]; exact HROW7.out, HG7.out⟩
      · obtain rfl : j = 20 := by omega
        have q2 : ¬ ((20 : Nat) : Int) < 20 := by omega
        have hres : (l.take 20).map cutPart = cutStep l := HCS.out.symm
        have hrow := HRW.out
        rw [hres] at hrow
        have hlen : 20 = (cutStep l).length := by rw [← hres, HML.out]
        have HL := Lib.hid hlen
        have HROW := Lib.hid hrow
        clear hres hrow hlen
        go_wp2_with fail
        go_ret
        exact ⟨⟨au, cu, by rw [← HL.out]; rfl, by rw [← HL.out]; exact HROW.out⟩, F⟩
    · obtain rfl : j = l.length := by omega
      have hres : (l.take l.length).map cutPart = cutStep l := by rw [HCS.out, List.take_of_length_le hj20, List.take_length]
      have hrow := HRW.out
      rw [hres] at hrow
      have hlen : l.length = (cutStep l).length := by rw [← hres, HML.out]
      have HL := Lib.hid hlen
      have HROW := Lib.hid hrow
      clear hres hrow hlen
      go_wp2_with fail
      go_ret
      exact ⟨⟨au, cu, by rw [← HL.out]; rfl, by rw [← HL.out]; exact HROW.out⟩, F⟩

set_option maxRecDepth 20000 in
set_option maxHeartbeats 4000000 in
theorem lawTo_any (v : Value) (n : List (List Part)) (w : World) (h : NameAt w v n) :
    Calls Tryz.prog 18 #[v] w fun e w' => (∃ a c, e = .returned (.slice a (cutName n).length c) ∧ NRow 41 w' w.heap.size (.slice a (cutName n).length c) (cutName n)) ∧ Fr (fun _ => False) w w' := by
  have H := Lib.hid h
  obtain ⟨a, cap, rfl, -⟩ := h
  have hcs : cutName n = (n.take 70).map cutStep := rfl
  have HCS := Lib.hid hcs
  clear hcs
  go_enter Tryz.func18, Tryz.ntmps18
  go_wp2_with fail
  go_loopg [3, 4] n.length (fun g u i wr => ∃ (j : Nat) (au : Option Addr) (cu : Nat), g = n.length - j ∧ j ≤ n.length ∧ j ≤ 70 ∧ u = .slice au j cu ∧ i = .int .i64 j ∧ NRow 41 wr w.heap.size (.slice au j cu) ((n.take j).map cutStep) ∧ Fr (fun _ => False) w wr)
  case atStart => exact ⟨0, none, 0, rfl, Nat.zero_le _, by omega, rfl, rfl, NRow.nil _ _ _, Fr.refl _⟩
  case round =>
    obtain ⟨j, au, cu, hg, hj, hj70, rfl, rfl, hrow, F⟩ := hrel
    have HG := Lib.hid hg
    have HRW := Lib.hid hrow
    have HF := Lib.hid F
    have hml : ((n.take j).map cutStep).length = j := by rw [List.length_map, List.length_take]; omega
    have HML := Lib.hid hml
    clear hg hrow hml
    by_cases hjl : j < n.length
    · have q1 : (j : Int) < (n.length : Int) := by omega
      by_cases h70 : j < 70
      · have q2 : (j : Int) < 70 := by omega
        obtain ⟨a0, cap0, he, _, _, hx⟩ := H.out
        simp only [Value.slice.injEq, true_and] at he
        obtain ⟨rfl, rfl⟩ := he
        obtain ⟨b, off, rfl, hy⟩ := hx (by omega)
        obtain ⟨r, hr⟩ : ∃ r, n[j]? = some r := ⟨_, List.getElem?_eq_getElem hjl⟩
        obtain ⟨x, e0, hA⟩ := hy j r hr
        have e1 := F.cell e0 (fun h => h)
        have HS := Lib.hid (lawStep_any x r w wr hA F)
        have HMT := Lib.hid (map_take_succ cutStep hr)
        have r1 : (0 : Int) ≤ (j : Int) := by omega
        clear hx hy hr e0 hA
        obtain ⟨wo, hwo⟩ : ∃ wo : World, wo = wr := ⟨_, rfl⟩
        obtain rfl := hwo
        go_wp2_with fail
        refine HS.out.mono ?_
        rintro e w2 ⟨⟨a2, c2, rfl, hrow2⟩, F2⟩
        have hkp := HRW.out.keep
        have hk2 : Kept (fun W => Attrs W (.slice a2 (cutStep r).length c2) (cutStep r)) (fun k => (Value.slice au j cu).ownBlock = some k) w2 := hrow2.kept (HF.out.trans F2) _ (fun k e => hkp k e)
        obtain ⟨a7, c7, w7, hrun, hrow7, F7⟩ := NRow.add Tryz.underlying33 info41 (HRW.out.old F2) (HF.out.trans F2).size ((Fr.refl w2).alloc (.cells #[.slice a2 (cutStep r).length c2] 41)) w2.heap.size _ (cutStep r) (Blk.new w2 41 #[.slice a2 (cutStep r).length c2]) rfl hk2 (by rw [HML.out]; omega)
        have HG7 := Lib.hid ((HF.out.trans F2).trans' F7 (fun i hi e => absurd hi (by have := (hkp i e).1; omega)))
        rw [HML.out] at hrun hrow7
        have HRUN := Lib.hid hrun
        have HROW7 := Lib.hid hrow7
        clear hrun hrow7 F7 hk2 hkp hrow2 F2 e1 HS
        go_wp2_with (at_builtin; refine wpList_append_run (by rfl) (.tmp 15) (.tmp 21) 33 (by rfl) _ w7 (by exact HRUN.out) ?_)
        go_roundg (n.length - (j + 1))
        case measure => rw [HG.out]; omega
        case rel => exact ⟨j + 1, a7, c7, rfl, by omega, by omega, rfl, by go_num, by rw [HMT.out]; exact HROW7.out, HG7.out⟩
      · obtain rfl : j = 70 := by omega
        have q2 : ¬ ((70 : Nat) : Int) < 70 := by omega
        have hres : (n.take 70).map cutStep = cutName n := HCS.out.symm
        have hrow := HRW.out
        rw [hres] at hrow
        have hlen : 70 = (cutName n).length := by rw [← hres, HML.out]
        have HL := Lib.hid hlen
        have HROW := Lib.hid hrow
        clear hres hrow hlen
        go_wp2_with fail
        go_ret
        exact ⟨⟨au, cu, by rw [← HL.out]; rfl, by rw [← HL.out]; exact HROW.out⟩, F⟩
    · obtain rfl : j = n.length := by omega
      have hres : (n.take n.length).map cutStep = cutName n := by rw [HCS.out, List.take_of_length_le hj70, List.take_length]
      have hrow := HRW.out
      rw [hres] at hrow
      have hlen : n.length = (cutName n).length := by rw [← hres, HML.out]
      have HL := Lib.hid hlen
      have HROW := Lib.hid hrow
      clear hres hrow hlen
      go_wp2_with fail
      go_ret
      exact ⟨⟨au, cu, by rw [← HL.out]; rfl, by rw [← HL.out]; exact HROW.out⟩, F⟩

theorem info63 : (Tryz.prog.info? 63).map (fun i => (i.zero, i.size, i.bytes)) = some (some (.agg #[.slice none 0 0, .slice none 0 0]), 2, 48) := by kernel_rfl
theorem info60 : (Tryz.prog.info? 60).map (fun i => (i.zero, i.size, i.bytes)) = some (some (.slice none 0 0), 1, 24) := by kernel_rfl

set_option maxRecDepth 20000 in
set_option maxHeartbeats 8000000 in
theorem lawOf_any (v : Value) (n : List (List Part)) (w : World) (h : NameAt w v n) (hn : n.length ≤ 1000000) (hr0 : ∀ r ∈ n, r.length ≤ 1000000) :
    Calls Tryz.prog 19 #[v] w fun e w' => (∃ a c, e = .returned (.slice a n.length c) ∧ NRow 60 w' w.heap.size (.slice a n.length c) n) ∧ Fr (fun _ => False) w w' := by
  have H := Lib.hid h
  have HR0 := Lib.hid hr0
  obtain ⟨a, cap, rfl, -⟩ := h
  clear hr0
  go_enter Tryz.func19, Tryz.ntmps19
  go_wp2_with fail
  go_loopg [3, 4] n.length (fun g u i wr => ∃ (j : Nat) (au : Option Addr) (cu : Nat), g = n.length - j ∧ j ≤ n.length ∧ u = .slice au j cu ∧ i = .int .i64 j ∧ NRow 60 wr w.heap.size (.slice au j cu) (n.take j) ∧ Fr (fun _ => False) w wr)
  case atStart => exact ⟨0, none, 0, rfl, Nat.zero_le _, rfl, rfl, NRow.nil _ _ _, Fr.refl _⟩
  case round =>
    obtain ⟨j, au, cu, hg, hj, rfl, rfl, hrow, F⟩ := hrel
    have HG := Lib.hid hg
    have HRW := Lib.hid hrow
    have HF := Lib.hid F
    have hml : (n.take j).length = j := by rw [List.length_take]; omega
    have HML := Lib.hid hml
    clear hg hrow hml
    by_cases hjl : j < n.length
    · have q1 : (j : Int) < (n.length : Int) := by omega
      obtain ⟨a0, cap0, he, _, _, hx⟩ := H.out
      simp only [Value.slice.injEq, true_and] at he
      obtain ⟨rfl, rfl⟩ := he
      obtain ⟨b, off, rfl, hy⟩ := hx (by omega)
      obtain ⟨r, hr⟩ : ∃ r, n[j]? = some r := ⟨_, List.getElem?_eq_getElem hjl⟩
      obtain ⟨x, e0, hA⟩ := hy j r hr
      have hrl := HR0.out r (List.mem_of_getElem? hr)
      have HE0 := Lib.hid e0
      have HMT := Lib.hid (show n.take (j + 1) = n.take j ++ [r] from by rw [List.take_add_one, hr]; rfl)
      have HA := Lib.hid hA
      obtain ⟨ar, cr, rfl, -⟩ := hA
      have r1 : (0 : Int) ≤ (j : Int) := by omega
      have r2 : (j : Int) < (n.length : Int) := by omega
      clear hx hy hr e0 F
      obtain ⟨wo, hwo⟩ : ∃ wo : World, wo = wr := ⟨_, rfl⟩
      obtain rfl := hwo
      go_wp2_with fail
      go_loopg [5, 6] r.length (fun g u k wr => ∃ (i : Nat) (a2 : Option Addr) (c2 : Nat), g = r.length - i ∧ i ≤ r.length ∧ u = .slice a2 i c2 ∧ k = .int .i64 i ∧ ARow 63 w wr wo.heap.size (.slice a2 i c2) (r.take i) ∧ Fr (fun _ => False) wo wr)
      case atStart => exact ⟨0, none, 0, rfl, Nat.zero_le _, rfl, rfl, ARow.nil _ _ _ _, Fr.refl _⟩
      case round =>
        obtain ⟨i, a2, c2, hg, hi, rfl, rfl, hrow2, F2⟩ := hrel
        have HG2 := Lib.hid hg
        have HRW2 := Lib.hid hrow2
        have HF2 := Lib.hid F2
        have hml : (r.take i).length = i := by rw [List.length_take]; omega
        have HML2 := Lib.hid hml
        have e0 := (HF.out.trans F2).cell HE0.out (fun h => h)
        clear hg hrow2 hml
        by_cases hil : i < r.length
        · have q2 : (i : Int) < (r.length : Int) := by omega
          obtain ⟨a1, cap1, he, _, _, hx⟩ := HA.out
          simp only [Value.slice.injEq, true_and] at he
          obtain ⟨rfl, rfl⟩ := he
          obtain ⟨b1, o1, rfl, hy⟩ := hx (by omega)
          obtain ⟨p, hp⟩ : ∃ p, r[i]? = some p := ⟨_, List.getElem?_eq_getElem hil⟩
          obtain ⟨x, y, e1, e2, hpx, hpy⟩ := hy i p hp
          obtain ⟨ax, cx, rfl, -⟩ := Ints.form hpx
          obtain ⟨ay, cy, rfl, -⟩ := Vals.form hpy
          have e1' : w.cell? ⟨b1, o1 + i * 2, none⟩ = some (.slice ax p.o.length cx) := by rw [Nat.mul_comm]; exact e1
          have e2' : w.cell? ⟨b1, o1 + i * 2 + 1, none⟩ = some (.slice ay p.b.length cy) := by rw [Nat.mul_comm]; exact e2
          have HMT2 := Lib.hid (show r.take (i + 1) = r.take i ++ [p] from by rw [List.take_add_one, hp]; rfl)
          have s1 : (0 : Int) ≤ (i : Int) := by omega
          obtain ⟨wa, hwa⟩ : ∃ wa, wa = wr.drew.alloc (.cells #[.slice ax p.o.length cx, .slice ay p.b.length cy] 63) := ⟨_, rfl⟩
          have Fa : Fr (fun _ => False) wr wa := by rw [hwa]; exact (Fr.refl wr).drew.alloc _
          have BX : Blk wa wr.heap.size 63 #[.slice ax p.o.length cx, .slice ay p.b.length cy] := by rw [hwa]; exact Blk.new wr.drew _ _
          obtain ⟨a7, c7, w7, hrun, hrow7, F7⟩ := ARow.add Tryz.underlying60 info63 (HRW2.out.fr Fa (fun _ _ h => h)) (HF2.out.trans Fa).size (Fr.refl wa) wr.heap.size BX p hpx hpy (by rw [HML2.out]; omega)
          have G7 : Fr (fun _ => False) wo w7 := (HF2.out.trans Fa).trans' F7 (fun i hi e => absurd hi (by have := (HRW2.out.keep i e).1; omega))
          have HG7 := Lib.hid G7
          rw [HML2.out] at hrun hrow7
          have HRUN := Lib.hid hrun
          have HROW7 := Lib.hid hrow7
          have hS : ∀ w', Fr (fun _ => False) w w' → w'.cell? ⟨b, off + j, none⟩ = some (.slice (some ⟨b1, o1, none⟩) r.length cr) ∧ w'.cell? ⟨b1, o1 + i * 2, none⟩ = some (.slice ax p.o.length cx) ∧ w'.cell? ⟨b1, o1 + i * 2 + 1, none⟩ = some (.slice ay p.b.length cy) := fun w' f => ⟨f.cell HE0.out (fun h => h), f.cell e1' (fun h => h), f.cell e2' (fun h => h)⟩
          have HC0 := Lib.hid (hS wr.drew ((HF.out.trans HF2.out).drew))
          have HCa := Lib.hid (hS wa ((HF.out.trans HF2.out).trans Fa))
          have HC7 := Lib.hid (hS w7 (HF.out.trans G7))
          rw [hwa] at HCa HRUN
          clear hrun hrow7 F7 G7 BX Fa hwa hx hy hp e1 e2 e1' e2' hpx hpy hS
          go_upto_region 9 with fail
          go_region_held3 (fun w' => w'.cell? ⟨b, off + j, none⟩ = some (.slice (some ⟨b1, o1, none⟩) r.length cr) ∧ w'.cell? ⟨b1, o1 + i * 2, none⟩ = some (.slice ax p.o.length cx) ∧ w'.cell? ⟨b1, o1 + i * 2 + 1, none⟩ = some (.slice ay p.b.length cy)) (first | exact HC0.out | exact HCa.out | exact HC7.out) (first
            | (refine step_append_run (by rfl) (.tmp 22) (.tmp 40) 60 (by rfl) _ w7 (by exact HRUN.out) ?_)
            | fail)
          all_goals
            go_wp2_with fail
            go_roundg (r.length - (i + 1))
            case measure => rw [HG2.out]; omega
            case rel => exact ⟨i + 1, a7, c7, rfl, by omega, rfl, by go_num, by rw [HMT2.out]; exact HROW7.out, HG7.out⟩
        · obtain rfl : i = r.length := by omega
          have hrow2 := HRW2.out
          rw [List.take_length] at hrow2
          have hkp := HRW.out.keep
          have hk2 : Kept (fun W => Attrs W (.slice a2 r.length c2) r) (fun k => (Value.slice au j cu).ownBlock = some k) wr := hrow2.kept (HF.out.trans HF2.out) _ (fun k e => hkp k e)
          obtain ⟨a7, c7, w7, hrun, hrow7, F7⟩ := NRow.add Tryz.underlying46 info60 (HRW.out.old HF2.out) (HF.out.trans HF2.out).size ((Fr.refl wr).alloc (.cells #[.slice a2 r.length c2] 60)) wr.heap.size _ r (Blk.new wr 60 #[.slice a2 r.length c2]) rfl hk2 (by rw [HML.out]; omega)
          have HG7 := Lib.hid ((HF.out.trans HF2.out).trans' F7 (fun i hi e => absurd hi (by have := (hkp i e).1; omega)))
          rw [HML.out] at hrun hrow7
          have HRUN := Lib.hid hrun
          have HROW7 := Lib.hid hrow7
          clear hrun hrow7 F7 hk2 hkp hrow2
          go_wp2_with (at_builtin; refine wpList_append_run (by rfl) (.tmp 42) (.tmp 44) 46 (by rfl) _ w7 (by exact HRUN.out) ?_)
          go_roundg (n.length - (j + 1))
          case measure => rw [HG.out]; omega
          case rel => exact ⟨j + 1, a7, c7, rfl, by omega, rfl, by go_num, by rw [HMT.out]; exact HROW7.out, HG7.out⟩
    · obtain rfl : j = n.length := by omega
      have hrow := HRW.out
      rw [List.take_length] at hrow
      have HROW := Lib.hid hrow
      clear hrow
      go_wp2_with fail
      go_ret
      exact ⟨⟨au, cu, rfl, HROW.out⟩, F⟩
end Go.Proofs.YtgffhiopbnkjbaaGreatDoor

namespace Go.Q
open Go Go.RowKit
def amongB (n : Int) (l : List UInt8) : Bool := l.any fun x => (x.toNat : Int) == n
theorem among_take {n : Int} {l : List UInt8} {j : Nat} {x : UInt8} (h : l[j]? = some x) : amongB n (l.take (j + 1)) = (amongB n (l.take j) || ((x.toNat : Int) == n)) := by
  unfold amongB
  rw [List.take_add_one, h]
  simp
theorem among_mem {n : Int} {l : List UInt8} {j : Nat} {x : UInt8} (h : l[j]? = some x) (hx : ((x.toNat : Int) == n) = true) : amongB n l = true :=
  List.any_eq_true.2 ⟨x, List.mem_of_getElem? h, hx⟩
abbrev printL : List UInt8 := [97, 98, 99, 100, 101, 102, 103, 104, 105, 106, 107, 108, 109, 110, 111, 112, 113, 114, 115, 116, 117, 118, 119, 120, 121, 122, 65, 66, 67, 68, 69, 70, 71, 72, 73, 74, 75, 76, 77, 78, 79, 80, 81, 82, 83, 84, 85, 86, 87, 88, 89, 90, 48, 49, 50, 51, 52, 53, 54, 55, 56, 57, 32, 39, 40, 41, 43, 44, 45, 46, 47, 58, 61, 63]
set_option maxRecDepth 100000 in
theorem among_small : ∀ m : Fin 256, amongB (m.val : Int) printL = printables.contains (UInt8.ofNat m.val) := by decide +kernel
theorem among_may (n : Int) : amongB n printL = mayS 19 n := by
  simp only [mayS, show ¬ ((19 : Int) = 12) from by decide, if_false, if_true]
  by_cases h : 0 ≤ n ∧ n < 256
  · obtain ⟨m, rfl⟩ : ∃ m : Nat, n = m := ⟨n.toNat, by omega⟩
    have := among_small ⟨m, by omega⟩
    simp only at this
    rw [this, decide_eq_true h, Bool.true_and, Int.toNat_natCast]
  · rw [decide_eq_false h, Bool.false_and, amongB, List.any_eq_false]
    intro x _
    have := x.toNat_lt
    simp only [beq_iff_eq]
    omega
end Go.Q
namespace Go.Proofs.YtgffhiopbnkjbaaGreatDoor
open Go Go.RowKit Go.Q

set_option maxRecDepth 20000 in
theorem r06Kind_any (k : Int) (w : World) :
    Calls Tryz.prog 47 #[.int .i64 k] w fun e w' => e = .returned (.bool (Go.Q.kindOk k)) ∧ w = w' := by
  by_cases h1 : k = 12
  · subst h1
    go_enter Tryz.func47, Tryz.ntmps47
    go_wp2_with fail
    go_ret
    exact ⟨rfl, rfl⟩
  by_cases h2 : k = 19
  · subst h2
    go_enter Tryz.func47, Tryz.ntmps47
    go_wp2_with fail
    go_ret
    exact ⟨rfl, rfl⟩
  by_cases h3 : k = 20
  · subst h3
    go_enter Tryz.func47, Tryz.ntmps47
    go_wp2_with fail
    go_ret
    exact ⟨rfl, rfl⟩
  by_cases h4 : k = 22
  · subst h4
    go_enter Tryz.func47, Tryz.ntmps47
    go_wp2_with fail
    go_ret
    exact ⟨rfl, rfl⟩
  by_cases h5 : k = 26
  · subst h5
    go_enter Tryz.func47, Tryz.ntmps47
    go_wp2_with fail
    go_ret
    exact ⟨rfl, rfl⟩
  have hk : Go.Q.kindOk k = (k == 30) := by
    unfold Go.Q.kindOk
    rw [Bool.eq_iff_iff, decide_eq_true_eq, beq_iff_eq]
    omega
  have HK := Lib.hid hk
  have q1 : (k == 12) = false := beq_eq_false_iff_ne.2 h1
  have q2 : (k == 19) = false := beq_eq_false_iff_ne.2 h2
  have q3 : (k == 20) = false := beq_eq_false_iff_ne.2 h3
  have q4 : (k == 22) = false := beq_eq_false_iff_ne.2 h4
  have q5 : (k == 26) = false := beq_eq_false_iff_ne.2 h5
  clear hk
  go_enter Tryz.func47, Tryz.ntmps47
  go_wp2_with fail
  go_ret
  exact ⟨by rw [HK.out]; rfl, rfl⟩

set_option maxRecDepth 20000 in
theorem r06among_any (n : Int) (l : List UInt8) (w : World) (hl : l.length ≤ 1099511627776) :
    Calls Tryz.prog 84 #[.int .i64 n, str l] w fun e w' => e = .returned (.bool (amongB n l)) ∧ w = w' := by
  have hsz : (ByteArray.mk l.toArray).size = l.length := by simp [ByteArray.size]
  go_enter Tryz.func84, Tryz.ntmps84
  go_wp2_with fail
  go_loopg [5] l.length (fun g i wr => ∃ j : Nat, g = l.length - j ∧ j ≤ l.length ∧ i = .int .i64 j ∧ amongB n (l.take j) = false ∧ wr = w)
  case atStart => exact ⟨0, rfl, Nat.zero_le _, rfl, rfl, rfl⟩
  case round =>
    obtain ⟨j, hg, hj, rfl, hall, rfl⟩ := hrel
    have HG := Lib.hid hg
    have HA := Lib.hid hall
    clear hg hall
    by_cases hjl : j < l.length
    · obtain ⟨x, hxj⟩ : ∃ x, l[j]? = some x := ⟨_, List.getElem?_eq_getElem hjl⟩
      have hix : ∀ w, (Instr.index 9 (str l) (.int .i64 j)).run Tryz.prog w = .ok (.int .u8 x.toNat) w := fun w => by
        rw [run_index_string w 9 _ .i64 j Tryz.underlying9, dif_pos ⟨by omega, by rw [hsz]; omega⟩]
        obtain ⟨h, rfl⟩ := List.getElem?_eq_some_iff.1 hxj
        simp [ByteArray.getElem_eq_getElem_data]
      have q2 : (j : Int) < (l.length : Int) := by omega
      have HT := Lib.hid (among_take (n := n) hxj)
      have HM := Lib.hid (fun h => among_mem (n := n) hxj h)
      clear hxj
      have hy0 : (0 : Int) ≤ (x.toNat : Int) := by omega
      have hy1 : (x.toNat : Int) < 256 := by have := x.toNat_lt; omega
      have hyw : wrap64 (x.toNat : Int) = (x.toNat : Int) := by unfold wrap64; omega
      generalize (x.toNat : Int) = y at *
      rcases Bool.eq_false_or_eq_true (y == n) with h | h
      · go_wp2_with fail
        go_ret
        exact ⟨by rw [HM.out h]; rfl, rfl⟩
      · go_wp2_with fail
        go_roundg (l.length - (j + 1))
        case measure => rw [HG.out]; omega
        case rel => exact ⟨j + 1, rfl, by omega, by go_num, by rw [HT.out, HA.out, h]; rfl, rfl⟩
    · have q2 : ¬ (j : Int) < (l.length : Int) := by omega
      have hA : amongB n l = false := by
        have := HA.out
        rwa [List.take_of_length_le (by omega)] at this
      have HAA := Lib.hid hA
      clear hA
      go_wp2_with fail
      go_ret
      exact ⟨by rw [HAA.out]; rfl, rfl⟩

set_option maxRecDepth 20000 in
theorem r06May_any (k n : Int) (w : World) :
    Calls Tryz.prog 49 #[.int .i64 k, .int .i64 n] w fun e w' => e = .returned (.bool (mayS k n)) ∧ w = w' := by
  by_cases h1 : n < 0
  · have hm : mayS k n = false := by
      unfold mayS
      rw [decide_eq_false (by omega : ¬ (0 ≤ n ∧ n ≤ 1114111)), decide_eq_false (by omega : ¬ (0 ≤ n ∧ n < 256)), decide_eq_false (by omega : ¬ (0 ≤ n ∧ n ≤ 255)), decide_eq_false (by omega : ¬ (0 ≤ n ∧ n < 128)), decide_eq_false (by omega : ¬ (32 ≤ n ∧ n ≤ 126)), decide_eq_false (by omega : ¬ (0 ≤ n ∧ n ≤ 65535))]
      simp
    have HM := Lib.hid hm
    have q : decide (n < 0) = true := decide_eq_true h1
    clear hm
    go_enter Tryz.func49, Tryz.ntmps49
    go_wp2_with fail
    go_ret
    exact ⟨by rw [HM.out]; rfl, rfl⟩
  have q1 : decide (n < 0) = false := decide_eq_false h1
  by_cases h2 : (1114111 : Int) < n
  · have hm : mayS k n = false := by
      unfold mayS
      rw [decide_eq_false (by omega : ¬ (0 ≤ n ∧ n ≤ 1114111)), decide_eq_false (by omega : ¬ (0 ≤ n ∧ n < 256)), decide_eq_false (by omega : ¬ (0 ≤ n ∧ n ≤ 255)), decide_eq_false (by omega : ¬ (0 ≤ n ∧ n < 128)), decide_eq_false (by omega : ¬ (32 ≤ n ∧ n ≤ 126)), decide_eq_false (by omega : ¬ (0 ≤ n ∧ n ≤ 65535))]
      simp
    have HM := Lib.hid hm
    have q : decide ((1114111 : Int) < n) = true := decide_eq_true h2
    clear hm
    go_enter Tryz.func49, Tryz.ntmps49
    go_wp2_with fail
    go_ret
    exact ⟨by rw [HM.out]; rfl, rfl⟩
  have q2 : decide ((1114111 : Int) < n) = false := decide_eq_false h2
  by_cases h3 : 55296 ≤ n ∧ n ≤ 57343
  · have hm : mayS k n = false := by
      unfold mayS surr
      rw [decide_eq_true h3, decide_eq_false (by omega : ¬ (0 ≤ n ∧ n < 256)), decide_eq_false (by omega : ¬ (0 ≤ n ∧ n ≤ 255)), decide_eq_false (by omega : ¬ (0 ≤ n ∧ n < 128)), decide_eq_false (by omega : ¬ (32 ≤ n ∧ n ≤ 126))]
      simp
    have HM := Lib.hid hm
    have q3 : decide ((55296 : Int) ≤ n) = true := decide_eq_true h3.1
    have q4 : decide (n ≤ 57343) = true := decide_eq_true h3.2
    clear hm
    go_enter Tryz.func49, Tryz.ntmps49
    go_wp2_with fail
    go_ret
    exact ⟨by rw [HM.out]; rfl, rfl⟩
  have hs : surr n = false := decide_eq_false h3
  have hN : (decide ((55296 : Int) ≤ n) = false) ∨ (decide ((55296 : Int) ≤ n) = true ∧ decide (n ≤ 57343) = false) := by
    by_cases h : (55296 : Int) ≤ n
    · exact .inr ⟨decide_eq_true h, decide_eq_false (by omega)⟩
    · exact .inl (decide_eq_false h)
  by_cases k12 : k = 12
  · subst k12
    have hm : mayS 12 n = true := by
      simp only [mayS, if_true, hs]
      rw [decide_eq_true (by omega)]
      rfl
    have HM := Lib.hid hm
    clear hm hs
    rcases hN with q3 | ⟨q3, q4⟩
    all_goals
      go_enter Tryz.func49, Tryz.ntmps49
      go_wp2_with fail
      go_ret
      exact ⟨by rw [HM.out]; rfl, rfl⟩
  have p1 : (k == 12) = false := beq_eq_false_iff_ne.2 k12
  by_cases k19 : k = 19
  · subst k19
    have H := Lib.hid (r06among_any n printL)
    have hm := among_may n
    have HM := Lib.hid hm
    clear hm hs
    rcases hN with q3 | ⟨q3, q4⟩
    all_goals
      go_enter Tryz.func49, Tryz.ntmps49
      go_wp2_with fail
      refine (H.out _ (by decide)).mono ?_
      rintro e w' ⟨rfl, rfl⟩
      go_wp2_with fail
      go_ret
      exact ⟨by rw [← HM.out]; rfl, rfl⟩
  have p2 : (k == 19) = false := beq_eq_false_iff_ne.2 k19
  by_cases k20 : k = 20
  · subst k20
    have hm : mayS 20 n = decide (n < 256) := by
      simp only [mayS, show ¬ ((20 : Int) = 12) from by decide, show ¬ ((20 : Int) = 19) from by decide, if_false, if_true]
      rw [decide_eq_decide]
      omega
    have HM := Lib.hid hm
    clear hm hs
    rcases hN with q3 | ⟨q3, q4⟩
    all_goals
      go_enter Tryz.func49, Tryz.ntmps49
      go_wp2_with fail
      go_ret
      exact ⟨by rw [HM.out]; rfl, rfl⟩
  have p3 : (k == 20) = false := beq_eq_false_iff_ne.2 k20
  by_cases k22 : k = 22
  · subst k22
    have hm : mayS 22 n = decide (n < 128) := by
      simp only [mayS, show ¬ ((22 : Int) = 12) from by decide, show ¬ ((22 : Int) = 19) from by decide, show ¬ ((22 : Int) = 20) from by decide, if_false, if_true]
      rw [decide_eq_decide]
      omega
    have HM := Lib.hid hm
    clear hm hs
    rcases hN with q3 | ⟨q3, q4⟩
    all_goals
      go_enter Tryz.func49, Tryz.ntmps49
      go_wp2_with fail
      go_ret
      exact ⟨by rw [HM.out]; rfl, rfl⟩
  have p4 : (k == 22) = false := beq_eq_false_iff_ne.2 k22
  by_cases k26 : k = 26
  · subst k26
    have hm : mayS 26 n = (decide ((31 : Int) < n) && decide (n < 127)) := by
      simp only [mayS, show ¬ ((26 : Int) = 12) from by decide, show ¬ ((26 : Int) = 19) from by decide, show ¬ ((26 : Int) = 20) from by decide, show ¬ ((26 : Int) = 22) from by decide, if_false, if_true]
      rw [← Bool.decide_and, decide_eq_decide]
      omega
    have HM := Lib.hid hm
    clear hm hs
    by_cases h31 : (31 : Int) < n
    · have p31 : decide ((31 : Int) < n) = true := decide_eq_true h31
      rcases hN with q3 | ⟨q3, q4⟩
      all_goals
        go_enter Tryz.func49, Tryz.ntmps49
        go_wp2_with fail
        go_ret
        exact ⟨by rw [HM.out, p31]; rfl, rfl⟩
    · have p31 : decide ((31 : Int) < n) = false := decide_eq_false h31
      rcases hN with q3 | ⟨q3, q4⟩
      all_goals
        go_enter Tryz.func49, Tryz.ntmps49
        go_wp2_with fail
        go_ret
        exact ⟨by rw [HM.out, p31]; rfl, rfl⟩
  have p5 : (k == 26) = false := beq_eq_false_iff_ne.2 k26
  by_cases k30 : k = 30
  · subst k30
    have hm : mayS 30 n = decide (n < 65536) := by
      simp only [mayS, show ¬ ((30 : Int) = 12) from by decide, show ¬ ((30 : Int) = 19) from by decide, show ¬ ((30 : Int) = 20) from by decide, show ¬ ((30 : Int) = 22) from by decide, show ¬ ((30 : Int) = 26) from by decide, if_false, if_true, hs]
      rw [Bool.not_false, Bool.and_true, decide_eq_decide]
      omega
    have HM := Lib.hid hm
    clear hm hs
    rcases hN with q3 | ⟨q3, q4⟩
    all_goals
      go_enter Tryz.func49, Tryz.ntmps49
      go_wp2_with fail
      go_ret
      exact ⟨by rw [HM.out]; rfl, rfl⟩
  have p6 : (k == 30) = false := beq_eq_false_iff_ne.2 k30
  have hm : mayS k n = false := by
    simp only [mayS, if_neg k12, if_neg k19, if_neg k20, if_neg k22, if_neg k26, if_neg k30]
  have HM := Lib.hid hm
  clear hm hs
  rcases hN with q3 | ⟨q3, q4⟩
  all_goals
    go_enter Tryz.func49, Tryz.ntmps49
    go_wp2_with fail
    go_ret
    exact ⟨by rw [HM.out]; rfl, rfl⟩
end Go.Proofs.YtgffhiopbnkjbaaGreatDoor

namespace Go.Q
open Go Go.RowKit
abbrev natInts (ns : List Nat) : List Int := ns.map fun (n : Nat) => (n : Int)
theorem enc4_le (n : Nat) : (enc n).length ≤ 4 := by unfold enc; split; simp; split; simp; split <;> simp
theorem encAll_le : ∀ (l : List Nat), (encAll l).length ≤ 4 * l.length
  | [] => by simp [encAll]
  | n :: l => by
    have := encAll_le l
    have := enc4_le n
    simp only [encAll, List.flatMap_cons, List.length_append, List.length_cons] at *
    omega
theorem encAll_take {ns : List Nat} {j n : Nat} (h : ns[j]? = some n) : encAll (ns.take (j + 1)) = encAll (ns.take j) ++ enc n := by
  unfold encAll
  rw [List.take_add_one, h]
  simp
theorem encAll_take_le (ns : List Nat) (j : Nat) : (encAll (ns.take j)).length ≤ 4 * ns.length := by
  have := encAll_le (ns.take j)
  rw [List.length_take] at this
  omega
end Go.Q
namespace Go.Proofs.YtgffhiopbnkjbaaGreatDoor
open Go Go.RowKit Go.Q

/-- Some bytes more, out of a new block. -/
theorem add_bytes {w : World} {base n : Nat} {v : Value} {xs : List UInt8} (hown : w.ownsRow base 5 1 v n (Lib.byteCells xs)) (l : List UInt8) (cs : Array Value) (hcs : (Lib.byteCells l).toArray = cs) (k : Nat) (hk : l.length = k) (hsz : n + k ≤ 1099511627776) (hb : base ≤ w.heap.size) :
    ∃ a c w', (Builtin.append_ #[23, 23] 23 #[v, .slice (some ⟨w.heap.size, 0, none⟩) k k]).run Tryz.prog (w.alloc (.cells cs 5)) = .ok (.slice a (n + k) c) w' ∧ w'.ownsRow base 5 1 (.slice a (n + k) c) (n + k) (Lib.byteCells (xs ++ l)) ∧ Fr (fun k => v.ownBlock = some k) w w' := by
  subst hcs hk
  have BX := Blk.new w 5 (Lib.byteCells l).toArray
  have F1 : Fr (fun _ => False) w (w.alloc (.cells (Lib.byteCells l).toArray 5)) := (Fr.refl w).alloc _
  have hsrc : Bytes (w.alloc (.cells (Lib.byteCells l).toArray 5)) (.slice (some ⟨w.heap.size, 0, none⟩) l.length l.length) l := by
    have h := Vals.of_block BX (by unfold maxLen; simp [byteCells_len]; omega)
    simpa [byteCells_len] using h
  obtain ⟨v', w2, hrun, h1, F2, _⟩ := append_bytes (ownsRow_fr hown F1 (fun _ _ h => h)) (some ⟨w.heap.size, 0, none⟩) l.length l.length l hsrc (by omega) (Nat.le_trans hb F1.size)
  obtain ⟨a, m', c, rfl, rfl⟩ := own_shape h1
  exact ⟨a, c, w2, hrun, h1, (F1.mono (T := fun k => v.ownBlock = some k) (fun _ _ h => h.elim)).trans F2⟩

set_option maxRecDepth 20000 in
set_option maxHeartbeats 2000000 in
theorem r06Utf8_any (v : Value) (ns : List Nat) (w : World) (h : Ints w v (natInts ns)) (hn : ∀ n ∈ ns, n < 1114112) (hlim : ns.length ≤ 100000000) :
    Calls Tryz.prog 28 #[v] w fun e w' => ∃ v', e = .returned v' ∧ w'.ownsRow w.heap.size 5 1 v' (encAll ns).length (Lib.byteCells (encAll ns)) ∧ Fr (fun _ => False) w w' := by
  obtain ⟨a, cap, rfl, hc, hm, hx⟩ := h.form
  rw [List.length_map] at hc hx ⊢
  have HX := Lib.hid hx
  have HN := Lib.hid hn
  clear h hx hn hc hm
  go_enter Tryz.func28, Tryz.ntmps28
  go_wp2_with fail
  go_loopg [3, 4] ns.length (fun g b i wr => ∃ (j : Nat) (a6 : Option Addr) (n6 c6 : Nat), g = ns.length - j ∧ j ≤ ns.length ∧ b = .slice a6 n6 c6 ∧ i = .int .i64 j ∧ wr.ownsRow w.heap.size 5 1 (.slice a6 n6 c6) (encAll (ns.take j)).length (Lib.byteCells (encAll (ns.take j))) ∧ Fr (fun _ => False) w wr)
  case atStart => exact ⟨0, none, 0, 0, rfl, Nat.zero_le _, rfl, rfl, ⟨rfl, .inl ⟨rfl, rfl⟩⟩, Fr.refl _⟩
  case round =>
    obtain ⟨j, a6, n6, c6, hg, hj, rfl, rfl, ho6, G6⟩ := hrel
    have HG := Lib.hid hg
    clear hg
    by_cases hjl : j < ns.length
    · obtain ⟨b, o, rfl, hy⟩ := HX.out (by omega)
      obtain ⟨n, hnj⟩ : ∃ n, ns[j]? = some n := ⟨_, List.getElem?_eq_getElem hjl⟩
      have ec := G6.cell (hy j n (by rw [List.getElem?_map, hnj]; rfl)) (fun h => h)
      have hb0 : w.heap.size ≤ wr.heap.size := G6.size
      have hlt := HN.out n (List.mem_of_getElem? hnj)
      have htl := encAll_take_le ns j
      have hvb := (Vals.of_own ho6).2
      have q1 : (0 : Int) ≤ (j : Int) := by omega
      have q2 : (j : Int) < (ns.length : Int) := by omega
      have HT := Lib.hid (encAll_take hnj)
      have HHY := Lib.hid hy
      clear hy hnj
      by_cases n1 : n < 128
      · have r1 : (n : Int) < 128 := by omega
        have hw1 : IntKind.u8.wrap (n : Int) = (n : Int) := by simp [IntKind.wrap, IntKind.signed, IntKind.bits]; omega
        have he : enc n = [UInt8.ofNat n] := by unfold enc; rw [if_pos n1]
        obtain ⟨a7, c7, w7, hr7, ho7, F7⟩ := add_bytes ho6 [UInt8.ofNat n] #[.int .u8 n] (by simp only [Lib.byteCells, List.map_cons, List.map_nil, Go.Q.u8 n (by omega)]) 1 rfl (by omega) hb0
        have G7 := G6.trans' F7 (fun i hi e => absurd hi (by have := hvb i e; omega))
        rw [← he, ← HT.out] at ho7
        have hL := congrArg List.length HT.out
        rw [List.length_append, he] at hL
        have HL := Lib.hid hL
        have HO7 := Lib.hid ho7
        have HG7 := Lib.hid G7
        have HRUN := Lib.hid hr7
        clear ho6 ho7 F7 hvb G6 G7 hr7 hL he htl
        generalize (encAll (ns.take j)).length = L at *
        go_wp2_with (at_builtin; refine wpList_append_run (by rfl) (.tmp 40) (.tmp 43) 23 (by rfl) _ w7 (by exact HRUN.out) ?_)
        go_roundg (ns.length - (j + 1))
        case measure => rw [HG.out]; omega
        case rel => exact ⟨j + 1, a7, L + 1, c7, rfl, by omega, rfl, by go_num, by rw [HL.out]; exact HO7.out, HG7.out⟩
      have r1 : ¬ (n : Int) < 128 := by omega
      by_cases n2 : n < 2048
      · have r2 : (n : Int) < 2048 := by omega
        obtain ⟨y1, hy1⟩ : ∃ y, y = 192 + n / 64 := ⟨_, rfl⟩
        obtain ⟨y2, hy2⟩ : ∃ y, y = 128 + n % 64 := ⟨_, rfl⟩
        have hw1 : IntKind.u8.wrap (192 + (n : Int) / 64) = (y1 : Int) := by rw [hy1]; simp [IntKind.wrap, IntKind.signed, IntKind.bits]; omega
        have hw2 : IntKind.u8.wrap (128 + (n : Int) % 64) = (y2 : Int) := by rw [hy2]; simp [IntKind.wrap, IntKind.signed, IntKind.bits]; omega
        have he : enc n = [UInt8.ofNat y1, UInt8.ofNat y2] := by unfold enc; rw [if_neg n1, if_pos n2, hy1, hy2]
        obtain ⟨a7, c7, w7, hr7, ho7, F7⟩ := add_bytes ho6 [UInt8.ofNat y1, UInt8.ofNat y2] #[.int .u8 y1, .int .u8 y2] (by simp only [Lib.byteCells, List.map_cons, List.map_nil, Go.Q.u8 y1 (by omega), Go.Q.u8 y2 (by omega)]) 2 rfl (by omega) hb0
        have G7 := G6.trans' F7 (fun i hi e => absurd hi (by have := hvb i e; omega))
        rw [← he, ← HT.out] at ho7
        have hL := congrArg List.length HT.out
        rw [List.length_append, he] at hL
        have HL := Lib.hid hL
        have HO7 := Lib.hid ho7
        have HG7 := Lib.hid G7
        have HRUN := Lib.hid hr7
        clear ho6 ho7 F7 hvb G6 G7 hr7 hL he htl hy1 hy2
        generalize (encAll (ns.take j)).length = L at *
        go_wp2_with (at_builtin; refine wpList_append_run (by rfl) (.tmp 48) (.tmp 57) 23 (by rfl) _ w7 (by exact HRUN.out) ?_)
        go_roundg (ns.length - (j + 1))
        case measure => rw [HG.out]; omega
        case rel => exact ⟨j + 1, a7, L + 2, c7, rfl, by omega, rfl, by go_num, by rw [HL.out]; exact HO7.out, HG7.out⟩
      have r2 : ¬ (n : Int) < 2048 := by omega
      by_cases n3 : n < 65536
      · have r3 : (n : Int) < 65536 := by omega
        obtain ⟨y1, hy1⟩ : ∃ y, y = 224 + n / 4096 := ⟨_, rfl⟩
        obtain ⟨y2, hy2⟩ : ∃ y, y = 128 + n / 64 % 64 := ⟨_, rfl⟩
        obtain ⟨y3, hy3⟩ : ∃ y, y = 128 + n % 64 := ⟨_, rfl⟩
        have hw1 : IntKind.u8.wrap (224 + (n : Int) / 4096) = (y1 : Int) := by rw [hy1]; simp [IntKind.wrap, IntKind.signed, IntKind.bits]; omega
        have hw2 : IntKind.u8.wrap (128 + (n : Int) / 64 % 64) = (y2 : Int) := by rw [hy2]; simp [IntKind.wrap, IntKind.signed, IntKind.bits]; omega
        have hw3 : IntKind.u8.wrap (128 + (n : Int) % 64) = (y3 : Int) := by rw [hy3]; simp [IntKind.wrap, IntKind.signed, IntKind.bits]; omega
        have he : enc n = [UInt8.ofNat y1, UInt8.ofNat y2, UInt8.ofNat y3] := by unfold enc; rw [if_neg n1, if_neg n2, if_pos n3, hy1, hy2, hy3]
        obtain ⟨a7, c7, w7, hr7, ho7, F7⟩ := add_bytes ho6 [UInt8.ofNat y1, UInt8.ofNat y2, UInt8.ofNat y3] #[.int .u8 y1, .int .u8 y2, .int .u8 y3] (by simp only [Lib.byteCells, List.map_cons, List.map_nil, Go.Q.u8 y1 (by omega), Go.Q.u8 y2 (by omega), Go.Q.u8 y3 (by omega)]) 3 rfl (by omega) hb0
        have G7 := G6.trans' F7 (fun i hi e => absurd hi (by have := hvb i e; omega))
        rw [← he, ← HT.out] at ho7
        have hL := congrArg List.length HT.out
        rw [List.length_append, he] at hL
        have HL := Lib.hid hL
        have HO7 := Lib.hid ho7
        have HG7 := Lib.hid G7
        have HRUN := Lib.hid hr7
        clear ho6 ho7 F7 hvb G6 G7 hr7 hL he htl hy1 hy2 hy3
        generalize (encAll (ns.take j)).length = L at *
        go_wp2_with (at_builtin; refine wpList_append_run (by rfl) (.tmp 62) (.tmp 76) 23 (by rfl) _ w7 (by exact HRUN.out) ?_)
        go_roundg (ns.length - (j + 1))
        case measure => rw [HG.out]; omega
        case rel => exact ⟨j + 1, a7, L + 3, c7, rfl, by omega, rfl, by go_num, by rw [HL.out]; exact HO7.out, HG7.out⟩
      have r3 : ¬ (n : Int) < 65536 := by omega
      · obtain ⟨y0, hy0⟩ : ∃ y, y = 240 + n / 262144 := ⟨_, rfl⟩
        obtain ⟨y1, hy1⟩ : ∃ y, y = 128 + n / 4096 % 64 := ⟨_, rfl⟩
        obtain ⟨y2, hy2⟩ : ∃ y, y = 128 + n / 64 % 64 := ⟨_, rfl⟩
        obtain ⟨y3, hy3⟩ : ∃ y, y = 128 + n % 64 := ⟨_, rfl⟩
        have hw0 : IntKind.u8.wrap (240 + (n : Int) / 262144) = (y0 : Int) := by rw [hy0]; simp [IntKind.wrap, IntKind.signed, IntKind.bits]; omega
        have hw1 : IntKind.u8.wrap (128 + (n : Int) / 4096 % 64) = (y1 : Int) := by rw [hy1]; simp [IntKind.wrap, IntKind.signed, IntKind.bits]; omega
        have hw2 : IntKind.u8.wrap (128 + (n : Int) / 64 % 64) = (y2 : Int) := by rw [hy2]; simp [IntKind.wrap, IntKind.signed, IntKind.bits]; omega
        have hw3 : IntKind.u8.wrap (128 + (n : Int) % 64) = (y3 : Int) := by rw [hy3]; simp [IntKind.wrap, IntKind.signed, IntKind.bits]; omega
        have he : enc n = [UInt8.ofNat y0, UInt8.ofNat y1, UInt8.ofNat y2, UInt8.ofNat y3] := by unfold enc; rw [if_neg n1, if_neg n2, if_neg n3, hy0, hy1, hy2, hy3]
        obtain ⟨a7, c7, w7, hr7, ho7, F7⟩ := add_bytes ho6 [UInt8.ofNat y0, UInt8.ofNat y1, UInt8.ofNat y2, UInt8.ofNat y3] #[.int .u8 y0, .int .u8 y1, .int .u8 y2, .int .u8 y3] (by simp only [Lib.byteCells, List.map_cons, List.map_nil, Go.Q.u8 y0 (by omega), Go.Q.u8 y1 (by omega), Go.Q.u8 y2 (by omega), Go.Q.u8 y3 (by omega)]) 4 rfl (by omega) hb0
        have G7 := G6.trans' F7 (fun i hi e => absurd hi (by have := hvb i e; omega))
        rw [← he, ← HT.out] at ho7
        have hL := congrArg List.length HT.out
        rw [List.length_append, he] at hL
        have HL := Lib.hid hL
        have HO7 := Lib.hid ho7
        have HG7 := Lib.hid G7
        have HRUN := Lib.hid hr7
        clear ho6 ho7 F7 hvb G6 G7 hr7 hL he htl hy0 hy1 hy2 hy3
        generalize (encAll (ns.take j)).length = L at *
        go_wp2_with (at_builtin; refine wpList_append_run (by rfl) (.tmp 16) (.tmp 35) 23 (by rfl) _ w7 (by exact HRUN.out) ?_)
        go_roundg (ns.length - (j + 1))
        case measure => rw [HG.out]; omega
        case rel => exact ⟨j + 1, a7, L + 4, c7, rfl, by omega, rfl, by go_num, by rw [HL.out]; exact HO7.out, HG7.out⟩
    · have hj' : encAll (ns.take j) = encAll ns := by rw [List.take_of_length_le (by omega)]
      rw [hj'] at ho6
      have HO6 := Lib.hid ho6
      have HG6 := Lib.hid G6
      have q2 : ¬ (j : Int) < (ns.length : Int) := by omega
      clear ho6 G6 hj'
      go_wp2_with fail
      go_ret
      exact ⟨_, rfl, HO6.out, HG6.out⟩
end Go.Proofs.YtgffhiopbnkjbaaGreatDoor

namespace Go.Q
open Go Go.RowKit
/-- A sign's first part, and how many bytes it has behind. -/
def looseHead (c : Nat) : Nat × Nat := if 240 ≤ c then (c - 240, 3) else if 224 ≤ c then (c - 224, 2) else if 192 ≤ c then (c - 192, 1) else (c, 0)
def looseAcc (n0 : Nat) (l : List UInt8) : Nat := l.foldl (fun n y => 64 * n + y.toNat % 64) n0
def looseS : Nat → List UInt8 → Option (List Nat)
  | _, [] => some []
  | 0, _ :: _ => none
  | f + 1, x :: t => if 1114111 < looseAcc (looseHead x.toNat).1 (t.take (looseHead x.toNat).2) then none else (looseS f (t.drop (looseHead x.toNat).2)).map (looseAcc (looseHead x.toNat).1 (t.take (looseHead x.toNat).2) :: ·)
theorem loose_fuel : ∀ (f g : Nat) (l : List UInt8), l.length ≤ f → l.length ≤ g → looseS f l = looseS g l
  | f, g, [], _, _ => by cases f <;> cases g <;> rfl
  | 0, _, _ :: _, h, _ => by simp at h
  | _ + 1, 0, _ :: _, _, h => by simp at h
  | f + 1, g + 1, x :: t, hf, hg => by
    simp only [List.length_cons] at hf hg
    simp only [looseS]
    rw [loose_fuel f g (t.drop (looseHead x.toNat).2) (by rw [List.length_drop]; omega) (by rw [List.length_drop]; omega)]
def looseL (l : List UInt8) : Option (List Nat) := looseS l.length l
theorem looseL_nil : looseL [] = some [] := rfl
theorem looseL_cons {x : UInt8} {t : List UInt8} {n0 more : Nat} (h : looseHead x.toNat = (n0, more)) : looseL (x :: t) = if 1114111 < looseAcc n0 (t.take more) then none else (looseL (t.drop more)).map (looseAcc n0 (t.take more) :: ·) := by
  simp only [looseL, List.length_cons, looseS, h]
  rw [loose_fuel t.length (t.drop more).length (t.drop more) (by rw [List.length_drop]; omega) (Nat.le_refl _)]
theorem acc_lt : ∀ (l : List UInt8) (n0 : Nat), looseAcc n0 l < (n0 + 1) * 64 ^ l.length
  | [], n0 => by simp [looseAcc]
  | y :: t, n0 => by
    have := acc_lt t (64 * n0 + y.toNat % 64)
    have h2 : (64 * n0 + y.toNat % 64 + 1) ≤ (n0 + 1) * 64 := by omega
    have h3 := Nat.mul_le_mul_right (64 ^ t.length) h2
    rw [Nat.mul_assoc] at h3
    have h4 : 64 * 64 ^ t.length = 64 ^ (y :: t).length := by rw [List.length_cons, Nat.pow_succ, Nat.mul_comm]
    rw [h4] at h3
    exact Nat.lt_of_lt_of_le this h3
theorem acc_take {n0 k : Nat} {t : List UInt8} {y : UInt8} (h : t[k]? = some y) : looseAcc n0 (t.take (k + 1)) = 64 * looseAcc n0 (t.take k) + y.toNat % 64 := by
  unfold looseAcc
  rw [List.take_add_one, h]
  simp [List.foldl_append]
theorem acc_small {c n0 more : Nat} (h : looseHead c = (n0, more)) (hc : c < 256) (t : List UInt8) (k : Nat) (hk : k ≤ more) : looseAcc n0 (t.take k) < 8388608 ∧ more ≤ 3 := by
  have h1 := acc_lt (t.take k) n0
  have h2 : (t.take k).length ≤ k := by rw [List.length_take]; omega
  have h3 : (64 : Nat) ^ (t.take k).length ≤ 64 ^ k := Nat.pow_le_pow_right (by decide) h2
  have h4 := Nat.mul_le_mul_left (n0 + 1) h3
  have hm : (n0 < 32 ∧ more ≤ 3) ∨ (n0 < 192 ∧ more = 0) := by
    unfold looseHead at h
    split at h
    · simp only [Prod.mk.injEq] at h; omega
    split at h
    · simp only [Prod.mk.injEq] at h; omega
    split at h
    · simp only [Prod.mk.injEq] at h; omega
    · simp only [Prod.mk.injEq] at h; omega
  rcases hm with ⟨a, b⟩ | ⟨a, rfl⟩
  · have h5 : (64 : Nat) ^ k ≤ 64 ^ 3 := Nat.pow_le_pow_right (by decide) (by omega)
    have h6 := Nat.mul_le_mul (show n0 + 1 ≤ 32 from by omega) h5
    exact ⟨by omega, b⟩
  · obtain rfl : k = 0 := by omega
    simp only [Nat.pow_zero, Nat.mul_one] at h4
    exact ⟨by omega, by omega⟩
/-- The signs of UTF-8, as the reference reads them. -/
def wideR (b : List UInt8) : Option (List Nat) :=
  match looseL b with
  | none => none
  | some ns => if (natInts ns).all (mayS 12) = true ∧ encAll ns = b then some ns else none
theorem wideR_none {b : List UInt8} (h : looseL b = none) : wideR b = none := by unfold wideR; rw [h]
theorem wideR_some {b : List UInt8} {ns : List Nat} (h : looseL b = some ns) : wideR b = if (natInts ns).all (mayS 12) = true ∧ encAll ns = b then some ns else none := by unfold wideR; rw [h]
/-- What it reads is right. -/
theorem wideR_ok {b : List UInt8} {ns : List Nat} (h : wideR b = some ns) : encAll ns = b ∧ (natInts ns).all (mayS 12) = true ∧ signsS 12 b = natInts ns ∧ rightS 12 b = true := by
  unfold wideR at h
  split at h
  · cases h
  · split at h
    · rename_i hh
      obtain ⟨ha, hb⟩ := hh
      simp only [Option.some.injEq] at h
      rw [h] at ha hb
      have hs : signsS 12 b = natInts ns := by
        have := signs_of (k := 12) (l := natInts ns) (by decide) (fun n hn => List.all_eq_true.1 ha n hn)
        rw [← this]
        congr 1
        rw [← hb]
        simp only [ofS, encAll, natInts, List.flatMap_map]
        rfl
      refine ⟨hb, ha, hs, ?_⟩
      unfold rightS
      rw [hs, ha]
      rfl
    · cases h
end Go.Q

namespace Go.Proofs.YtgffhiopbnkjbaaGreatDoor
open Go Go.RowKit Go.Q

def WideOut (w w' : World) (b : List UInt8) (e : Ending) : Prop :=
  ∃ v, e = .returned (.tuple #[v, .bool (wideR b).isSome]) ∧ Ints w' v (natInts ((wideR b).getD [])) ∧ Fr (fun _ => False) w w'
theorem wideOut_no {w w' : World} {b : List UInt8} (h : wideR b = none) (F : Fr (fun _ => False) w w') : WideOut w w' b (.returned (.tuple #[.slice none 0 0, .bool false])) := by
  refine ⟨_, by rw [h]; rfl, ?_, F⟩
  rw [h]
  exact ⟨none, 0, rfl, Nat.zero_le _, by unfold maxLen; omega, fun h => absurd h (by decide)⟩
theorem le_snoc {xs : List Nat} {A : Nat} (h : ∀ x ∈ xs, x ≤ 1114111) (hA : ¬ 1114111 < A) : ∀ x ∈ xs ++ [A], x ≤ 1114111 := by
  intro x hx
  rcases List.mem_append.1 hx with h' | h'
  · exact h x h'
  · rw [List.mem_singleton.1 h']
    omega

set_option maxRecDepth 20000 in
set_option maxHeartbeats 8000000 in
theorem r06wide_any (v : Value) (b : List UInt8) (w : World) (h : Bytes w v b) (hlim : b.length ≤ 16777216) :
    Calls Tryz.prog 48 #[v] w fun e w' => WideOut w w' b e := by
  obtain ⟨a, cap, rfl, -, -, hx⟩ := h.form
  have HB := Lib.hid h
  have HX := Lib.hid hx
  clear h hx
  go_enter Tryz.func48, Tryz.ntmps48
  go_wp2_with fail
  go_loopg [4, 5] (b.length + 4) (fun g l i wr => ∃ (xs : List Nat) (j : Nat) (a6 : Option Addr) (n6 c6 : Nat), g = b.length + 4 - j ∧ j ≤ b.length + 3 ∧ l = .slice a6 n6 c6 ∧ i = .int .i64 j ∧ wr.ownsRow w.heap.size 3 1 (.slice a6 n6 c6) xs.length (intCells (natInts xs)) ∧ looseL b = (looseL (b.drop j)).map (xs ++ ·) ∧ (∀ x ∈ xs, x ≤ 1114111) ∧ xs.length ≤ j ∧ Fr (fun _ => False) w wr)
  case atStart => exact ⟨[], 0, none, 0, 0, rfl, Nat.zero_le _, rfl, rfl, ⟨rfl, .inl ⟨rfl, rfl⟩⟩, by simp, by simp, Nat.zero_le _, Fr.refl _⟩
  case round =>
    obtain ⟨xs, j, a6, n6, c6, hg, hj, rfl, rfl, ho6, hL, hxs, hxl, G6⟩ := hrel
    have HG := Lib.hid hg
    have HL := Lib.hid hL
    have HXS := Lib.hid hxs
    have HO6 := Lib.hid ho6
    have HG6 := Lib.hid G6
    clear hg hL hxs ho6 G6
    by_cases hjl : j < b.length
    · obtain ⟨bb, oo, rfl, hy⟩ := HX.out (by omega)
      obtain ⟨x, hxj⟩ : ∃ x, b[j]? = some x := ⟨_, List.getElem?_eq_getElem hjl⟩
      have hd : b.drop j = x :: b.drop (j + 1) := by
        obtain ⟨h, rfl⟩ := List.getElem?_eq_some_iff.1 hxj
        exact List.drop_eq_getElem_cons h
      have ec := HG6.out.cell (hy j x hxj) (fun h => h)
      have HY := Lib.hid hy
      have q1 : (0 : Int) ≤ (j : Int) := by omega
      have q2 : (j : Int) < (b.length : Int) := by omega
      obtain ⟨⟨n0, more⟩, hh⟩ : ∃ p, looseHead x.toNat = p := ⟨_, rfl⟩
      have hLc := looseL_cons (t := b.drop (j + 1)) hh
      have hxlt := x.toNat_lt
      have hsm := fun k hk => acc_small hh hxlt (b.drop (j + 1)) k hk
      obtain ⟨c, hc⟩ : ∃ c, c = x.toNat := ⟨_, rfl⟩
      rw [← hc] at hxlt hh ec
      have hcw : wrap64 (c : Int) = (c : Int) := by unfold wrap64; omega
      have HD := Lib.hid hd
      have HLC := Lib.hid hLc
      have HSM := Lib.hid hsm
      have hcases : ((240 ≤ c ∧ (c : Int) - 240 = (n0 : Int) ∧ more = 3) ∨ (¬ 240 ≤ c ∧ 224 ≤ c ∧ (c : Int) - 224 = (n0 : Int) ∧ more = 2) ∨ (¬ 240 ≤ c ∧ ¬ 224 ≤ c ∧ 192 ≤ c ∧ (c : Int) - 192 = (n0 : Int) ∧ more = 1) ∨ (¬ 240 ≤ c ∧ ¬ 224 ≤ c ∧ ¬ 192 ≤ c ∧ (c : Int) = (n0 : Int) ∧ more = 0)) := by
        unfold looseHead at hh
        split at hh
        · simp only [Prod.mk.injEq] at hh; omega
        split at hh
        · simp only [Prod.mk.injEq] at hh; omega
        split at hh
        · simp only [Prod.mk.injEq] at hh; omega
        · simp only [Prod.mk.injEq] at hh; omega
      clear hy hxj hd hLc hsm hc hh
      have hn0 : n0 < 256 := by omega
      rcases hcases with ⟨d1, d4, rfl⟩ | ⟨d1, d2, d4, rfl⟩ | ⟨d1, d2, d3, d4, rfl⟩ | ⟨d1, d2, d3, d4, rfl⟩
      · have p1 : (240 : Int) ≤ (c : Int) := by omega
        go_wp2_with fail
        obtain ⟨wo, hwo⟩ : ∃ wo : World, wo = wr := ⟨_, rfl⟩
        obtain rfl := hwo
        go_loopg [7, 9] (3 + 1) (fun g n k wi => ∃ k1 : Nat, g = 3 + 2 - k1 ∧ 0 < k1 ∧ k1 ≤ 3 + 1 ∧ n = .int .i64 (looseAcc n0 ((b.drop (j + 1)).take (k1 - 1))) ∧ k = .int .i64 k1 ∧ wi = wo)
        case atStart => exact ⟨1, rfl, by omega, by omega, rfl, rfl, rfl⟩
        case round =>
          obtain ⟨k1, hg, hk0, hk, rfl, rfl, rfl⟩ := hrel
          have HG2 := Lib.hid hg
          clear hg
          have hA : looseAcc n0 ((b.drop (j + 1)).take (k1 - 1)) < 8388608 := (HSM.out (k1 - 1) (by omega)).1
          by_cases hst : k1 ≤ 3 ∧ j + k1 < b.length
          · obtain ⟨hs1, hs2⟩ := hst
            obtain ⟨y, hyj⟩ : ∃ y, b[j + k1]? = some y := ⟨_, List.getElem?_eq_getElem hs2⟩
            have ey := HG6.out.cell (HY.out (j + k1) y hyj) (fun h => h)
            have hty : (b.drop (j + 1))[k1 - 1]? = some y := by rw [List.getElem?_drop, show j + 1 + (k1 - 1) = j + k1 from by omega]; exact hyj
            have hT := acc_take (n0 := n0) hty
            rw [show k1 - 1 + 1 = k1 from by omega] at hT
            have hylt := y.toNat_lt
            have hyw : wrap64 (y.toNat : Int) = (y.toNat : Int) := by unfold wrap64; omega
            generalize y.toNat = yy at *
            generalize looseAcc n0 ((b.drop (j + 1)).take (k1 - 1)) = A at *
            have HT := Lib.hid hT
            have r1 : (k1 : Int) ≤ 3 := by omega
            have r2 : (j : Int) + (k1 : Int) < (b.length : Int) := by omega
            have r3 : (0 : Int) ≤ (j : Int) + (k1 : Int) := by omega
            clear hyj hty hT
            go_wp2_with fail
            go_roundg (3 + 2 - (k1 + 1))
            case measure => rw [HG2.out]; omega
            case rel => exact ⟨k1 + 1, rfl, by omega, by omega, by rw [Nat.add_sub_cancel, HT.out]; go_num, by go_num, rfl⟩
          · have hAM : looseAcc n0 ((b.drop (j + 1)).take (k1 - 1)) = looseAcc n0 ((b.drop (j + 1)).take 3) := by
              by_cases hk1 : k1 ≤ 3
              · have hlen : (b.drop (j + 1)).length ≤ k1 - 1 := by rw [List.length_drop]; omega
                rw [List.take_of_length_le hlen, List.take_of_length_le (by omega)]
              · rw [show k1 - 1 = 3 from by omega]
            have hout : ((k1 : Int) ≤ 3 ∧ ¬ (j : Int) + (k1 : Int) < (b.length : Int)) ∨ ¬ (k1 : Int) ≤ 3 := by omega
            have hLC := HLC.out
            rw [hAM] at *
            generalize looseAcc n0 ((b.drop (j + 1)).take 3) = A at *
            have HLC2 := Lib.hid hLC
            clear hAM hLC HLC HSM
            by_cases hbig : 1114111 < A
            · have r4 : (1114111 : Int) < (A : Int) := by omega
              have hnone : wideR b = none := wideR_none (by rw [HL.out, HD.out, HLC2.out, if_pos hbig]; rfl)
              have HNO := Lib.hid hnone
              clear hnone
              rcases hout with ⟨r1, r2⟩ | r1
              all_goals
                go_wp2_with fail
                exact bodyPost_ret (v := .tuple #[.slice none 0 0, .bool false]) (by simp [results, Tryz.results48, go_sem]) rfl (wideOut_no HNO.out HG6.out)
            · have r4 : ¬ (1114111 : Int) < (A : Int) := by omega
              have hb0 : w.heap.size ≤ wr.heap.size := HG6.out.size
              have hvb := (Vals.of_own HO6.out).2
              obtain ⟨a7, c7, w7, hr7, ho7, F7, -⟩ := add_int HO6.out hb0 (by omega) (A : Int) wr.heap.size ((Fr.refl (S := fun _ => False) wr).alloc (.cells #[.int .i64 (A : Int)] 3)) (Blk.new wr 3 #[.int .i64 (A : Int)])
              have G7 := HG6.out.trans' F7 (fun i hi e => absurd hi (by have := hvb i e; omega))
              have HO7 := Lib.hid ho7
              have HG7 := Lib.hid G7
              have HRUN := Lib.hid hr7
              have hl2 : looseL b = (looseL (b.drop (j + 3 + 1))).map ((xs ++ [A]) ++ ·) := by
                rw [HL.out, HD.out, HLC2.out, if_neg hbig, List.drop_drop, Option.map_map, show j + 1 + 3 = j + 3 + 1 from by omega]
                congr 1
                funext l
                simp
              have HL2 := Lib.hid hl2
              have HBIG := Lib.hid hbig
              clear ho7 G7 hr7 hl2 F7 hvb hbig
              rcases hout with ⟨r1, r2⟩ | r1
              all_goals
                go_wp2_with (at_builtin; refine wpList_append_run (by rfl) (.tmp 59) (.tmp 61) 22 (by rfl) _ w7 (by exact HRUN.out) ?_)
                go_roundg (b.length + 4 - (j + 3 + 1))
                case measure => rw [HG.out]; omega
                case rel => exact ⟨xs ++ [A], j + 3 + 1, a7, xs.length + 1, c7, rfl, by omega, rfl, by go_num, (by have := HO7.out; rw [List.length_append, List.length_singleton]; simpa [natInts] using this), HL2.out, le_snoc HXS.out HBIG.out, (by rw [List.length_append, List.length_singleton]; omega), HG7.out⟩
      · have p1 : ¬ (240 : Int) ≤ (c : Int) := by omega
        have p2 : (224 : Int) ≤ (c : Int) := by omega
        go_wp2_with fail
        obtain ⟨wo, hwo⟩ : ∃ wo : World, wo = wr := ⟨_, rfl⟩
        obtain rfl := hwo
        go_loopg [7, 9] (2 + 1) (fun g n k wi => ∃ k1 : Nat, g = 2 + 2 - k1 ∧ 0 < k1 ∧ k1 ≤ 2 + 1 ∧ n = .int .i64 (looseAcc n0 ((b.drop (j + 1)).take (k1 - 1))) ∧ k = .int .i64 k1 ∧ wi = wo)
        case atStart => exact ⟨1, rfl, by omega, by omega, rfl, rfl, rfl⟩
        case round =>
          obtain ⟨k1, hg, hk0, hk, rfl, rfl, rfl⟩ := hrel
          have HG2 := Lib.hid hg
          clear hg
          have hA : looseAcc n0 ((b.drop (j + 1)).take (k1 - 1)) < 8388608 := (HSM.out (k1 - 1) (by omega)).1
          by_cases hst : k1 ≤ 2 ∧ j + k1 < b.length
          · obtain ⟨hs1, hs2⟩ := hst
            obtain ⟨y, hyj⟩ : ∃ y, b[j + k1]? = some y := ⟨_, List.getElem?_eq_getElem hs2⟩
            have ey := HG6.out.cell (HY.out (j + k1) y hyj) (fun h => h)
            have hty : (b.drop (j + 1))[k1 - 1]? = some y := by rw [List.getElem?_drop, show j + 1 + (k1 - 1) = j + k1 from by omega]; exact hyj
            have hT := acc_take (n0 := n0) hty
            rw [show k1 - 1 + 1 = k1 from by omega] at hT
            have hylt := y.toNat_lt
            have hyw : wrap64 (y.toNat : Int) = (y.toNat : Int) := by unfold wrap64; omega
            generalize y.toNat = yy at *
            generalize looseAcc n0 ((b.drop (j + 1)).take (k1 - 1)) = A at *
            have HT := Lib.hid hT
            have r1 : (k1 : Int) ≤ 2 := by omega
            have r2 : (j : Int) + (k1 : Int) < (b.length : Int) := by omega
            have r3 : (0 : Int) ≤ (j : Int) + (k1 : Int) := by omega
            clear hyj hty hT
            go_wp2_with fail
            go_roundg (2 + 2 - (k1 + 1))
            case measure => rw [HG2.out]; omega
            case rel => exact ⟨k1 + 1, rfl, by omega, by omega, by rw [Nat.add_sub_cancel, HT.out]; go_num, by go_num, rfl⟩
          · have hAM : looseAcc n0 ((b.drop (j + 1)).take (k1 - 1)) = looseAcc n0 ((b.drop (j + 1)).take 2) := by
              by_cases hk1 : k1 ≤ 2
              · have hlen : (b.drop (j + 1)).length ≤ k1 - 1 := by rw [List.length_drop]; omega
                rw [List.take_of_length_le hlen, List.take_of_length_le (by omega)]
              · rw [show k1 - 1 = 2 from by omega]
            have hout : ((k1 : Int) ≤ 2 ∧ ¬ (j : Int) + (k1 : Int) < (b.length : Int)) ∨ ¬ (k1 : Int) ≤ 2 := by omega
            have hLC := HLC.out
            rw [hAM] at *
            generalize looseAcc n0 ((b.drop (j + 1)).take 2) = A at *
            have HLC2 := Lib.hid hLC
            clear hAM hLC HLC HSM
            by_cases hbig : 1114111 < A
            · have r4 : (1114111 : Int) < (A : Int) := by omega
              have hnone : wideR b = none := wideR_none (by rw [HL.out, HD.out, HLC2.out, if_pos hbig]; rfl)
              have HNO := Lib.hid hnone
              clear hnone
              rcases hout with ⟨r1, r2⟩ | r1
              all_goals
                go_wp2_with fail
                exact bodyPost_ret (v := .tuple #[.slice none 0 0, .bool false]) (by simp [results, Tryz.results48, go_sem]) rfl (wideOut_no HNO.out HG6.out)
            · have r4 : ¬ (1114111 : Int) < (A : Int) := by omega
              have hb0 : w.heap.size ≤ wr.heap.size := HG6.out.size
              have hvb := (Vals.of_own HO6.out).2
              obtain ⟨a7, c7, w7, hr7, ho7, F7, -⟩ := add_int HO6.out hb0 (by omega) (A : Int) wr.heap.size ((Fr.refl (S := fun _ => False) wr).alloc (.cells #[.int .i64 (A : Int)] 3)) (Blk.new wr 3 #[.int .i64 (A : Int)])
              have G7 := HG6.out.trans' F7 (fun i hi e => absurd hi (by have := hvb i e; omega))
              have HO7 := Lib.hid ho7
              have HG7 := Lib.hid G7
              have HRUN := Lib.hid hr7
              have hl2 : looseL b = (looseL (b.drop (j + 2 + 1))).map ((xs ++ [A]) ++ ·) := by
                rw [HL.out, HD.out, HLC2.out, if_neg hbig, List.drop_drop, Option.map_map, show j + 1 + 2 = j + 2 + 1 from by omega]
                congr 1
                funext l
                simp
              have HL2 := Lib.hid hl2
              have HBIG := Lib.hid hbig
              clear ho7 G7 hr7 hl2 F7 hvb hbig
              rcases hout with ⟨r1, r2⟩ | r1
              all_goals
                go_wp2_with (at_builtin; refine wpList_append_run (by rfl) (.tmp 59) (.tmp 61) 22 (by rfl) _ w7 (by exact HRUN.out) ?_)
                go_roundg (b.length + 4 - (j + 2 + 1))
                case measure => rw [HG.out]; omega
                case rel => exact ⟨xs ++ [A], j + 2 + 1, a7, xs.length + 1, c7, rfl, by omega, rfl, by go_num, (by have := HO7.out; rw [List.length_append, List.length_singleton]; simpa [natInts] using this), HL2.out, le_snoc HXS.out HBIG.out, (by rw [List.length_append, List.length_singleton]; omega), HG7.out⟩
      · have p1 : ¬ (240 : Int) ≤ (c : Int) := by omega
        have p2 : ¬ (224 : Int) ≤ (c : Int) := by omega
        have p3 : (192 : Int) ≤ (c : Int) := by omega
        go_wp2_with fail
        obtain ⟨wo, hwo⟩ : ∃ wo : World, wo = wr := ⟨_, rfl⟩
        obtain rfl := hwo
        go_loopg [7, 9] (1 + 1) (fun g n k wi => ∃ k1 : Nat, g = 1 + 2 - k1 ∧ 0 < k1 ∧ k1 ≤ 1 + 1 ∧ n = .int .i64 (looseAcc n0 ((b.drop (j + 1)).take (k1 - 1))) ∧ k = .int .i64 k1 ∧ wi = wo)
        case atStart => exact ⟨1, rfl, by omega, by omega, rfl, rfl, rfl⟩
        case round =>
          obtain ⟨k1, hg, hk0, hk, rfl, rfl, rfl⟩ := hrel
          have HG2 := Lib.hid hg
          clear hg
          have hA : looseAcc n0 ((b.drop (j + 1)).take (k1 - 1)) < 8388608 := (HSM.out (k1 - 1) (by omega)).1
          by_cases hst : k1 ≤ 1 ∧ j + k1 < b.length
          · obtain ⟨hs1, hs2⟩ := hst
            obtain ⟨y, hyj⟩ : ∃ y, b[j + k1]? = some y := ⟨_, List.getElem?_eq_getElem hs2⟩
            have ey := HG6.out.cell (HY.out (j + k1) y hyj) (fun h => h)
            have hty : (b.drop (j + 1))[k1 - 1]? = some y := by rw [List.getElem?_drop, show j + 1 + (k1 - 1) = j + k1 from by omega]; exact hyj
            have hT := acc_take (n0 := n0) hty
            rw [show k1 - 1 + 1 = k1 from by omega] at hT
            have hylt := y.toNat_lt
            have hyw : wrap64 (y.toNat : Int) = (y.toNat : Int) := by unfold wrap64; omega
            generalize y.toNat = yy at *
            generalize looseAcc n0 ((b.drop (j + 1)).take (k1 - 1)) = A at *
            have HT := Lib.hid hT
            have r1 : (k1 : Int) ≤ 1 := by omega
            have r2 : (j : Int) + (k1 : Int) < (b.length : Int) := by omega
            have r3 : (0 : Int) ≤ (j : Int) + (k1 : Int) := by omega
            clear hyj hty hT
            go_wp2_with fail
            go_roundg (1 + 2 - (k1 + 1))
            case measure => rw [HG2.out]; omega
            case rel => exact ⟨k1 + 1, rfl, by omega, by omega, by rw [Nat.add_sub_cancel, HT.out]; go_num, by go_num, rfl⟩
          · have hAM : looseAcc n0 ((b.drop (j + 1)).take (k1 - 1)) = looseAcc n0 ((b.drop (j + 1)).take 1) := by
              by_cases hk1 : k1 ≤ 1
              · have hlen : (b.drop (j + 1)).length ≤ k1 - 1 := by rw [List.length_drop]; omega
                rw [List.take_of_length_le hlen, List.take_of_length_le (by omega)]
              · rw [show k1 - 1 = 1 from by omega]
            have hout : ((k1 : Int) ≤ 1 ∧ ¬ (j : Int) + (k1 : Int) < (b.length : Int)) ∨ ¬ (k1 : Int) ≤ 1 := by omega
            have hLC := HLC.out
            rw [hAM] at *
            generalize looseAcc n0 ((b.drop (j + 1)).take 1) = A at *
            have HLC2 := Lib.hid hLC
            clear hAM hLC HLC HSM
            by_cases hbig : 1114111 < A
            · have r4 : (1114111 : Int) < (A : Int) := by omega
              have hnone : wideR b = none := wideR_none (by rw [HL.out, HD.out, HLC2.out, if_pos hbig]; rfl)
              have HNO := Lib.hid hnone
              clear hnone
              rcases hout with ⟨r1, r2⟩ | r1
              all_goals
                go_wp2_with fail
                exact bodyPost_ret (v := .tuple #[.slice none 0 0, .bool false]) (by simp [results, Tryz.results48, go_sem]) rfl (wideOut_no HNO.out HG6.out)
            · have r4 : ¬ (1114111 : Int) < (A : Int) := by omega
              have hb0 : w.heap.size ≤ wr.heap.size := HG6.out.size
              have hvb := (Vals.of_own HO6.out).2
              obtain ⟨a7, c7, w7, hr7, ho7, F7, -⟩ := add_int HO6.out hb0 (by omega) (A : Int) wr.heap.size ((Fr.refl (S := fun _ => False) wr).alloc (.cells #[.int .i64 (A : Int)] 3)) (Blk.new wr 3 #[.int .i64 (A : Int)])
              have G7 := HG6.out.trans' F7 (fun i hi e => absurd hi (by have := hvb i e; omega))
              have HO7 := Lib.hid ho7
              have HG7 := Lib.hid G7
              have HRUN := Lib.hid hr7
              have hl2 : looseL b = (looseL (b.drop (j + 1 + 1))).map ((xs ++ [A]) ++ ·) := by
                rw [HL.out, HD.out, HLC2.out, if_neg hbig, List.drop_drop, Option.map_map, show j + 1 + 1 = j + 1 + 1 from by omega]
                congr 1
                funext l
                simp
              have HL2 := Lib.hid hl2
              have HBIG := Lib.hid hbig
              clear ho7 G7 hr7 hl2 F7 hvb hbig
              rcases hout with ⟨r1, r2⟩ | r1
              all_goals
                go_wp2_with (at_builtin; refine wpList_append_run (by rfl) (.tmp 59) (.tmp 61) 22 (by rfl) _ w7 (by exact HRUN.out) ?_)
                go_roundg (b.length + 4 - (j + 1 + 1))
                case measure => rw [HG.out]; omega
                case rel => exact ⟨xs ++ [A], j + 1 + 1, a7, xs.length + 1, c7, rfl, by omega, rfl, by go_num, (by have := HO7.out; rw [List.length_append, List.length_singleton]; simpa [natInts] using this), HL2.out, le_snoc HXS.out HBIG.out, (by rw [List.length_append, List.length_singleton]; omega), HG7.out⟩
      · have p1 : ¬ (240 : Int) ≤ (c : Int) := by omega
        have p2 : ¬ (224 : Int) ≤ (c : Int) := by omega
        have p3 : ¬ (192 : Int) ≤ (c : Int) := by omega
        obtain rfl : c = n0 := by omega
        clear d4
        go_wp2_with fail
        obtain ⟨wo, hwo⟩ : ∃ wo : World, wo = wr := ⟨_, rfl⟩
        obtain rfl := hwo
        go_loopg [7, 9] (0 + 1) (fun g n k wi => ∃ k1 : Nat, g = 0 + 2 - k1 ∧ 0 < k1 ∧ k1 ≤ 0 + 1 ∧ n = .int .i64 (looseAcc c ((b.drop (j + 1)).take (k1 - 1))) ∧ k = .int .i64 k1 ∧ wi = wo)
        case atStart => exact ⟨1, rfl, by omega, by omega, rfl, rfl, rfl⟩
        case round =>
          obtain ⟨k1, hg, hk0, hk, rfl, rfl, rfl⟩ := hrel
          have HG2 := Lib.hid hg
          clear hg
          have hA : looseAcc c ((b.drop (j + 1)).take (k1 - 1)) < 8388608 := (HSM.out (k1 - 1) (by omega)).1
          by_cases hst : k1 ≤ 0 ∧ j + k1 < b.length
          · exact absurd hst.1 (by omega)
          · have hAM : looseAcc c ((b.drop (j + 1)).take (k1 - 1)) = looseAcc c ((b.drop (j + 1)).take 0) := by
              by_cases hk1 : k1 ≤ 0
              · have hlen : (b.drop (j + 1)).length ≤ k1 - 1 := by rw [List.length_drop]; omega
                rw [List.take_of_length_le hlen, List.take_of_length_le (by omega)]
              · rw [show k1 - 1 = 0 from by omega]
            have r1 : ¬ (k1 : Int) ≤ 0 := by omega
            have hLC := HLC.out
            rw [hAM] at *
            generalize looseAcc c ((b.drop (j + 1)).take 0) = A at *
            have HLC2 := Lib.hid hLC
            clear hAM hLC HLC HSM
            by_cases hbig : 1114111 < A
            · have r4 : (1114111 : Int) < (A : Int) := by omega
              have hnone : wideR b = none := wideR_none (by rw [HL.out, HD.out, HLC2.out, if_pos hbig]; rfl)
              have HNO := Lib.hid hnone
              clear hnone
              all_goals
                go_wp2_with fail
                exact bodyPost_ret (v := .tuple #[.slice none 0 0, .bool false]) (by simp [results, Tryz.results48, go_sem]) rfl (wideOut_no HNO.out HG6.out)
            · have r4 : ¬ (1114111 : Int) < (A : Int) := by omega
              have hb0 : w.heap.size ≤ wr.heap.size := HG6.out.size
              have hvb := (Vals.of_own HO6.out).2
              obtain ⟨a7, c7, w7, hr7, ho7, F7, -⟩ := add_int HO6.out hb0 (by omega) (A : Int) wr.heap.size ((Fr.refl (S := fun _ => False) wr).alloc (.cells #[.int .i64 (A : Int)] 3)) (Blk.new wr 3 #[.int .i64 (A : Int)])
              have G7 := HG6.out.trans' F7 (fun i hi e => absurd hi (by have := hvb i e; omega))
              have HO7 := Lib.hid ho7
              have HG7 := Lib.hid G7
              have HRUN := Lib.hid hr7
              have hl2 : looseL b = (looseL (b.drop (j + 0 + 1))).map ((xs ++ [A]) ++ ·) := by
                rw [HL.out, HD.out, HLC2.out, if_neg hbig, List.drop_drop, Option.map_map, show j + 1 + 0 = j + 0 + 1 from by omega]
                congr 1
                funext l
                simp
              have HL2 := Lib.hid hl2
              have HBIG := Lib.hid hbig
              clear ho7 G7 hr7 hl2 F7 hvb hbig
              all_goals
                go_wp2_with (at_builtin; refine wpList_append_run (by rfl) (.tmp 59) (.tmp 61) 22 (by rfl) _ w7 (by exact HRUN.out) ?_)
                go_roundg (b.length + 4 - (j + 0 + 1))
                case measure => rw [HG.out]; omega
                case rel => exact ⟨xs ++ [A], j + 0 + 1, a7, xs.length + 1, c7, rfl, by omega, rfl, by go_num, (by have := HO7.out; rw [List.length_append, List.length_singleton]; simpa [natInts] using this), HL2.out, le_snoc HXS.out HBIG.out, (by rw [List.length_append, List.length_singleton]; omega), HG7.out⟩
    · have q2 : ¬ (j : Int) < (b.length : Int) := by omega
      have hLb : looseL b = some xs := by rw [HL.out, List.drop_of_length_le (by omega), looseL_nil]; simp
      have hW := wideR_some hLb
      have HW := Lib.hid hW
      have hv6 := (Vals.of_own HO6.out).1
      obtain ⟨a', cap', he, -, -, hz⟩ := Ints.form hv6
      rw [List.length_map] at he hz
      simp only [Value.slice.injEq] at he
      obtain ⟨rfl, rfl, rfl⟩ := he
      have HV6 := Lib.hid hv6
      have HZ := Lib.hid hz
      clear hLb hW hv6 hz HL
      go_wp2_with fail
      obtain ⟨wo, hwo⟩ : ∃ wo : World, wo = wr := ⟨_, rfl⟩
      obtain rfl := hwo
      go_loopg [10] xs.length (fun g k wi => ∃ k1 : Nat, g = xs.length - k1 ∧ k1 ≤ xs.length ∧ k = .int .i64 k1 ∧ (natInts (xs.take k1)).all (mayS 12) = true ∧ wi = wo)
      case atStart => exact ⟨0, rfl, Nat.zero_le _, rfl, rfl, rfl⟩
      case round =>
        obtain ⟨k1, hg, hk, rfl, hall, rfl⟩ := hrel
        have HG2 := Lib.hid hg
        have HALL := Lib.hid hall
        clear hg hall
        by_cases hkl : k1 < xs.length
        · obtain ⟨b8, o8, rfl, hy8⟩ := HZ.out (by omega)
          obtain ⟨n, hn⟩ : ∃ n, xs[k1]? = some n := ⟨_, List.getElem?_eq_getElem hkl⟩
          have en := hy8 k1 n (by rw [List.getElem?_map, hn]; rfl)
          have hat : (natInts (xs.take (k1 + 1))).all (mayS 12) = ((natInts (xs.take k1)).all (mayS 12) && mayS 12 (n : Int)) := by
            rw [List.take_add_one, hn]
            simp [natInts]
          have hno : mayS 12 (n : Int) = false → (natInts xs).all (mayS 12) = false := fun h => by
            rw [List.all_eq_false]
            exact ⟨(n : Int), List.mem_map.2 ⟨n, List.mem_of_getElem? hn, rfl⟩, by simp [h]⟩
          have HAT := Lib.hid hat
          have HNO := Lib.hid hno
          have r1 : (0 : Int) ≤ (k1 : Int) := by omega
          have r2 : (k1 : Int) < (xs.length : Int) := by omega
          clear hy8 hn hat hno
          rcases Bool.eq_false_or_eq_true (mayS 12 (n : Int)) with hm | hm
          · have HM := Lib.hid hm
            have HC := Lib.hid (r06May_any 12 (n : Int))
            clear hm
            go_wp2_with (first | (go_at_call 49; refine (HC.out _).mono ?_; rintro e w' ⟨rfl, rfl⟩; rw [HM.out]))
            go_roundg (xs.length - (k1 + 1))
            case measure => rw [HG2.out]; omega
            case rel => exact ⟨k1 + 1, rfl, by omega, by go_num, by rw [HAT.out, HALL.out, HM.out]; rfl, rfl⟩
          · have HM := Lib.hid hm
            have HC := Lib.hid (r06May_any 12 (n : Int))
            have hnone : wideR b = none := by rw [HW.out, if_neg]; intro h; rw [HNO.out hm] at h; exact absurd h.1 (by decide)
            have HNONE := Lib.hid hnone
            clear hm hnone
            go_wp2_with (first | (go_at_call 49; refine (HC.out _).mono ?_; rintro e w' ⟨rfl, rfl⟩; rw [HM.out]))
            exact bodyPost_ret (v := .tuple #[.slice none 0 0, .bool false]) (by simp [results, Tryz.results48, go_sem]) rfl (wideOut_no HNONE.out HG6.out)
        · have r2 : ¬ (k1 : Int) < (xs.length : Int) := by omega
          have hall : (natInts xs).all (mayS 12) = true := by
            have := HALL.out
            rwa [List.take_of_length_le (by omega)] at this
          have HU := Lib.hid (r06Utf8_any (.slice a6 xs.length c6) xs · · (fun n hn => by have := HXS.out n hn; omega) (by omega))
          have HW2 : wideR b = if encAll xs = b then some xs else none := by rw [HW.out, hall]; simp
          have HWW := Lib.hid HW2
          have hb1 : Bytes wr.drew (.slice a b.length cap) b := (HB.out.old HG6.out).old ((Fr.refl wr).drew)
          have hv1 : Ints wr.drew (.slice a6 xs.length c6) (natInts xs) := HV6.out.old ((Fr.refl wr).drew)
          have G1 : Fr (fun _ => False) w wr.drew := HG6.out.drew
          have S := str_of hb1
          have HB1 := Lib.hid hb1
          have HV1 := Lib.hid hv1
          have HG1 := Lib.hid G1
          clear hall HW2 hb1 hv1 G1 HW HB HV6 HG6 HO6 HX HZ HXS HALL HG HG2
          go_upto_region 25 with fail
          have hF0 : ∀ w5, Fr (fun _ => False) wr.drew w5 → (Go.convert 23 9 (.slice a b.length cap)).run Tryz.prog w5 = .ok (str b) w5 := fun w5 F5 => str_of (HB1.out.old F5)
          have HF0 := Lib.hid hF0
          clear hF0
          by_cases hq : encAll xs = b
          · have z1 : (encAll xs == b) = true := beq_iff_eq.2 hq
            have z2 : (encAll xs != b) = false := by rw [bne, z1]; rfl
            have HR := Lib.hid (show wideR b = some xs by rw [HWW.out, if_pos hq])
            clear hq
            go_region_with (first
              | (go_at_call 28; refine (HU.out _ HV1.out).mono ?_; rintro e w5 ⟨v5, rfl, ho5, F5⟩; obtain ⟨a5, m5, c5, rfl, rfl⟩ := own_shape ho5; have S5 := HF0.out _ F5; have C5 := str_of (Vals.of_own ho5).1))
            all_goals
              have hvv : Ints w5 (.slice a6 xs.length c6) (natInts xs) := HV1.out.old F5
              have HVV := Lib.hid hvv
              have HG5 := Lib.hid (HG1.out.trans F5)
              clear hvv F5 ho5 S S5 C5
              go_wp2_with fail
              refine bodyPost_ret (v := .tuple #[.slice a6 xs.length c6, .bool true]) (by simp [results, Tryz.results48, go_sem]) rfl ⟨_, by rw [HR.out]; rfl, by rw [HR.out]; exact HVV.out, HG5.out⟩
          · have z1 : (encAll xs == b) = false := beq_eq_false_iff_ne.2 hq
            have z2 : (encAll xs != b) = true := by rw [bne, z1]; rfl
            have HR := Lib.hid (show wideR b = none by rw [HWW.out, if_neg hq])
            clear hq
            go_region_with (first
              | (go_at_call 28; refine (HU.out _ HV1.out).mono ?_; rintro e w5 ⟨v5, rfl, ho5, F5⟩; obtain ⟨a5, m5, c5, rfl, rfl⟩ := own_shape ho5; have S5 := HF0.out _ F5; have C5 := str_of (Vals.of_own ho5).1))
            all_goals
              have HG5 := Lib.hid (HG1.out.trans F5)
              clear F5 ho5 S S5 C5
              go_wp2_with fail
              exact bodyPost_ret (v := .tuple #[.slice none 0 0, .bool false]) (by simp [results, Tryz.results48, go_sem]) rfl (wideOut_no HR.out HG5.out)
end Go.Proofs.YtgffhiopbnkjbaaGreatDoor

namespace Go.Q
open Go Go.RowKit
/-- A text's signs, as the reference reads them. -/
def sigR (k : Int) (b : List UInt8) : Option (List Int) :=
  if kindOk k = true then
    (if k = 12 then (wideR b).map natInts else
      if k = 30 ∧ b.length % 2 = 1 then none else if (signsS k b).all (mayS k) = true then some (signsS k b) else none)
  else none
theorem sigR_ok {k : Int} {b : List UInt8} {l : List Int} (h : sigR k b = some l) : rightS k b = true ∧ signsS k b = l := by
  unfold sigR at h
  split at h
  · rename_i hk
    split at h
    · rename_i h12
      subst h12
      cases hw : wideR b with
      | none => rw [hw] at h; cases h
      | some ns =>
        rw [hw] at h
        simp only [Option.map_some, Option.some.injEq] at h
        have := wideR_ok hw
        exact ⟨this.2.2.2, this.2.2.1.trans h⟩
    · split at h
      · cases h
      · split at h
        · rename_i ha
          simp only [Option.some.injEq] at h
          exact ⟨by unfold rightS; rw [hk, ha]; rfl, h⟩
        · cases h
  · cases h
theorem pairs_snoc (x y : UInt8) : ∀ (l : List UInt8), l.length % 2 = 0 → pairsS (l ++ [x, y]) = pairsS l ++ [((x.toNat * 256 + y.toNat : Nat) : Int)]
  | [], _ => rfl
  | [_], h => by simp at h
  | a :: b :: t, h => by
    have := pairs_snoc x y t (by simp at h; omega)
    simp only [List.cons_append, pairsS, this]
theorem pairs_take {b : List UInt8} {m : Nat} {x y : UInt8} (hx : b[2 * m]? = some x) (hy : b[2 * m + 1]? = some y) : pairsS (b.take (2 * (m + 1))) = pairsS (b.take (2 * m)) ++ [((x.toNat * 256 + y.toNat : Nat) : Int)] := by
  have h1 : b.take (2 * m + 1) = b.take (2 * m) ++ [x] := by rw [List.take_add_one, hx]; rfl
  have h2 : b.take (2 * m + 2) = b.take (2 * m + 1) ++ [y] := by rw [show 2 * m + 2 = 2 * m + 1 + 1 from rfl, List.take_add_one, hy]; rfl
  rw [show 2 * (m + 1) = 2 * m + 2 from by omega, h2, h1, List.append_assoc]
  refine pairs_snoc x y _ ?_
  have := (List.getElem?_eq_some_iff.1 hx).1
  rw [List.length_take]
  omega
theorem pairs_len (b : List UInt8) (h : b.length % 2 = 0) : ∀ m, 2 * m ≤ b.length → (pairsS (b.take (2 * m))).length = m
  | 0, _ => rfl
  | m + 1, hm => by
    have hx : b[2 * m]? = some b[2 * m] := List.getElem?_eq_getElem (by omega)
    have hy : b[2 * m + 1]? = some b[2 * m + 1] := List.getElem?_eq_getElem (by omega)
    rw [pairs_take hx hy, List.length_append, pairs_len b h m (by omega)]
    rfl
end Go.Q
namespace Go.Proofs.YtgffhiopbnkjbaaGreatDoor
open Go Go.RowKit Go.Q

def RSigOut (w w' : World) (k : Int) (b : List UInt8) (e : Ending) : Prop :=
  ∃ v, e = .returned (.tuple #[v, .bool (sigR k b).isSome]) ∧ Ints w' v ((sigR k b).getD []) ∧ Fr (fun _ => False) w w'
theorem sigOut_no {w w' : World} {k : Int} {b : List UInt8} (h : sigR k b = none) (F : Fr (fun _ => False) w w') : RSigOut w w' k b (.returned (.tuple #[.slice none 0 0, .bool false])) := by
  refine ⟨_, by rw [h]; rfl, ?_, F⟩
  rw [h]
  exact Vals.nil w'

set_option maxRecDepth 20000 in
set_option maxHeartbeats 4000000 in
theorem r06Signs_12 (v : Value) (b : List UInt8) (w : World) (h : Bytes w v b) (hlim : b.length ≤ 16777216) :
    Calls Tryz.prog 9 #[.agg #[.int .i64 12, v]] w fun e w' => RSigOut w w' 12 b e := by
  obtain ⟨a, cap, rfl, -, -, hx⟩ := h.form
  have HB := Lib.hid h
  have HX := Lib.hid hx
  obtain ⟨z, hz⟩ : ∃ z, z = w.heap.size := ⟨_, rfl⟩
  have B := Blk.new w 25 #[.int .i64 12, .slice a b.length cap]
  have F0 : Fr (fun _ => False) w (w.alloc (.cells #[.int .i64 12, .slice a b.length cap] 25)) := (Fr.refl w).alloc _
  rw [← hz] at B
  have HZ := Lib.hid hz
  have HF0 := Lib.hid F0
  clear h hx hz F0
  go_enter Tryz.func9, Tryz.ntmps9
  go_upto_region 1 with fail
  rw [← HZ.out]
  generalize (w.alloc (.cells #[.int .i64 12, .slice a b.length cap] 25)) = w0 at *
  have t0 := B.cell 0
  have t1 := B.cell 1
  simp only [List.getElem?_toArray, List.getElem?_cons_succ, List.getElem?_cons_zero] at t0 t1
  have hk : Go.Q.kindOk 12 = true := rfl
  have HC := Lib.hid (r06Kind_any 12)
  have HW := Lib.hid (r06wide_any (.slice a b.length cap) b w0 (HB.out.old HF0.out) hlim)
  have hs : sigR 12 b = (wideR b).map natInts := by unfold sigR; rw [if_pos hk, if_pos rfl]
  have HS := Lib.hid hs
  have HKK := Lib.hid hk
  clear hs hk
  go_wp2_with (first | (go_at_call 47; refine (HC.out _).mono ?_; rintro e w' ⟨rfl, rfl⟩; rw [HKK.out]))
  refine HW.out.mono ?_
  rintro e w5 ⟨v5, rfl, hi5, F5⟩
  obtain ⟨a5, m5, c5, rfl⟩ : ∃ a m c, v5 = .slice a m c := by
    obtain ⟨a, c, h, -⟩ := Ints.form hi5
    exact ⟨a, _, c, h⟩
  have HI5 := Lib.hid hi5
  have HF5 := Lib.hid (HF0.out.trans F5)
  clear hi5 F5 HW HC
  go_wp2_with fail
  refine bodyPost_ret (v := .tuple #[.slice a5 m5 c5, .bool (wideR b).isSome]) (by simp [results, Tryz.results9, go_sem]) rfl (show RSigOut w w5 12 b _ from ⟨.slice a5 m5 c5, ?_, ?_, HF5.out⟩)
  · rw [HS.out]
    cases wideR b <;> rfl
  · have := HI5.out
    rw [HS.out]
    cases hw : wideR b with
    | none => rw [hw] at this; exact this
    | some ns => rw [hw] at this; exact this

set_option maxRecDepth 20000 in
set_option maxHeartbeats 4000000 in
theorem r06Signs_none (k : Int) (hk : Go.Q.kindOk k = false) (v : Value) (b : List UInt8) (w : World) (h : Bytes w v b) (_hlim : b.length ≤ 16777216) :
    Calls Tryz.prog 9 #[.agg #[.int .i64 k, v]] w fun e w' => RSigOut w w' k b e := by
  obtain ⟨a, cap, rfl, -, -, hx⟩ := h.form
  have HB := Lib.hid h
  have HX := Lib.hid hx
  obtain ⟨z, hz⟩ : ∃ z, z = w.heap.size := ⟨_, rfl⟩
  have B := Blk.new w 25 #[.int .i64 k, .slice a b.length cap]
  have F0 : Fr (fun _ => False) w (w.alloc (.cells #[.int .i64 k, .slice a b.length cap] 25)) := (Fr.refl w).alloc _
  rw [← hz] at B
  have HZ := Lib.hid hz
  have HF0 := Lib.hid F0
  clear h hx hz F0
  go_enter Tryz.func9, Tryz.ntmps9
  go_upto_region 1 with fail
  rw [← HZ.out]
  generalize (w.alloc (.cells #[.int .i64 k, .slice a b.length cap] 25)) = w0 at *
  have t0 := B.cell 0
  have t1 := B.cell 1
  simp only [List.getElem?_toArray, List.getElem?_cons_succ, List.getElem?_cons_zero] at t0 t1
  have HC := Lib.hid (r06Kind_any k)
  have hn : sigR k b = none := by unfold sigR; rw [hk]; rfl
  have HN := Lib.hid hn
  have HKK := Lib.hid hk
  clear hn hk
  go_wp2_with (first | (go_at_call 47; refine (HC.out _).mono ?_; rintro e w' ⟨rfl, rfl⟩; rw [HKK.out]))
  exact bodyPost_ret (v := .tuple #[.slice none 0 0, .bool false]) (by simp [results, Tryz.results9, go_sem]) rfl (sigOut_no HN.out HF0.out)
end Go.Proofs.YtgffhiopbnkjbaaGreatDoor

namespace Go.Proofs.YtgffhiopbnkjbaaGreatDoor
open Go Go.RowKit Go.Q
set_option maxRecDepth 20000 in
set_option maxHeartbeats 4000000 in
theorem r06Signs_30 (v : Value) (b : List UInt8) (w : World) (h : Bytes w v b) (hlim : b.length ≤ 16777216) :
    Calls Tryz.prog 9 #[.agg #[.int .i64 30, v]] w fun e w' => RSigOut w w' 30 b e := by
  obtain ⟨a, cap, rfl, -, -, hx⟩ := h.form
  have HB := Lib.hid h
  have HX := Lib.hid hx
  obtain ⟨z, hz⟩ : ∃ z, z = w.heap.size := ⟨_, rfl⟩
  have B := Blk.new w 25 #[.int .i64 30, .slice a b.length cap]
  have F0 : Fr (fun _ => False) w (w.alloc (.cells #[.int .i64 30, .slice a b.length cap] 25)) := (Fr.refl w).alloc _
  rw [← hz] at B
  have HZ := Lib.hid hz
  have HF0 := Lib.hid F0
  clear h hx hz F0
  go_enter Tryz.func9, Tryz.ntmps9
  go_upto_region 1 with fail
  rw [← HZ.out]
  generalize (w.alloc (.cells #[.int .i64 30, .slice a b.length cap] 25)) = w0 at *
  have t0 := B.cell 0
  have t1 := B.cell 1
  simp only [List.getElem?_toArray, List.getElem?_cons_succ, List.getElem?_cons_zero] at t0 t1
  have hk : Go.Q.kindOk 30 = true := rfl
  have HC := Lib.hid (r06Kind_any 30)
  have p12 : ((30 : Int) == 12) = false := rfl
  have HKK := Lib.hid hk
  have hP : signsS 30 b = pairsS b := rfl
  by_cases hodd : b.length % 2 = 1
  · have z1 : ((b.length : Int) % 2 == 1) = true := beq_iff_eq.2 (by omega)
    have z2 : (b.length % 2 == 1) = true := beq_iff_eq.2 hodd
    have hn : sigR 30 b = none := by unfold sigR; rw [if_pos hk, if_neg (by decide), if_pos ⟨rfl, hodd⟩]
    have HN := Lib.hid hn
    clear hn hk hP
    go_wp2_with (first | (go_at_call 47; refine (HC.out _).mono ?_; rintro e w' ⟨rfl, rfl⟩; rw [HKK.out]))
    exact bodyPost_ret (v := .tuple #[.slice none 0 0, .bool false]) (by simp [results, Tryz.results9, go_sem]) rfl (sigOut_no HN.out HF0.out)
  · have z1 : ((b.length : Int) % 2 == 1) = false := beq_eq_false_iff_ne.2 (by omega)
    have z2 : (b.length % 2 == 1) = false := beq_eq_false_iff_ne.2 hodd
    have HP := Lib.hid hP
    have HB0 := Lib.hid B
    clear hk hP
    go_wp2_with (first | (go_at_call 47; refine (HC.out _).mono ?_; rintro e w' ⟨rfl, rfl⟩; rw [HKK.out]))
    clear t0 t1
    go_loopg [4, 5] b.length (fun g l i wr => ∃ (j : Nat) (a6 : Option Addr) (n6 c6 : Nat), g = b.length - j ∧ j ≤ b.length ∧ j % 2 = 0 ∧ l = .slice a6 n6 c6 ∧ i = .int .i64 j ∧ wr.ownsRow (z + 1) 3 1 (.slice a6 n6 c6) n6 (intCells (pairsS (b.take j))) ∧ Fr (fun _ => False) w wr ∧ Blk wr z 25 #[.int .i64 30, .slice a b.length cap] ∧ 2 * n6 = j)
    case atStart => exact ⟨0, none, 0, 0, rfl, Nat.zero_le _, rfl, rfl, rfl, ⟨rfl, .inl ⟨rfl, rfl⟩⟩, HF0.out, HB0.out, rfl⟩
    case round =>
      obtain ⟨j, a6, N6, c6, hg, hj, hj2, rfl, rfl, ho6, G6, B, hN6⟩ := hrel
      have HG := Lib.hid hg
      have HO6 := Lib.hid ho6
      have HG6 := Lib.hid G6
      have t0 := B.cell 0
      have t1 := B.cell 1
      simp only [List.getElem?_toArray, List.getElem?_cons_succ, List.getElem?_cons_zero] at t0 t1
      clear hg ho6 G6
      by_cases hjl : j < b.length
      · obtain ⟨bb, oo, rfl, hy⟩ := HX.out (by omega)
        obtain ⟨x, hxj⟩ : ∃ x, b[j]? = some x := ⟨_, List.getElem?_eq_getElem hjl⟩
        obtain ⟨y, hyj⟩ : ∃ y, b[j + 1]? = some y := ⟨_, List.getElem?_eq_getElem (by omega)⟩
        have e1 := HG6.out.cell (hy j x hxj) (fun h => h)
        have e2 := HG6.out.cell (hy (j + 1) y hyj) (fun h => h)
        have hT : pairsS (b.take (j + 2)) = pairsS (b.take j) ++ [256 * (x.toNat : Int) + (y.toNat : Int)] := by
          obtain ⟨m, rfl⟩ : ∃ m, j = 2 * m := ⟨j / 2, by omega⟩
          have := pairs_take hxj hyj
          rw [show 2 * (m + 1) = 2 * m + 2 from by omega] at this
          rw [this]
          congr 2
          omega
        have hx1 := x.toNat_lt
        have hx2 := y.toNat_lt
        generalize x.toNat = xx at *
        generalize y.toNat = yy at *
        have w1 : wrap64 (xx : Int) = (xx : Int) := by unfold wrap64; omega
        have w2 : wrap64 (yy : Int) = (yy : Int) := by unfold wrap64; omega
        have HT := Lib.hid hT
        have r1 : (0 : Int) ≤ (j : Int) := by omega
        have r2 : (j : Int) < (b.length : Int) := by omega
        have r3 : (j : Int) + 1 < (b.length : Int) := by omega
        have r4 : (0 : Int) ≤ (j : Int) + 1 := by omega
        have r5 : ((j : Int) + 1).toNat = j + 1 := by omega
        have v1 : IntKind.i64.wrap ((j : Int) + 1) = (j : Int) + 1 := by rw [IntKind.wrap_i64]; omega
        have v2 : IntKind.i64.wrap (256 * (xx : Int)) = 256 * (xx : Int) := by rw [IntKind.wrap_i64]; omega
        have v3 : IntKind.i64.wrap (256 * (xx : Int) + (yy : Int)) = 256 * (xx : Int) + (yy : Int) := by rw [IntKind.wrap_i64]; omega
        have v4 : IntKind.i64.wrap (xx : Int) = (xx : Int) := by rw [IntKind.wrap_i64]; omega
        have v5 : IntKind.i64.wrap (yy : Int) = (yy : Int) := by rw [IntKind.wrap_i64]; omega
        have hb0 : z + 1 ≤ wr.heap.size := B.lt
        have hvb := (Vals.of_own HO6.out).2
        obtain ⟨a7, c7, w7, hr7, ho7, F7, -⟩ := add_int HO6.out hb0 (by omega) (256 * (xx : Int) + (yy : Int)) wr.heap.size (((Fr.refl (S := fun _ => False) wr).drew).alloc (.cells #[.int .i64 (256 * (xx : Int) + (yy : Int))] 3)) (Blk.new wr.drew 3 #[.int .i64 (256 * (xx : Int) + (yy : Int))])
        have G7 := HG6.out.trans' F7 (fun i hi e => absurd hi (by have := hvb i e; have := HZ.out; omega))
        have B7 := B.fr F7 (fun e => by have := hvb z e; omega)
        rw [← HT.out] at ho7
        have HO7 := Lib.hid ho7
        have HG7 := Lib.hid G7
        have HB7 := Lib.hid B7
        have HRUN := Lib.hid hr7
        clear ho7 G7 B7 hr7 F7 hvb hT hxj hyj hy B
        go_wp2_with fail
        go_region_law (first | (refine step_append_run (by rfl) (.tmp 35) (.tmp 51) 22 (by rfl) _ w7 (by exact HRUN.out) ?_) | fail)
        all_goals
          go_wp2_with fail
          go_roundg (b.length - (j + 2))
          case measure => rw [HG.out]; omega
          case rel => exact ⟨j + 2, a7, N6 + 1, c7, rfl, by omega, by omega, rfl, by go_num, HO7.out, HG7.out, HB7.out, by omega⟩
      · obtain rfl : j = b.length := by omega
        rw [List.take_length] at HO6
        have r2 : ¬ (b.length : Int) < (b.length : Int) := by omega
        obtain ⟨L, hL⟩ : ∃ L, L = signsS 30 b := ⟨_, rfl⟩
        have hsig : sigR 30 b = if L.all (mayS 30) = true then some L else none := by rw [hL]; unfold sigR; rw [if_pos HKK.out, if_neg (by decide), if_neg (fun h => hodd h.2)]
        have hoL := HO6.out
        rw [← HP.out, ← hL] at hoL
        have h2N := hN6
        clear hL hN6
        have hN6 : N6 = L.length := by have := hoL.1; rw [intCells_len] at this; omega
        subst hN6
        have hv6 := (Vals.of_own hoL).1
        obtain ⟨a', cap', he, -, -, hz6⟩ := Ints.form hv6
        simp only [Value.slice.injEq, true_and] at he
        obtain ⟨rfl, rfl⟩ := he
        have HSIG := Lib.hid hsig
        have HV6 := Lib.hid hv6
        have HZ6 := Lib.hid hz6
        have HBK := Lib.hid B
        clear hsig hv6 hz6 hoL HX HG HO6 HB
        go_wp2_with fail
        obtain ⟨wo, hwo⟩ : ∃ wo : World, wo = wr := ⟨_, rfl⟩
        obtain rfl := hwo
        go_loopg [7] L.length (fun g q wi => ∃ k1 : Nat, g = L.length - k1 ∧ k1 ≤ L.length ∧ q = .int .i64 k1 ∧ (L.take k1).all (mayS 30) = true ∧ Fr (fun _ => False) wo wi)
        case atStart => exact ⟨0, rfl, Nat.zero_le _, rfl, rfl, Fr.refl _⟩
        case round =>
          obtain ⟨k1, hg, hk1, rfl, hall, F8⟩ := hrel
          have HG2 := Lib.hid hg
          have HALL := Lib.hid hall
          have B8 := HBK.out.fr F8 (fun h => h)
          have HF8 := Lib.hid F8
          have t0 := B8.cell 0
          have t1 := B8.cell 1
          simp only [List.getElem?_toArray, List.getElem?_cons_succ, List.getElem?_cons_zero] at t0 t1
          clear hg hall
          by_cases hkl : k1 < L.length
          · obtain ⟨b8, o8, rfl, hy8⟩ := HZ6.out (by omega)
            obtain ⟨n, hn⟩ : ∃ n, L[k1]? = some n := ⟨_, List.getElem?_eq_getElem hkl⟩
            have en := F8.cell (hy8 k1 n hn) (fun h => h)
            have hat : (L.take (k1 + 1)).all (mayS 30) = ((L.take k1).all (mayS 30) && mayS 30 n) := by
              rw [List.take_add_one, hn]
              simp
            have hno : mayS 30 n = false → L.all (mayS 30) = false := fun h => by
              rw [List.all_eq_false]
              exact ⟨n, List.mem_of_getElem? hn, by simp [h]⟩
            have HAT := Lib.hid hat
            have HNO := Lib.hid hno
            have r1 : (0 : Int) ≤ (k1 : Int) := by omega
            have r2 : (k1 : Int) < (L.length : Int) := by omega
            clear hy8 hn hat hno F8
            rcases Bool.eq_false_or_eq_true (mayS 30 n) with hm | hm
            · have hC : ∀ w, Calls Tryz.prog 49 #[.int .i64 30, .int .i64 n] w fun e w' => e = .returned (.bool true) ∧ w' = w := fun w => (r06May_any 30 n w).mono (by rintro e w' ⟨rfl, rfl⟩; exact ⟨by rw [hm], rfl⟩)
              have HC := Lib.hid hC
              have HM := Lib.hid hm
              clear hm hC
              go_wp2_with fail
              go_quiet ((go_at_call 49; exact Calls.quiet_of_same (HC.out _)))
              go_wp2_with fail
              go_roundg (L.length - (k1 + 1))
              case measure => rw [HG2.out]; omega
              case rel => exact ⟨k1 + 1, rfl, by omega, by go_num, by rw [HAT.out, HALL.out, HM.out]; rfl, HF8.out.drewN _⟩
            · have hC : ∀ w, Calls Tryz.prog 49 #[.int .i64 30, .int .i64 n] w fun e w' => e = .returned (.bool false) ∧ w' = w := fun w => (r06May_any 30 n w).mono (by rintro e w' ⟨rfl, rfl⟩; exact ⟨by rw [hm], rfl⟩)
              have HC := Lib.hid hC
              have hnone : sigR 30 b = none := by rw [HSIG.out, if_neg]; intro h; rw [HNO.out hm] at h; exact absurd h (by decide)
              have HNONE := Lib.hid hnone
              clear hm hnone hC
              go_wp2_with fail
              go_quiet ((go_at_call 49; exact Calls.quiet_of_same (HC.out _)))
              go_wp2_with fail
              exact bodyPost_ret (v := .tuple #[.slice none 0 0, .bool false]) (by simp [results, Tryz.results9, go_sem]) rfl (sigOut_no HNONE.out ((HG6.out.trans HF8.out).drewN _))
          · have r2 : ¬ (k1 : Int) < (L.length : Int) := by omega
            have hsome : sigR 30 b = some L := by
              have := HALL.out
              rw [List.take_of_length_le (by omega)] at this
              rw [HSIG.out, if_pos this]
            have HSOME := Lib.hid hsome
            have hvv : Ints wr (.slice a6 L.length c6) L := HV6.out.old F8
            have HVV := Lib.hid hvv
            clear hsome hvv F8
            go_wp2_with fail
            exact bodyPost_ret (v := .tuple #[.slice a6 L.length c6, .bool true]) (by simp [results, Tryz.results9, go_sem]) rfl ⟨_, by rw [HSOME.out]; rfl, by rw [HSOME.out]; exact HVV.out, HG6.out.trans HF8.out⟩
end Go.Proofs.YtgffhiopbnkjbaaGreatDoor

namespace Go.Proofs.YtgffhiopbnkjbaaGreatDoor
open Go Go.RowKit Go.Q
set_option maxRecDepth 20000 in
set_option maxHeartbeats 4000000 in
theorem r06Signs_one (k : Int) (hk : Go.Q.kindOk k = true) (h12 : k ≠ 12) (h30 : k ≠ 30) (v : Value) (b : List UInt8) (w : World) (h : Bytes w v b) (hlim : b.length ≤ 16777216) :
    Calls Tryz.prog 9 #[.agg #[.int .i64 k, v]] w fun e w' => RSigOut w w' k b e := by
  obtain ⟨a, cap, rfl, -, -, hx⟩ := h.form
  have HB := Lib.hid h
  have HX := Lib.hid hx
  obtain ⟨z, hz⟩ : ∃ z, z = w.heap.size := ⟨_, rfl⟩
  have B := Blk.new w 25 #[.int .i64 k, .slice a b.length cap]
  have F0 : Fr (fun _ => False) w (w.alloc (.cells #[.int .i64 k, .slice a b.length cap] 25)) := (Fr.refl w).alloc _
  rw [← hz] at B
  have HZ := Lib.hid hz
  have HF0 := Lib.hid F0
  clear h hx hz F0
  go_enter Tryz.func9, Tryz.ntmps9
  go_upto_region 1 with fail
  rw [← HZ.out]
  generalize (w.alloc (.cells #[.int .i64 k, .slice a b.length cap] 25)) = w0 at *
  have t0 := B.cell 0
  have t1 := B.cell 1
  simp only [List.getElem?_toArray, List.getElem?_cons_succ, List.getElem?_cons_zero] at t0 t1
  have HC := Lib.hid (r06Kind_any k)
  have p12 : (k == 12) = false := beq_eq_false_iff_ne.2 h12
  have HKK := Lib.hid hk
  have p30 : (k == 30) = false := beq_eq_false_iff_ne.2 h30
  have HB0 := Lib.hid B
  have hP : signsS k b = b.map (fun x => (x.toNat : Int)) := by unfold signsS; rw [if_neg h12, if_neg h30]
  have HP := Lib.hid hP
  clear hk hP
  go_wp2_with (first | (go_at_call 47; refine (HC.out _).mono ?_; rintro e w' ⟨rfl, rfl⟩; rw [HKK.out]))
  clear t0 t1
  go_loopg [4, 6] b.length (fun g l i wr => ∃ (j : Nat) (a6 : Option Addr) (c6 : Nat), g = b.length - j ∧ j ≤ b.length ∧ l = .slice a6 j c6 ∧ i = .int .i64 j ∧ wr.ownsRow (z + 1) 3 1 (.slice a6 j c6) j (intCells ((b.take j).map (fun x => (x.toNat : Int)))) ∧ Fr (fun _ => False) w wr ∧ Blk wr z 25 #[.int .i64 k, .slice a b.length cap])
  case atStart => exact ⟨0, none, 0, rfl, Nat.zero_le _, rfl, rfl, ⟨rfl, .inl ⟨rfl, rfl⟩⟩, HF0.out, HB0.out⟩
  case round =>
    obtain ⟨j, a6, c6, hg, hj, rfl, rfl, ho6, G6, B⟩ := hrel
    have HG := Lib.hid hg
    have HO6 := Lib.hid ho6
    have HG6 := Lib.hid G6
    have t0 := B.cell 0
    have t1 := B.cell 1
    simp only [List.getElem?_toArray, List.getElem?_cons_succ, List.getElem?_cons_zero] at t0 t1
    clear hg ho6 G6
    by_cases hjl : j < b.length
    · obtain ⟨bb, oo, rfl, hy⟩ := HX.out (by omega)
      obtain ⟨x, hxj⟩ : ∃ x, b[j]? = some x := ⟨_, List.getElem?_eq_getElem hjl⟩
      have e1 := HG6.out.cell (hy j x hxj) (fun h => h)
      have hT : (b.take (j + 1)).map (fun x => (x.toNat : Int)) = (b.take j).map (fun x => (x.toNat : Int)) ++ [(x.toNat : Int)] := by
        rw [List.take_add_one, hxj]
        simp
      have hx1 := x.toNat_lt
      generalize x.toNat = xx at *
      have w1 : wrap64 (xx : Int) = (xx : Int) := by unfold wrap64; omega
      have HT := Lib.hid hT
      have r1 : (0 : Int) ≤ (j : Int) := by omega
      have r2 : (j : Int) < (b.length : Int) := by omega
      have hb0 : z + 1 ≤ wr.heap.size := B.lt
      have hvb := (Vals.of_own HO6.out).2
      obtain ⟨a7, c7, w7, hr7, ho7, F7, -⟩ := add_int HO6.out hb0 (by omega) (xx : Int) wr.heap.size ((Fr.refl (S := fun _ => False) wr).alloc (.cells #[.int .i64 (xx : Int)] 3)) (Blk.new wr 3 #[.int .i64 (xx : Int)])
      have G7 := HG6.out.trans' F7 (fun i hi e => absurd hi (by have := hvb i e; have := HZ.out; omega))
      have B7 := B.fr F7 (fun e => by have := hvb z e; omega)
      rw [← HT.out] at ho7
      have HO7 := Lib.hid ho7
      have HG7 := Lib.hid G7
      have HB7 := Lib.hid B7
      have HRUN := Lib.hid hr7
      clear ho7 G7 B7 hr7 F7 hvb hT hxj hy B
      go_wp2_with (at_builtin; refine wpList_append_run (by rfl) (.tmp 60) (.tmp 67) 22 (by rfl) _ w7 (by exact HRUN.out) ?_)
      go_roundg (b.length - (j + 1))
      case measure => rw [HG.out]; omega
      case rel => exact ⟨j + 1, a7, c7, rfl, by omega, rfl, by go_num, HO7.out, HG7.out, HB7.out⟩
    · obtain rfl : j = b.length := by omega
      have r2 : ¬ (b.length : Int) < (b.length : Int) := by omega
      obtain ⟨L, hL⟩ : ∃ L, L = signsS k b := ⟨_, rfl⟩
      have hsig : sigR k b = if L.all (mayS k) = true then some L else none := by rw [hL]; unfold sigR; rw [if_pos HKK.out, if_neg h12, if_neg (fun h => h30 h.1)]
      have hoL := HO6.out
      rw [List.take_length, ← HP.out, ← hL] at hoL
      obtain ⟨N6, hNN⟩ : ∃ N6, N6 = b.length := ⟨_, rfl⟩
      have hoL2 : wr.ownsRow (z + 1) 3 1 (.slice a6 N6 c6) N6 (intCells L) := by rw [hNN]; exact hoL
      have hNL : b.length = L.length := by have := hoL.1; rw [intCells_len] at this; omega
      have HBB := Lib.hid hNL
      clear hL hNN hoL
      rw [hNL] at r2 ⊢
      replace hoL := hoL2
      clear hoL2
      have hN6 : N6 = L.length := by have := hoL.1; rw [intCells_len] at this; omega
      subst hN6
      have hv6 := (Vals.of_own hoL).1
      obtain ⟨a', cap', he, -, -, hz6⟩ := Ints.form hv6
      simp only [Value.slice.injEq, true_and] at he
      obtain ⟨rfl, rfl⟩ := he
      have HSIG := Lib.hid hsig
      have HV6 := Lib.hid hv6
      have HZ6 := Lib.hid hz6
      have HBK := Lib.hid B
      clear hsig hv6 hz6 hoL HX HG HO6 HB
      go_wp2_with fail
      obtain ⟨wo, hwo⟩ : ∃ wo : World, wo = wr := ⟨_, rfl⟩
      obtain rfl := hwo
      go_loopg [7] L.length (fun g q wi => ∃ k1 : Nat, g = L.length - k1 ∧ k1 ≤ L.length ∧ q = .int .i64 k1 ∧ (L.take k1).all (mayS k) = true ∧ Fr (fun _ => False) wo wi)
      case atStart => exact ⟨0, rfl, Nat.zero_le _, rfl, rfl, Fr.refl _⟩
      case round =>
        obtain ⟨k1, hg, hk1, rfl, hall, F8⟩ := hrel
        have HG2 := Lib.hid hg
        have HALL := Lib.hid hall
        have B8 := HBK.out.fr F8 (fun h => h)
        have HF8 := Lib.hid F8
        have t0 := B8.cell 0
        have t1 := B8.cell 1
        simp only [List.getElem?_toArray, List.getElem?_cons_succ, List.getElem?_cons_zero] at t0 t1
        clear hg hall
        by_cases hkl : k1 < L.length
        · obtain ⟨b8, o8, rfl, hy8⟩ := HZ6.out (by omega)
          obtain ⟨n, hn⟩ : ∃ n, L[k1]? = some n := ⟨_, List.getElem?_eq_getElem hkl⟩
          have en := F8.cell (hy8 k1 n hn) (fun h => h)
          have hat : (L.take (k1 + 1)).all (mayS k) = ((L.take k1).all (mayS k) && mayS k n) := by
            rw [List.take_add_one, hn]
            simp
          have hno : mayS k n = false → L.all (mayS k) = false := fun h => by
            rw [List.all_eq_false]
            exact ⟨n, List.mem_of_getElem? hn, by simp [h]⟩
          have HAT := Lib.hid hat
          have HNO := Lib.hid hno
          have r1 : (0 : Int) ≤ (k1 : Int) := by omega
          have r2 : (k1 : Int) < (L.length : Int) := by omega
          clear hy8 hn hat hno F8
          rcases Bool.eq_false_or_eq_true (mayS k n) with hm | hm
          · have hC : ∀ w, Calls Tryz.prog 49 #[.int .i64 k, .int .i64 n] w fun e w' => e = .returned (.bool true) ∧ w' = w := fun w => (r06May_any k n w).mono (by rintro e w' ⟨rfl, rfl⟩; exact ⟨by rw [hm], rfl⟩)
            have HC := Lib.hid hC
            have HM := Lib.hid hm
            clear hm hC
            go_wp2_with fail
            go_quiet ((go_at_call 49; exact Calls.quiet_of_same (HC.out _)))
            go_wp2_with fail
            go_roundg (L.length - (k1 + 1))
            case measure => rw [HG2.out]; omega
            case rel => exact ⟨k1 + 1, rfl, by omega, by go_num, by rw [HAT.out, HALL.out, HM.out]; rfl, HF8.out.drewN _⟩
          · have hC : ∀ w, Calls Tryz.prog 49 #[.int .i64 k, .int .i64 n] w fun e w' => e = .returned (.bool false) ∧ w' = w := fun w => (r06May_any k n w).mono (by rintro e w' ⟨rfl, rfl⟩; exact ⟨by rw [hm], rfl⟩)
            have HC := Lib.hid hC
            have hnone : sigR k b = none := by rw [HSIG.out, if_neg]; intro h; rw [HNO.out hm] at h; exact absurd h (by decide)
            have HNONE := Lib.hid hnone
            clear hm hnone hC
            go_wp2_with fail
            go_quiet ((go_at_call 49; exact Calls.quiet_of_same (HC.out _)))
            go_wp2_with fail
            exact bodyPost_ret (v := .tuple #[.slice none 0 0, .bool false]) (by simp [results, Tryz.results9, go_sem]) rfl (sigOut_no HNONE.out ((HG6.out.trans HF8.out).drewN _))
        · have r2 : ¬ (k1 : Int) < (L.length : Int) := by omega
          have hsome : sigR k b = some L := by
            have := HALL.out
            rw [List.take_of_length_le (by omega)] at this
            rw [HSIG.out, if_pos this]
          have HSOME := Lib.hid hsome
          have hvv : Ints wr (.slice a6 L.length c6) L := HV6.out.old F8
          have HVV := Lib.hid hvv
          clear hsome hvv F8
          go_wp2_with fail
          exact bodyPost_ret (v := .tuple #[.slice a6 L.length c6, .bool true]) (by simp [results, Tryz.results9, go_sem]) rfl ⟨_, by rw [HSOME.out]; rfl, by rw [HSOME.out]; exact HVV.out, HG6.out.trans HF8.out⟩
end Go.Proofs.YtgffhiopbnkjbaaGreatDoor

namespace Go.Proofs.YtgffhiopbnkjbaaGreatDoor
open Go Go.RowKit Go.Q
theorem r06Signs_any (k : Int) (v : Value) (b : List UInt8) (w : World) (h : Bytes w v b) (hlim : b.length ≤ 16777216) :
    Calls Tryz.prog 9 #[.agg #[.int .i64 k, v]] w fun e w' => RSigOut w w' k b e := by
  rcases Bool.eq_false_or_eq_true (Go.Q.kindOk k) with hk | hk
  · by_cases h12 : k = 12
    · subst h12
      exact r06Signs_12 v b w h hlim
    · by_cases h30 : k = 30
      · subst h30
        exact r06Signs_30 v b w h hlim
      · exact r06Signs_one k hk h12 h30 v b w h hlim
  · exact r06Signs_none k hk v b w h hlim
end Go.Proofs.YtgffhiopbnkjbaaGreatDoor

namespace Go.Q
open Go Go.RowKit
theorem decN_cases {n b0 b1 b2 b3 v m : Nat} (h : Lib.decodeN n b0 b1 b2 b3 = (v, m)) (hs : ¬ (v = 65533 ∧ m ≤ 1)) (h0 : b0 < 256) (h1 : b1 < 256) (_ : b2 < 256) (_ : b3 < 256) :
    (m = 1 ∧ v = b0 ∧ v < 128) ∨ (m = 2 ∧ 1 < n ∧ 128 ≤ v ∧ v < 2048 ∧ b0 = 192 + v / 64 ∧ b1 = 128 + v % 64) ∨
    (m = 3 ∧ 2 < n ∧ 2048 ≤ v ∧ v < 65536 ∧ ¬ (55296 ≤ v ∧ v ≤ 57343) ∧ b0 = 224 + v / 4096 ∧ b1 = 128 + v / 64 % 64 ∧ b2 = 128 + v % 64) ∨
    (m = 4 ∧ 3 < n ∧ 65536 ≤ v ∧ v ≤ 1114111 ∧ b0 = 240 + v / 262144 ∧ b1 = 128 + v / 4096 % 64 ∧ b2 = 128 + v / 64 % 64 ∧ b3 = 128 + v % 64) := by
  unfold Lib.decodeN at h
  split at h
  · simp only [Prod.mk.injEq] at h
    exact .inl ⟨by omega, by omega, by omega⟩
  split at h
  · split at h
    · simp only [Prod.mk.injEq] at h
      exact .inr (.inl ⟨by omega, by omega, by omega, by omega, by omega, by omega⟩)
    · simp only [Prod.mk.injEq] at h
      exact absurd ⟨h.1.symm, by omega⟩ hs
  split at h
  · split at h
    · simp only [Prod.mk.injEq] at h
      exact .inr (.inr (.inl ⟨by omega, by omega, by omega, by omega, by omega, by omega, by omega, by omega⟩))
    · simp only [Prod.mk.injEq] at h
      exact absurd ⟨h.1.symm, by omega⟩ hs
  split at h
  · split at h
    · simp only [Prod.mk.injEq] at h
      exact .inr (.inr (.inr ⟨by omega, by omega, by omega, by omega, by omega, by omega, by omega, by omega⟩))
    · simp only [Prod.mk.injEq] at h
      exact absurd ⟨h.1.symm, by omega⟩ hs
  · simp only [Prod.mk.injEq] at h
    exact absurd ⟨h.1.symm, by omega⟩ hs
theorem u8_of {x : UInt8} {n : Nat} (h : x.toNat = n) : x = UInt8.ofNat n := by
  subst h
  exact (UInt8.ofNat_toNat).symm
/-- What is decoded was encoded. -/
theorem dec_strict {l : List UInt8} (hl : l ≠ []) (hs : ¬ ((decS l).1 = 65533 ∧ (decS l).2 ≤ 1)) : ∃ n rest, okSign n ∧ l = enc n ++ rest ∧ (decS l).1 = n ∧ (decS l).2 = (enc n).length := by
  obtain ⟨v, m, hvm⟩ : ∃ v m, decS l = (v, m) := ⟨_, _, rfl⟩
  have g : ∀ x : UInt8, x.toNat < 256 := fun x => x.toNat_lt
  have hc := decN_cases (by exact hvm) (by rw [hvm] at hs; exact hs) (g _) (g _) (g _) (g _)
  rw [hvm]
  rcases hc with ⟨rfl, h1, h2⟩ | ⟨rfl, h1, h2, h3, h4, h5⟩ | ⟨rfl, h1, h2, h3, h4, h5, h6, h7⟩ | ⟨rfl, h1, h2, h3, h4, h5, h6, h7⟩
  · have he : enc v = [UInt8.ofNat v] := by unfold enc; rw [if_pos h2]
    match l, hl with
    | x :: t, _ =>
      simp only [List.getD_cons_zero] at h1
      exact ⟨v, t, ⟨by omega, by omega⟩, by rw [he, u8_of h1.symm]; rfl, rfl, by rw [he]; rfl⟩
  · have he : enc v = [UInt8.ofNat (192 + v / 64), UInt8.ofNat (128 + v % 64)] := by unfold enc; rw [if_neg (by omega), if_pos h3]
    match l, h1 with
    | x :: y :: t, _ =>
      simp only [List.getD_cons_zero, List.getD_cons_succ] at h4 h5
      exact ⟨v, t, ⟨by omega, by omega⟩, by rw [he, u8_of h4, u8_of h5]; rfl, rfl, by rw [he]; rfl⟩
  · have he : enc v = [UInt8.ofNat (224 + v / 4096), UInt8.ofNat (128 + v / 64 % 64), UInt8.ofNat (128 + v % 64)] := by unfold enc; rw [if_neg (by omega), if_neg (by omega), if_pos h3]
    match l, h1 with
    | x :: y :: z :: t, _ =>
      simp only [List.getD_cons_zero, List.getD_cons_succ] at h5 h6 h7
      exact ⟨v, t, ⟨by omega, h4⟩, by rw [he, u8_of h5, u8_of h6, u8_of h7]; rfl, rfl, by rw [he]; rfl⟩
  · have he : enc v = [UInt8.ofNat (240 + v / 262144), UInt8.ofNat (128 + v / 4096 % 64), UInt8.ofNat (128 + v / 64 % 64), UInt8.ofNat (128 + v % 64)] := by unfold enc; rw [if_neg (by omega), if_neg (by omega), if_neg (by omega)]
    match l, h1 with
    | x :: y :: z :: u :: t, _ =>
      simp only [List.getD_cons_zero, List.getD_cons_succ] at h4 h5 h6 h7
      exact ⟨v, t, ⟨by omega, by omega⟩, by rw [he, u8_of h4, u8_of h5, u8_of h6, u8_of h7]; rfl, rfl, by rw [he]; rfl⟩
/-- What is encoded is read by the reference. -/
theorem loose_enc {n : Nat} (h : okSign n) (rest : List UInt8) : looseL (enc n ++ rest) = (looseL rest).map (n :: ·) := by
  obtain ⟨h1, h2⟩ := h
  have key : ∀ (x : UInt8) (t : List UInt8) (n0 more : Nat), looseHead x.toNat = (n0, more) → t.length = more → looseAcc n0 t = n → enc n = x :: t → looseL (enc n ++ rest) = (looseL rest).map (n :: ·) := by
    intro x t n0 more hh ht ha he
    rw [he, List.cons_append, looseL_cons hh, ← ht, List.take_left, List.drop_left, ha, if_neg (by omega)]
  by_cases c1 : n < 128
  · have e1 := u8 n (by omega)
    exact key (UInt8.ofNat n) [] n 0 (by rw [e1]; unfold looseHead; rw [if_neg (by omega), if_neg (by omega), if_neg (by omega)]) rfl rfl (by unfold enc; rw [if_pos c1])
  by_cases c2 : n < 2048
  · have e1 := u8 (192 + n / 64) (by omega)
    have e2 := u8 (128 + n % 64) (by omega)
    exact key _ [UInt8.ofNat (128 + n % 64)] (n / 64) 1 (by rw [e1]; unfold looseHead; rw [if_neg (by omega), if_neg (by omega), if_pos (by omega)]; simp) rfl (by simp only [looseAcc, List.foldl_cons, List.foldl_nil, e2]; omega) (by unfold enc; rw [if_neg c1, if_pos c2])
  by_cases c3 : n < 65536
  · have e1 := u8 (224 + n / 4096) (by omega)
    have e2 := u8 (128 + n / 64 % 64) (by omega)
    have e3 := u8 (128 + n % 64) (by omega)
    exact key _ [UInt8.ofNat (128 + n / 64 % 64), UInt8.ofNat (128 + n % 64)] (n / 4096) 2 (by rw [e1]; unfold looseHead; rw [if_neg (by omega), if_pos (by omega)]; simp) rfl (by simp only [looseAcc, List.foldl_cons, List.foldl_nil, e2, e3]; omega) (by unfold enc; rw [if_neg c1, if_neg c2, if_pos c3])
  · have e1 := u8 (240 + n / 262144) (by omega)
    have e2 := u8 (128 + n / 4096 % 64) (by omega)
    have e3 := u8 (128 + n / 64 % 64) (by omega)
    have e4 := u8 (128 + n % 64) (by omega)
    exact key _ [UInt8.ofNat (128 + n / 4096 % 64), UInt8.ofNat (128 + n / 64 % 64), UInt8.ofNat (128 + n % 64)] (n / 262144) 3 (by rw [e1]; unfold looseHead; rw [if_pos (by omega)]; simp) rfl (by simp only [looseAcc, List.foldl_cons, List.foldl_nil, e2, e3, e4]; omega) (by unfold enc; rw [if_neg c1, if_neg c2, if_neg c3])
theorem loose_all : ∀ ns : List Nat, (∀ n ∈ ns, okSign n) → looseL (encAll ns) = some ns
  | [], _ => rfl
  | n :: t, h => by
    have e : encAll (n :: t) = enc n ++ encAll t := by simp [encAll]
    rw [e, loose_enc (h n (by simp)), loose_all t (fun m hm => h m (by simp [hm]))]
    rfl
theorem wide_strict : ∀ (f : Nat) (b : List UInt8), b.length ≤ f → (wideS f b).all (mayS 12) = true → ∃ ns : List Nat, (∀ n ∈ ns, okSign n) ∧ b = encAll ns ∧ wideS f b = natInts ns
  | f, [], _, _ => ⟨[], fun n hn => absurd hn List.not_mem_nil, rfl, by cases f <;> rfl⟩
  | 0, x :: t, h, _ => by simp at h
  | f + 1, x :: t, h, ha => by
    simp only [wideS, List.all_cons, Bool.and_eq_true] at ha
    obtain ⟨h1, h2⟩ := ha
    have hs : ¬ ((decS (x :: t)).1 = 65533 ∧ (decS (x :: t)).2 ≤ 1) := fun hc => by
      rw [if_pos hc] at h1
      simp [mayS] at h1
    obtain ⟨n, rest, hn, he, hd1, hd2⟩ := dec_strict (List.cons_ne_nil x t) hs
    have hp := enc_pos n
    have hlen : (enc n).length + rest.length = t.length + 1 := by
      have := congrArg List.length he
      simpa [List.length_append] using this.symm
    have hdrop : (x :: t).drop (decS (x :: t)).2 = rest := by rw [hd2, he, List.drop_left]
    rw [hdrop] at h2
    obtain ⟨ns, g1, g2, g3⟩ := wide_strict f rest (by simp at h; omega) h2
    refine ⟨n :: ns, fun m hm => ?_, ?_, ?_⟩
    · rcases List.mem_cons.1 hm with rfl | hm
      · exact hn
      · exact g1 m hm
    · rw [he, g2]; simp [encAll]
    · simp only [wideS]
      rw [if_neg hs, hdrop, hd1, g3]
      rfl
/-- What is right is read. -/
theorem sigR_right {k : Int} {b : List UInt8} (h : rightS k b = true) : sigR k b = some (signsS k b) := by
  have hr := h
  unfold rightS at h
  rw [Bool.and_eq_true] at h
  obtain ⟨hk, ha⟩ := h
  unfold sigR
  rw [if_pos hk]
  by_cases h12 : k = 12
  · subst h12
    rw [if_pos rfl]
    have ha2 : (wideS b.length b).all (mayS 12) = true := ha
    obtain ⟨ns, g1, g2, g3⟩ := wide_strict b.length b (Nat.le_refl _) ha2
    have hs : signsS 12 b = natInts ns := g3
    have hw : wideR b = some ns := by
      rw [wideR_some (ns := ns) (by rw [g2]; exact loose_all ns g1), if_pos ⟨by rw [← hs]; exact ha, g2.symm⟩]
    rw [hw, hs]
    rfl
  · rw [if_neg h12]
    by_cases h30 : k = 30 ∧ b.length % 2 = 1
    · exfalso
      obtain ⟨rfl, ho⟩ := h30
      have : ∀ l : List UInt8, l.length % 2 = 1 → (-1 : Int) ∈ pairsS l := by
        intro l
        induction hn : l.length using Nat.strongRecOn generalizing l with
        | _ n ih =>
          intro hl
          match l, hl with
          | [x], _ => simp [pairsS]
          | x :: y :: t, hl =>
            simp only [pairsS, List.mem_cons]
            have hl2 : n % 2 = 1 := hl
            have hn2 : t.length + 1 + 1 = n := hn
            exact .inr (ih t.length (by omega) t rfl (by omega))
      have hm := this b ho
      have hs : signsS 30 b = pairsS b := rfl
      rw [hs] at ha
      have := List.all_eq_true.1 ha _ hm
      exact absurd this (by decide)
    · rw [if_neg h30, if_pos ha]
theorem sigR_iff (k : Int) (b : List UInt8) : sigR k b = if rightS k b = true then some (signsS k b) else none := by
  by_cases h : rightS k b = true
  · rw [if_pos h, sigR_right h]
  · rw [if_neg h]
    cases hs : sigR k b with
    | none => rfl
    | some l => exact absurd (sigR_ok hs).1 h
end Go.Q

namespace Go.Proofs.YtgffhiopbnkjbaaGreatDoor
open Go Go.RowKit Go.Q
set_option linter.unusedSimpArgs false

/-- What ReadTag gives. -/
def rTagV (p : Nat) : Except Int (Tag × Nat) → Value
  | .error e => .tuple #[tagV ⟨0, 0, false⟩, .int .i64 p, .int .i64 e]
  | .ok (t, k) => .tuple #[tagV t, .int .i64 ((p + k : Nat) : Int), .int .i64 0]
theorem numS_next {i n : Nat} {l : List UInt8} {x : UInt8} {t : List UInt8} (h : l = x :: t) : numS i n l = if (i = 0 ∧ x.toNat = 128) ∨ i = 3 then .error 4 else if x.toNat < 128 then (if n * 128 + x.toNat % 128 < 31 then .error 4 else .ok (n * 128 + x.toNat % 128, i + 1)) else numS (i + 1) (n * 128 + x.toNat % 128) t := by
  rw [h]
  simp only [numS]
theorem drop_get {α : Type} {l : List α} {j : Nat} {x : α} (hx : l[j]? = some x) : l.drop j = x :: l.drop (j + 1) := by
  obtain ⟨h, rfl⟩ := List.getElem?_eq_some_iff.1 hx
  exact List.drop_eq_getElem_cons h

set_option maxRecDepth 20000 in
set_option maxHeartbeats 2000000 in
theorem r02ReadTag_any (v : Value) (l : List UInt8) (p : Nat) (w : World) (h : Bytes w v l) (hp : p ≤ l.length) (hlm : l.length ≤ 1099511627776) :
    Calls Tryz.prog 102 #[v, .int .i64 p] w fun e w' => e = .returned (rTagV p (readTagS (l.drop p))) ∧ Fr (fun _ => False) w w' := by
  obtain ⟨a, cap, rfl, -, -, hx⟩ := h.form
  obtain ⟨z, hz⟩ : ∃ z, z = w.heap.size := ⟨_, rfl⟩
  have BZ := Blk.new w 36 #[.int .i64 0, .int .i64 0, .bool false]
  have F0 : Fr (fun _ => False) w (w.alloc (.cells #[.int .i64 0, .int .i64 0, .bool false] 36)) := (Fr.refl w).alloc _
  rw [← hz] at BZ
  have hzw : ∀ k, k < w.heap.size → k = z → False := fun k hk e => by omega
  have HZ := Lib.hid hz
  have HX := Lib.hid hx
  have HF0 := Lib.hid F0
  have HZW := Lib.hid hzw
  clear h hx hz F0 hzw
  rcases Nat.lt_or_ge p l.length with hpl | hpl
  case inr =>
    obtain rfl : p = l.length := by omega
    have hn : readTagS (l.drop l.length) = .error 3 := by rw [List.drop_length]; rfl
    have HN := Lib.hid hn
    clear hn
    go_enter Tryz.func102, Tryz.ntmps102
    go_upto_region 1 with fail
    rw [← HZ.out]
    generalize (w.alloc (.cells #[.int .i64 0, .int .i64 0, .bool false] 36)) = w0 at *
    have SZ := BZ.cell
    have ZZ := BZ.frozen
    go_wp2_with fail
    obtain ⟨B5, F5⟩ := set3 BZ (.int .i64 0) (.int .i64 0) (.bool false)
    generalize (((w0.setCell ⟨z, 0, none⟩ (.int .i64 0)).setCell ⟨z, 1, none⟩ (.int .i64 0)).setCell ⟨z, 2, none⟩ (.bool false)) = w5 at *
    have n0 := B5.cell 0
    have n1 := B5.cell 1
    have n2 := B5.cell 2
    simp at n0 n1 n2
    refine bodyPost_ret (v := .tuple #[.agg #[.int .i64 0, .int .i64 0, .bool false], .int .i64 l.length, .int .i64 3]) (by simp [results, Tryz.results102, go_sem, n0, n1, n2]) rfl ?_
    exact ⟨by rw [HN.out]; rfl, HF0.out.trans' F5 HZW.out⟩

  case inl =>
    obtain ⟨b, o, rfl, hy⟩ := HX.out (by omega)
    obtain ⟨x, hxp⟩ : ∃ x, l[p]? = some x := ⟨_, List.getElem?_eq_getElem hpl⟩
    have ex := HF0.out.cell (hy p x hxp) (fun h => h)
    have hdp := drop_get hxp
    have hx256 := x.toNat_lt
    obtain ⟨y, hyy⟩ : ∃ y, y = x.toNat := ⟨_, rfl⟩
    rw [← hyy] at ex hx256
    have hT : readTagS (l.drop p) = if y % 32 < 31 then .ok (⟨y / 64, y % 32, decide (y / 32 % 2 = 1)⟩, 1) else
      match numS 0 0 (l.drop (p + 1)) with
      | .error e => .error e
      | .ok (n, k) => .ok (⟨y / 64, n, decide (y / 32 % 2 = 1)⟩, k + 1) := by rw [hdp, hyy]; rfl
    have HT := Lib.hid hT
    have HY := Lib.hid hy
    have HYY := Lib.hid hyy
    have r0 : (0 : Int) ≤ (p : Int) := by omega
    have r1 : (p : Int) < (l.length : Int) := by omega
    clear hy hyy hdp hT hxp
    go_enter Tryz.func102, Tryz.ntmps102
    go_upto_region 1 with fail
    rw [← HZ.out]
    generalize (w.alloc (.cells #[.int .i64 0, .int .i64 0, .bool false] 36)) = w0 at *
    go_upto_region 5 with fail
    obtain ⟨c1, hc1⟩ : ∃ c : Int, (y : Int) / 64 = c := ⟨_, rfl⟩
    obtain ⟨c2, hc2⟩ : ∃ c : Int, (y : Int) % 32 = c := ⟨_, rfl⟩
    obtain ⟨c3, hc3⟩ : ∃ c : Bool, ((y : Int) / 32 % 2 == 1) = c := ⟨_, rfl⟩
    have h3 : decide (y / 32 % 2 = 1) = c3 := by
      rw [← hc3, Bool.eq_iff_iff]
      simp
      omega
    rw [h3] at HT
    rw [hc1, hc2, hc3]
    rw [hc1] at HT
    rw [hc2] at HT
    obtain ⟨d, hd⟩ : ∃ d, d = w0.heap.size := ⟨_, rfl⟩
    have BD := Blk.new w0 36 #[.int .i64 c1, .int .i64 c2, .bool c3]
    have F1 : Fr (fun _ => False) w0 (w0.alloc (.cells #[.int .i64 c1, .int .i64 c2, .bool c3] 36)) := (Fr.refl w0).alloc _
    have hzl := BZ.lt
    replace BZ := BZ.fr F1 (fun h => h)
    have HF1 := Lib.hid (HF0.out.trans F1)
    rw [← hd] at BD ⊢
    have hdz : d ≠ z := by omega
    have hdw : ∀ k, k < w.heap.size → k = d → False := fun k hk e => by have := HF0.out.size; omega
    have HDW := Lib.hid hdw
    clear hd F1 hzl hdw h3 hc3 ex HF0
    generalize (w0.alloc (.cells #[.int .i64 c1, .int .i64 c2, .bool c3] 36)) = w1 at *
    have SD := BD.cell
    have SZ := BZ.cell
    have ZD := BD.frozen
    have ZZ := BZ.frozen
    by_cases h31 : y % 32 < 31
    · have q1 : c2 < 31 := by omega
      have hres : readTagS (l.drop p) = .ok (⟨c1, c2, c3⟩, 1) := by rw [HT.out, if_pos h31]
      have HR := Lib.hid hres
      clear hres
      go_wp2_with fail
      obtain ⟨B5, F5⟩ := set3 BZ (.int .i64 c1) (.int .i64 c2) (.bool c3)
      generalize (((w1.setCell ⟨z, 0, none⟩ (.int .i64 c1)).setCell ⟨z, 1, none⟩ (.int .i64 c2)).setCell ⟨z, 2, none⟩ (.bool c3)) = w5 at *
      have n0 := B5.cell 0
      have n1 := B5.cell 1
      have n2 := B5.cell 2
      simp at n0 n1 n2
      refine bodyPost_ret (v := .tuple #[.agg #[.int .i64 c1, .int .i64 c2, .bool c3], .int .i64 ((p : Int) + 1), .int .i64 0]) (by simp [results, Tryz.results102, go_sem, n0, n1, n2]) rfl ?_
      exact ⟨by rw [HR.out]; rfl, HF1.out.trans' F5 HZW.out⟩
    · have q1 : ¬ c2 < 31 := by omega
      have hres : readTagS (l.drop p) = match numS 0 0 (l.drop (p + 1)) with
          | .error e => .error e
          | .ok (n, k) => .ok (⟨c1, n, c3⟩, k + 1) := by rw [HT.out, if_neg h31]
      have HR := Lib.hid hres
      have HBZ := Lib.hid BZ
      have HBD := Lib.hid BD
      clear hres HT
      go_wp2_with fail
      clear SD SZ ZD ZZ BZ BD
      go_loopg [9, 10] 4 (fun g n i wr => ∃ (k m : Nat), g = 4 - k ∧ k ≤ 3 ∧ m < 128 ^ k ∧ n = .int .i64 m ∧ i = .int .i64 ((k : Int) + 1) ∧ numS 0 0 (l.drop (p + 1)) = numS k m (l.drop (p + 1 + k)) ∧ wr = w1)
      case atStart => exact ⟨0, 0, rfl, by omega, by simp, rfl, rfl, rfl, rfl⟩
      case round =>
        obtain ⟨k, m, hg, hk, hm, rfl, rfl, hN, rfl⟩ := hrel
        have HG := Lib.hid hg
        have HN := Lib.hid hN
        have HM := Lib.hid hm
        have BZ := HBZ.out
        have BD := HBD.out
        have SD := BD.cell
        have ZD := BD.frozen
        have SZ := BZ.cell
        have ZZ := BZ.frozen
        clear hg hN hm
        rcases Nat.lt_or_ge (p + 1 + k) l.length with hkl | hkl
        case inr =>
          have q2 : (l.length : Int) ≤ (p : Int) + ((k : Int) + 1) := by omega
          have hres : readTagS (l.drop p) = .error 3 := by
            have hdn : l.drop (p + 1 + k) = [] := List.drop_eq_nil_of_le hkl
            rw [HR.out, HN.out, hdn]
            rfl
          have HRES := Lib.hid hres
          clear hres
          go_wp2_with fail
          obtain ⟨B5, F5⟩ := set3 BZ (.int .i64 0) (.int .i64 0) (.bool false)
          generalize (((wr.setCell ⟨z, 0, none⟩ (.int .i64 0)).setCell ⟨z, 1, none⟩ (.int .i64 0)).setCell ⟨z, 2, none⟩ (.bool false)) = w5 at *
          have n0 := B5.cell 0
          have n1 := B5.cell 1
          have n2 := B5.cell 2
          simp at n0 n1 n2
          refine bodyPost_ret (v := .tuple #[.agg #[.int .i64 0, .int .i64 0, .bool false], .int .i64 p, .int .i64 3]) (by simp [results, Tryz.results102, go_sem, n0, n1, n2]) rfl ?_
          exact ⟨by rw [HRES.out]; rfl, HF1.out.trans' F5 HZW.out⟩
        case inl =>
          have q2 : ¬ (l.length : Int) ≤ (p : Int) + ((k : Int) + 1) := by omega
          obtain ⟨x2, hx2⟩ : ∃ x, l[p + 1 + k]? = some x := ⟨_, List.getElem?_eq_getElem hkl⟩
          have e2 := HF1.out.cell (HY.out (p + 1 + k) x2 hx2) (fun h => h)
          have hN2 := HN.out
          rw [numS_next (drop_get hx2)] at hN2
          obtain ⟨y2, hy2⟩ : ∃ y, y = x2.toNat := ⟨_, rfl⟩
          have hy256 : y2 < 256 := by rw [hy2]; exact x2.toNat_lt
          rw [← hy2] at e2 hN2
          rw [show o + (p + 1 + k) = o + (p + (k + 1)) from by omega] at e2
          have hin : ((p : Int) + ((k : Int) + 1)).toNat = p + (k + 1) := by omega
          have r2 : (0 : Int) ≤ (p : Int) + ((k : Int) + 1) := by omega
          have r3 : (p : Int) + ((k : Int) + 1) < (l.length : Int) := by omega
          have HN2 := Lib.hid hN2
          clear hN2 hx2 hy2 HN
          by_cases hb1 : (k = 0 ∧ y2 = 128) ∨ k = 3
          · have hres : readTagS (l.drop p) = .error 4 := by rw [HR.out, HN2.out, if_pos hb1]
            have HRES := Lib.hid hres
            clear hres HN2
            have hcond : ((((k : Int) + 1 == 1) = true ∧ ((y2 : Int) == 128) = true)) ∨ ((((k : Int) + 1 == 1) = false) ∧ ((k : Int) + 1 == 4) = true) := by
              rcases hb1 with ⟨h1, h2⟩ | h1
              · exact .inl ⟨by subst h1; rfl, by subst h2; rfl⟩
              · exact .inr ⟨by subst h1; rfl, by subst h1; rfl⟩
            rcases hcond with ⟨g1, g2⟩ | ⟨g1, g2⟩
            all_goals
              go_wp2_with fail
              obtain ⟨B5, F5⟩ := set3 BZ (.int .i64 0) (.int .i64 0) (.bool false)
              generalize (((wr.setCell ⟨z, 0, none⟩ (.int .i64 0)).setCell ⟨z, 1, none⟩ (.int .i64 0)).setCell ⟨z, 2, none⟩ (.bool false)) = w5 at *
              have n0 := B5.cell 0
              have n1 := B5.cell 1
              have n2 := B5.cell 2
              simp at n0 n1 n2
              refine bodyPost_ret (v := .tuple #[.agg #[.int .i64 0, .int .i64 0, .bool false], .int .i64 p, .int .i64 4]) (by simp [results, Tryz.results102, go_sem, n0, n1, n2]) rfl ?_
              exact ⟨by rw [HRES.out]; rfl, HF1.out.trans' F5 HZW.out⟩
          · have hk2 : k ≤ 2 := by omega
            have hm2 := num_small HM.out hk2
            have g4 : ((k : Int) + 1 == 4) = false := beq_eq_false_iff_ne.2 (by omega)
            have hcond : ((((k : Int) + 1 == 1) = true ∧ ((y2 : Int) == 128) = false)) ∨ (((k : Int) + 1 == 1) = false) := by
              rcases Nat.eq_zero_or_pos k with h1 | h1
              · exact .inl ⟨by subst h1; rfl, beq_eq_false_iff_ne.2 (by omega)⟩
              · exact .inr (beq_eq_false_iff_ne.2 (by omega))
            have HL := Lib.hid (num_lt HM.out (show y2 % 128 < 128 by omega))
            obtain ⟨m2, hm3⟩ : ∃ m2, m2 = m * 128 + y2 % 128 := ⟨_, rfl⟩
            have hmi : 128 * (m : Int) + (y2 : Int) % 128 = (m2 : Int) := by omega
            rw [← hm3] at HN2 HL
            have hml : m2 < 2097152 := by omega
            clear hm3
            by_cases h128 : y2 < 128
            · have q3 : (y2 : Int) < 128 := by omega
              by_cases hs : m2 < 31
              · have q4 : (m2 : Int) < 31 := by omega
                have hres : readTagS (l.drop p) = .error 4 := by rw [HR.out, HN2.out, if_neg hb1, if_pos h128, if_pos hs]
                have HRES := Lib.hid hres
                clear hres HN2
                rcases hcond with ⟨g1, g2⟩ | g1
                all_goals
                  go_wp2_with fail
                  obtain ⟨B5, F5⟩ := set3 BZ (.int .i64 0) (.int .i64 0) (.bool false)
                  generalize (((wr.setCell ⟨z, 0, none⟩ (.int .i64 0)).setCell ⟨z, 1, none⟩ (.int .i64 0)).setCell ⟨z, 2, none⟩ (.bool false)) = w5 at *
                  have n0 := B5.cell 0
                  have n1 := B5.cell 1
                  have n2 := B5.cell 2
                  simp at n0 n1 n2
                  refine bodyPost_ret (v := .tuple #[.agg #[.int .i64 0, .int .i64 0, .bool false], .int .i64 p, .int .i64 4]) (by simp [results, Tryz.results102, go_sem, n0, n1, n2]) rfl ?_
                  exact ⟨by rw [HRES.out]; rfl, HF1.out.trans' F5 HZW.out⟩
              · have q4 : ¬ (m2 : Int) < 31 := by omega
                have hres : readTagS (l.drop p) = .ok (⟨c1, m2, c3⟩, k + 1 + 1) := by rw [HR.out, HN2.out, if_neg hb1, if_pos h128, if_neg hs]
                have HRES := Lib.hid hres
                have BD3 := BD.set 1 (.int .i64 m2)
                simp at BD3
                have F3 : Fr (fun q => q = d) wr (wr.setCell ⟨d, 1, none⟩ (.int .i64 m2)) := Fr.setCell (S := fun q => q = d) (p := ⟨d, 1, none⟩) (Fr.refl wr) (fun _ => rfl) _
                have BZ3 := BZ.fr F3 (fun e => hdz e.symm)
                have HF3 := Lib.hid (HF1.out.trans' F3 HDW.out)
                clear hres HN2 F3
                rcases hcond with ⟨g1, g2⟩ | g1
                all_goals
                  go_upto_region 20 with fail
                  generalize (wr.setCell ⟨d, 1, none⟩ (.int .i64 m2)) = w3 at *
                  clear SD ZD SZ ZZ
                  have SD := BD3.cell
                  have SZ := BZ3.cell
                  have ZZ := BZ3.frozen
                  go_wp2_with fail
                  obtain ⟨B5, F5⟩ := set3 BZ3 (.int .i64 c1) (.int .i64 m2) (.bool c3)
                  generalize (((w3.setCell ⟨z, 0, none⟩ (.int .i64 c1)).setCell ⟨z, 1, none⟩ (.int .i64 m2)).setCell ⟨z, 2, none⟩ (.bool c3)) = w5 at *
                  have n0 := B5.cell 0
                  have n1 := B5.cell 1
                  have n2 := B5.cell 2
                  simp at n0 n1 n2
                  refine bodyPost_ret (v := .tuple #[.agg #[.int .i64 c1, .int .i64 m2, .bool c3], .int .i64 ((p : Int) + ((k : Int) + 1) + 1), .int .i64 0]) (by simp [results, Tryz.results102, go_sem, n0, n1, n2]) rfl ?_
                  exact ⟨by rw [HRES.out]; simp only [rTagV, tagV]; rw [show ((p + (k + 1 + 1) : Nat) : Int) = (p : Int) + ((k : Int) + 1) + 1 from by omega], HF3.out.trans' F5 HZW.out⟩
            · have q3 : ¬ (y2 : Int) < 128 := by omega
              have hnx : numS 0 0 (l.drop (p + 1)) = numS (k + 1) m2 (l.drop (p + 1 + (k + 1))) := by rw [HN2.out, if_neg hb1, if_neg h128]; rfl
              have HNX := Lib.hid hnx
              clear hnx HN2
              rcases hcond with ⟨g1, g2⟩ | g1
              all_goals
                go_wp2_with fail
                go_roundg (4 - (k + 1))
                case measure => rw [HG.out]; omega
                case rel => exact ⟨k + 1, m2, rfl, by omega, HL.out, rfl, by go_num, HNX.out, rfl⟩
end Go.Proofs.YtgffhiopbnkjbaaGreatDoor

namespace Go.Proofs.YtgffhiopbnkjbaaGreatDoor
open Go Go.RowKit Go.Q

/-- What ReadLength gives. -/
def rLenV (p : Nat) : Except Int (Nat × Nat) → Value
  | .error e => .tuple #[.int .i64 0, .int .i64 p, .int .i64 e]
  | .ok (v, k) => .tuple #[.int .i64 v, .int .i64 ((p + k : Nat) : Int), .int .i64 0]

set_option maxRecDepth 20000 in
set_option maxHeartbeats 2000000 in
theorem r02ReadLength_any (v : Value) (l : List UInt8) (p : Nat) (w : World) (h : Bytes w v l) (hp : p ≤ l.length) (hlm : l.length ≤ 1099511627776) :
    Calls Tryz.prog 103 #[v, .int .i64 p] w fun e w' => e = .returned (rLenV p (readLenS (l.drop p))) ∧ w = w' := by
  obtain ⟨a, cap, rfl, -, -, hx⟩ := h.form
  have HX := Lib.hid hx
  clear h hx
  rcases Nat.lt_or_ge p l.length with hpl | hpl
  case inr =>
    obtain rfl : p = l.length := by omega
    have hn : readLenS (l.drop l.length) = .error 3 := by rw [List.drop_length]; rfl
    have HN := Lib.hid hn
    clear hn
    go_enter Tryz.func103, Tryz.ntmps103
    go_wp2_with fail
    exact bodyPost_ret (v := .tuple #[.int .i64 0, .int .i64 l.length, .int .i64 3]) (by simp [results, Tryz.results103, go_sem]) rfl ⟨by rw [HN.out]; rfl, rfl⟩
  case inl =>
    obtain ⟨b, o, rfl, hy⟩ := HX.out (by omega)
    obtain ⟨x, hxp⟩ : ∃ x, l[p]? = some x := ⟨_, List.getElem?_eq_getElem hpl⟩
    have ex := hy p x hxp
    have hdp := drop_get hxp
    obtain ⟨y, hyy⟩ : ∃ y, y = x.toNat := ⟨_, rfl⟩
    have hx256 : y < 256 := by rw [hyy]; exact x.toNat_lt
    rw [← hyy] at ex
    have hT : readLenS (l.drop p) = if y < 128 then .ok (y, 1) else if y = 128 ∨ 132 < y then .error 5 else longS (y - 128) (l.drop (p + 1)) := by rw [hdp, hyy]; rfl
    have HT := Lib.hid hT
    have HY := Lib.hid hy
    have r0 : (0 : Int) ≤ (p : Int) := by omega
    have r1 : (p : Int) < (l.length : Int) := by omega
    clear hy hyy hdp hT hxp HX
    by_cases h1 : y < 128
    · have q1 : (y : Int) < 128 := by omega
      have hres : readLenS (l.drop p) = .ok (y, 1) := by rw [HT.out, if_pos h1]
      have HR := Lib.hid hres
      clear hres
      go_enter Tryz.func103, Tryz.ntmps103
      go_wp2_with fail
      exact bodyPost_ret (v := .tuple #[.int .i64 y, .int .i64 ((p : Int) + 1), .int .i64 0]) (by simp [results, Tryz.results103, go_sem]) rfl ⟨by rw [HR.out]; rfl, rfl⟩
    have q1 : ¬ (y : Int) < 128 := by omega
    by_cases h2 : y = 128 ∨ 132 < y
    · have hres : readLenS (l.drop p) = .error 5 := by rw [HT.out, if_neg h1, if_pos h2]
      have HR := Lib.hid hres
      have hc : ((y : Int) == 128) = true ∨ (((y : Int) == 128) = false ∧ (132 : Int) < (y : Int)) := by
        rcases Classical.em (y = 128) with h | h
        · exact .inl (by subst h; rfl)
        · exact .inr ⟨beq_eq_false_iff_ne.2 (by omega), by omega⟩
      clear hres
      rcases hc with g1 | ⟨g1, g2⟩
      all_goals
        go_enter Tryz.func103, Tryz.ntmps103
        go_wp2_with fail
        exact bodyPost_ret (v := .tuple #[.int .i64 0, .int .i64 p, .int .i64 5]) (by simp [results, Tryz.results103, go_sem]) rfl ⟨by rw [HR.out]; rfl, rfl⟩
    have g1 : ((y : Int) == 128) = false := beq_eq_false_iff_ne.2 (by omega)
    have g2 : ¬ (132 : Int) < (y : Int) := by omega
    obtain ⟨n, hn⟩ : ∃ n, n = y - 128 := ⟨_, rfl⟩
    have hn1 : 1 ≤ n := by omega
    have hn4 : n ≤ 4 := by omega
    have hyn : (y : Int) - 128 = (n : Int) := by omega
    have hres : readLenS (l.drop p) = longS n (l.drop (p + 1)) := by rw [HT.out, if_neg h1, if_neg h2, ← hn]
    have HR := Lib.hid hres
    clear hres hn HT
    have hdl : (l.drop (p + 1)).length = l.length - (p + 1) := List.length_drop
    by_cases h3 : l.length - (p + 1) < n
    · have q3 : (l.length : Int) - (p : Int) - 1 < (n : Int) := by omega
      have hres : readLenS (l.drop p) = .error 3 := by rw [HR.out]; unfold longS; rw [hdl, if_pos h3]
      have HRES := Lib.hid hres
      clear hres hdl
      go_enter Tryz.func103, Tryz.ntmps103
      go_wp2_with fail
      exact bodyPost_ret (v := .tuple #[.int .i64 0, .int .i64 p, .int .i64 3]) (by simp [results, Tryz.results103, go_sem]) rfl ⟨by rw [HRES.out]; rfl, rfl⟩
    have q3 : ¬ (l.length : Int) - (p : Int) - 1 < (n : Int) := by omega
    obtain ⟨x1, hx1⟩ : ∃ x, l[p + 1]? = some x := ⟨_, List.getElem?_eq_getElem (by omega)⟩
    have ex1 := HY.out (p + 1) x1 hx1
    obtain ⟨V, hV⟩ : ∃ V, V = beS ((l.drop (p + 1)).take n) := ⟨_, rfl⟩
    have hVl : V < 4294967296 := by rw [hV]; exact be_lt _ (by rw [List.length_take]; omega)
    have hL : longS n (l.drop (p + 1)) = if x1.toNat = 0 ∨ V < 128 then .error 5 else if 16777216 < V then .error 2 else .ok (V, n + 1) := by
      unfold longS
      rw [hdl, if_neg h3, ← hV, drop_get hx1]
      simp
    rw [hL] at HR
    have HV := Lib.hid hV
    obtain ⟨y1, hy1⟩ : ∃ y1, y1 = x1.toNat := ⟨_, rfl⟩
    rw [← hy1] at HR ex1
    have r2 : (p : Int) + 1 < (l.length : Int) := by omega
    have HEX := Lib.hid ex1
    clear hL hdl hx1 hV hy1 ex1
    go_enter Tryz.func103, Tryz.ntmps103
    go_wp2_with fail
    go_loopg [9, 10] n (fun g k i wr => ∃ j : Nat, g = n - j ∧ j ≤ n ∧ k = .int .i64 (beS ((l.drop (p + 1)).take j)) ∧ i = .int .i64 ((j : Int) + 1) ∧ wr = w)
    case atStart => exact ⟨0, rfl, Nat.zero_le _, rfl, rfl, rfl⟩
    case round =>
      obtain ⟨j, hg, hj, rfl, rfl, rfl⟩ := hrel
      have HG := Lib.hid hg
      clear hg
      by_cases hjn : j < n
      · have q4 : (j : Int) + 1 ≤ (n : Int) := by omega
        obtain ⟨x2, hx2⟩ : ∃ x, l[p + 1 + j]? = some x := ⟨_, List.getElem?_eq_getElem (by omega)⟩
        have e2 := HY.out (p + 1 + j) x2 hx2
        have hx3 : (l.drop (p + 1))[j]? = some x2 := by rw [List.getElem?_drop]; exact hx2
        have hbe := be_take hx3
        obtain ⟨K, hK⟩ : ∃ K, K = beS ((l.drop (p + 1)).take j) := ⟨_, rfl⟩
        have hKl : K < 4294967296 := by rw [hK]; exact be_lt _ (by rw [List.length_take]; omega)
        rw [← hK] at hbe ⊢
        have HBE := Lib.hid hbe
        have h256 := x2.toNat_lt
        generalize x2.toNat = y2 at *
        rw [show o + (p + 1 + j) = o + (p + (j + 1)) from by omega] at e2
        have hin : ((p : Int) + ((j : Int) + 1)).toNat = p + (j + 1) := by omega
        have r2 : (0 : Int) ≤ (p : Int) + ((j : Int) + 1) := by omega
        have r3 : (p : Int) + ((j : Int) + 1) < (l.length : Int) := by omega
        have hy2 : y2 < 256 := by omega
        clear hbe hK hx2 hx3 h256
        go_wp2_with fail
        go_roundg (n - (j + 1))
        case measure => rw [HG.out]; omega
        case rel => exact ⟨j + 1, rfl, by omega, by rw [HBE.out]; go_num, by go_num, rfl⟩
      · obtain rfl : j = n := by omega
        have q4 : ¬ (j : Int) + 1 ≤ (j : Int) := by omega
        rw [← HV.out]
        have e1 := HEX.out
        have hin : ((p : Int) + 1).toNat = p + 1 := by omega
        have r3 : (0 : Int) ≤ (p : Int) + 1 := by omega
        by_cases h4 : y1 = 0 ∨ V < 128
        · have hres : readLenS (l.drop p) = .error 5 := by rw [HR.out, if_pos h4]
          have HRES := Lib.hid hres
          have hc : ((y1 : Int) == 0) = true ∨ (((y1 : Int) == 0) = false ∧ (V : Int) < 128) := by
            rcases Classical.em (y1 = 0) with h | h
            · exact .inl (by subst h; rfl)
            · exact .inr ⟨beq_eq_false_iff_ne.2 (by omega), by omega⟩
          clear hres
          rcases hc with g3 | ⟨g3, g4⟩
          all_goals
            go_wp2_with fail
            exact bodyPost_ret (v := .tuple #[.int .i64 0, .int .i64 p, .int .i64 5]) (by simp [results, Tryz.results103, go_sem]) rfl ⟨by rw [HRES.out]; rfl, rfl⟩
        · have g3 : ((y1 : Int) == 0) = false := beq_eq_false_iff_ne.2 (by omega)
          have g4 : ¬ (V : Int) < 128 := by omega
          by_cases h5 : 16777216 < V
          · have g5 : (16777216 : Int) < (V : Int) := by omega
            have hres : readLenS (l.drop p) = .error 2 := by rw [HR.out, if_neg h4, if_pos h5]
            have HRES := Lib.hid hres
            clear hres
            go_wp2_with fail
            exact bodyPost_ret (v := .tuple #[.int .i64 0, .int .i64 p, .int .i64 2]) (by simp [results, Tryz.results103, go_sem]) rfl ⟨by rw [HRES.out]; rfl, rfl⟩
          · have g5 : ¬ (16777216 : Int) < (V : Int) := by omega
            have hres : readLenS (l.drop p) = .ok (V, j + 1) := by rw [HR.out, if_neg h4, if_neg h5]
            have HRES := Lib.hid hres
            clear hres
            go_wp2_with fail
            exact bodyPost_ret (v := .tuple #[.int .i64 V, .int .i64 ((p : Int) + (j : Int) + 1), .int .i64 0]) (by simp [results, Tryz.results103, go_sem]) rfl ⟨by rw [HRES.out]; simp only [rLenV]; rw [show ((p + (j + 1) : Nat) : Int) = (p : Int) + (j : Int) + 1 from by omega], rfl⟩
end Go.Proofs.YtgffhiopbnkjbaaGreatDoor

namespace Go.Proofs.YtgffhiopbnkjbaaGreatDoor
open Go Go.RowKit Go.Q
set_option linter.unusedSimpArgs false

/-- What Read gives. -/
def rReadV (p : Nat) : Except Int (Tag × Nat × Nat) → Value
  | .error e => .tuple #[tagV ⟨0, 0, false⟩, .int .i64 0, .int .i64 p, .int .i64 e]
  | .ok (t, n, k) => .tuple #[tagV t, .int .i64 n, .int .i64 ((p + k : Nat) : Int), .int .i64 0]
theorem readTag_le {l : List UInt8} {t : Tag} {k : Nat} (h : readTagS l = .ok (t, k)) : k ≤ l.length := by
  cases l with
  | nil => simp [readTagS] at h
  | cons x r =>
    simp only [readTagS] at h
    split at h
    · simp only [Except.ok.injEq, Prod.mk.injEq] at h
      simp only [List.length_cons]
      omega
    · split at h
      · cases h
      · rename_i n k' he
        have := (numS_pos he).2
        simp only [Except.ok.injEq, Prod.mk.injEq] at h
        simp only [List.length_cons]
        omega

set_option maxRecDepth 20000 in
set_option maxHeartbeats 2000000 in
theorem r02Read_any (v : Value) (l : List UInt8) (p : Nat) (w : World) (h : Bytes w v l) (hp : p ≤ l.length) (hlm : l.length ≤ 1099511627776) :
    Calls Tryz.prog 68 #[v, .int .i64 p] w fun e w' => e = .returned (rReadV p (readS (l.drop p))) ∧ Fr (fun _ => False) w w' := by
  obtain ⟨a, cap, rfl, -⟩ := h.form
  obtain ⟨z, hz⟩ : ∃ z, z = w.heap.size := ⟨_, rfl⟩
  have BZ := Blk.new w 36 #[.int .i64 0, .int .i64 0, .bool false]
  have F0 : Fr (fun _ => False) w (w.alloc (.cells #[.int .i64 0, .int .i64 0, .bool false] 36)) := (Fr.refl w).alloc _
  rw [← hz] at BZ
  have hzw : ∀ k, k < w.heap.size → k = z → False := fun k hk e => by omega
  have HZ := Lib.hid hz
  have HT := Lib.hid (r02ReadTag_any _ l p _ (h.old F0) hp hlm)
  have HB := Lib.hid h
  have HF0 := Lib.hid F0
  have HZW := Lib.hid hzw
  have hR : readS (l.drop p) = match readTagS (l.drop p) with
    | .error e => .error e
    | .ok (t, k) => match readLenS ((l.drop p).drop k) with
      | .error e => .error e
      | .ok (n, m) => .ok (t, n, k + m) := rfl
  have HR := Lib.hid hR
  clear h hz F0 hzw hR
  go_enter Tryz.func68, Tryz.ntmps68
  go_upto_region 1 with fail
  rw [← HZ.out]
  generalize (w.alloc (.cells #[.int .i64 0, .int .i64 0, .bool false] 36)) = w0 at *
  go_wp2_with fail
  refine HT.out.mono ?_
  rintro e w1 ⟨rfl, F⟩
  replace BZ := BZ.fr F (fun h => h)
  have HF := Lib.hid (HF0.out.trans F)
  clear F HF0 HT
  cases ht : readTagS (l.drop p) with
  | error e =>
    have he : e ≠ 0 := readTagS_err ht
    have he1 : (e == 0) = false := beq_eq_false_iff_ne.2 he
    have he2 : (e != 0) = true := by simpa using he
    have hres : readS (l.drop p) = .error e := by rw [HR.out, ht]
    have HRES := Lib.hid hres
    clear ht hres he
    rw [show rTagV p (.error e) = .tuple #[.agg #[.int .i64 0, .int .i64 0, .bool false], .int .i64 p, .int .i64 e] from rfl]
    go_upto_region 2 with fail
    obtain ⟨d, hd⟩ : ∃ d, d = w1.heap.size := ⟨_, rfl⟩
    have BD := Blk.new w1 36 #[.int .i64 0, .int .i64 0, .bool false]
    have F1 : Fr (fun _ => False) w1 (w1.alloc (.cells #[.int .i64 0, .int .i64 0, .bool false] 36)) := (Fr.refl w1).alloc _
    have hzl := BZ.lt
    replace BZ := BZ.fr F1 (fun h => h)
    have HF1 := Lib.hid (HF.out.trans F1)
    rw [← hd] at BD ⊢
    have hdz : d ≠ z := by omega
    clear hd F1 hzl HF
    generalize (w1.alloc (.cells #[.int .i64 0, .int .i64 0, .bool false] 36)) = w2 at *
    have SZ := BZ.cell
    have ZZ := BZ.frozen
    go_wp2_with fail
    obtain ⟨B5, F5⟩ := set3 BZ (.int .i64 0) (.int .i64 0) (.bool false)
    generalize (((w2.setCell ⟨z, 0, none⟩ (.int .i64 0)).setCell ⟨z, 1, none⟩ (.int .i64 0)).setCell ⟨z, 2, none⟩ (.bool false)) = w5 at *
    have n0 := B5.cell 0
    have n1 := B5.cell 1
    have n2 := B5.cell 2
    simp at n0 n1 n2
    refine bodyPost_ret (v := .tuple #[.agg #[.int .i64 0, .int .i64 0, .bool false], .int .i64 0, .int .i64 p, .int .i64 e]) (by simp [results, Tryz.results68, go_sem, n0, n1, n2]) rfl ?_
    exact ⟨by rw [HRES.out]; rfl, HF1.out.trans' F5 HZW.out⟩
  | ok tk =>
    obtain ⟨⟨c1, c2, c3⟩, k⟩ := tk
    have hk := readTag_le ht
    rw [List.length_drop] at hk
    have hres : readS (l.drop p) = match readLenS (l.drop (p + k)) with
      | .error e => .error e
      | .ok (n, m) => .ok (⟨c1, c2, c3⟩, n, k + m) := by rw [HR.out, ht]; simp only [List.drop_drop]
    have HRES := Lib.hid hres
    clear ht hres
    rw [show rTagV p (.ok (⟨c1, c2, c3⟩, k)) = .tuple #[.agg #[.int .i64 c1, .int .i64 c2, .bool c3], .int .i64 ((p + k : Nat) : Int), .int .i64 0] from rfl]
    generalize hq : p + k = q at *
    go_upto_region 2 with fail
    obtain ⟨d, hd⟩ : ∃ d, d = w1.heap.size := ⟨_, rfl⟩
    have BD := Blk.new w1 36 #[.int .i64 c1, .int .i64 c2, .bool c3]
    have F1 : Fr (fun _ => False) w1 (w1.alloc (.cells #[.int .i64 c1, .int .i64 c2, .bool c3] 36)) := (Fr.refl w1).alloc _
    have hzl := BZ.lt
    replace BZ := BZ.fr F1 (fun h => h)
    have HF1 := Lib.hid (HF.out.trans F1)
    rw [← hd] at BD ⊢
    have hdz : d ≠ z := by omega
    clear hd F1 hzl HF
    generalize (w1.alloc (.cells #[.int .i64 c1, .int .i64 c2, .bool c3] 36)) = w2 at *
    have HL := Lib.hid (r02ReadLength_any _ l q w2 (HB.out.old HF1.out) (by omega) hlm)
    have SZ := BZ.cell
    have ZZ := BZ.frozen
    have SD := BD.cell
    go_wp2_with fail
    refine HL.out.mono ?_
    rintro e w3 ⟨rfl, rfl⟩
    cases hl : readLenS (l.drop q) with
    | error e =>
      have he : e ≠ 0 := readLenS_err hl
      have he1 : (e == 0) = false := beq_eq_false_iff_ne.2 he
      have he2 : (e != 0) = true := by simpa using he
      have hres : readS (l.drop p) = .error e := by rw [HRES.out, hl]
      have HRES2 := Lib.hid hres
      clear hl hres he
      rw [show rLenV q (.error e) = .tuple #[.int .i64 0, .int .i64 q, .int .i64 e] from rfl]
      go_wp2_with fail
      obtain ⟨B5, F5⟩ := set3 BZ (.int .i64 0) (.int .i64 0) (.bool false)
      generalize (((w2.setCell ⟨z, 0, none⟩ (.int .i64 0)).setCell ⟨z, 1, none⟩ (.int .i64 0)).setCell ⟨z, 2, none⟩ (.bool false)) = w5 at *
      have n0 := B5.cell 0
      have n1 := B5.cell 1
      have n2 := B5.cell 2
      simp at n0 n1 n2
      refine bodyPost_ret (v := .tuple #[.agg #[.int .i64 0, .int .i64 0, .bool false], .int .i64 0, .int .i64 p, .int .i64 e]) (by simp [results, Tryz.results68, go_sem, n0, n1, n2]) rfl ?_
      exact ⟨by rw [HRES2.out]; rfl, HF1.out.trans' F5 HZW.out⟩
    | ok vm =>
      obtain ⟨n, m⟩ := vm
      have hres : readS (l.drop p) = .ok (⟨c1, c2, c3⟩, n, k + m) := by rw [HRES.out, hl]
      have HRES2 := Lib.hid hres
      clear hl hres
      rw [show rLenV q (.ok (n, m)) = .tuple #[.int .i64 n, .int .i64 ((q + m : Nat) : Int), .int .i64 0] from rfl]
      generalize hr : q + m = r at *
      go_wp2_with fail
      obtain ⟨B5, F5⟩ := set3 BZ (.int .i64 c1) (.int .i64 c2) (.bool c3)
      generalize (((w2.setCell ⟨z, 0, none⟩ (.int .i64 c1)).setCell ⟨z, 1, none⟩ (.int .i64 c2)).setCell ⟨z, 2, none⟩ (.bool c3)) = w5 at *
      have n0 := B5.cell 0
      have n1 := B5.cell 1
      have n2 := B5.cell 2
      simp at n0 n1 n2
      refine bodyPost_ret (v := .tuple #[.agg #[.int .i64 c1, .int .i64 c2, .bool c3], .int .i64 n, .int .i64 r, .int .i64 0]) (by simp [results, Tryz.results68, go_sem, n0, n1, n2]) rfl ?_
      exact ⟨by rw [HRES2.out]; simp only [rReadV, tagV]; rw [show p + (k + m) = r from by omega], HF1.out.trans' F5 HZW.out⟩

end Go.Proofs.YtgffhiopbnkjbaaGreatDoor

namespace Go.Q
open Go
theorem readLen_le {l : List UInt8} {v k : Nat} (h : readLenS l = .ok (v, k)) : k ≤ l.length ∧ v ≤ 16777216 := by
  cases l with
  | nil => simp [readLenS] at h
  | cons x t =>
    simp only [readLenS] at h
    split at h
    · simp only [Except.ok.injEq, Prod.mk.injEq] at h
      simp only [List.length_cons]
      omega
    · split at h
      · cases h
      · unfold longS at h
        split at h
        · cases h
        split at h
        · cases h
        split at h
        · cases h
        · simp only [Except.ok.injEq, Prod.mk.injEq] at h
          simp only [List.length_cons]
          omega
theorem readS_le {l : List UInt8} {t : Tag} {n k : Nat} (h : readS l = .ok (t, n, k)) : k ≤ l.length ∧ n ≤ 16777216 := by
  unfold readS at h
  split at h
  · cases h
  · rename_i t' k' he
    have h1 := Go.Proofs.YtgffhiopbnkjbaaGreatDoor.readTag_le he
    split at h
    · cases h
    · rename_i v m hl
      have h2 := readLen_le hl
      rw [List.length_drop] at h2
      simp only [Except.ok.injEq, Prod.mk.injEq] at h
      omega
end Go.Q

namespace Go.Q
open Go Go.RowKit
theorem Vals.part {w : World} {a : Option Addr} {m cap : Nat} {l : List UInt8} (h : Bytes w (.slice a m cap) l) (i n : Nat) (hij : i + n ≤ l.length) (a' : Option Addr) (cap' : Nat) (ha : 0 < n → ∀ b o, a = some ⟨b, o, none⟩ → a' = some ⟨b, o + i, none⟩) (hc : n ≤ cap') (hm : cap' ≤ maxLen) : Bytes w (.slice a' n cap') ((l.drop i).take n) := by
  obtain ⟨a0, c0, he, -⟩ := Vals.form h
  simp only [Value.slice.injEq] at he
  obtain ⟨rfl, rfl, rfl⟩ := he
  have := Vals.sub h i (i + n) (by omega) hij a' cap' (fun h0 => ha (by omega)) (by omega) hm
  rw [show i + n - i = n from by omega] at this
  unfold Bytes Lib.byteCells
  rw [List.map_take, List.map_drop]
  exact this
end Go.Q
namespace Go.Proofs.YtgffhiopbnkjbaaGreatDoor
open Go Go.RowKit Go.Q
set_option linter.unusedSimpArgs false

/-- What Read gives. -/
def RTextOut (wb : World) (l : List UInt8) (p : Nat) (e : Ending) : Prop :=
  match textReadS (l.drop p) with
  | .error x => e = .returned (.tuple #[.agg #[.int .i64 0, .slice none 0 0], .int .i64 p, .int .i64 x])
  | .ok (k, b, n) => ∃ u, e = .returned (.tuple #[.agg #[.int .i64 k, u], .int .i64 ((p + n : Nat) : Int), .int .i64 0]) ∧ Bytes wb u b

set_option maxRecDepth 20000 in
set_option maxHeartbeats 4000000 in
theorem r06Read_any (v : Value) (l : List UInt8) (p : Nat) (wb w : World) (hb : Bytes wb v l) (Fb : Fr (fun _ => False) wb w) (hp : p ≤ l.length) (hl : l.length ≤ 16777216) :
    Calls Tryz.prog 58 #[v, .int .i64 p, .slice none 0 0] w fun e w' => RTextOut wb l p e ∧ Fr (fun _ => False) w w' := by
  have h := hb.old Fb
  have HBB := Lib.hid hb
  clear hb Fb
  obtain ⟨a, cap, rfl, hcap, hcm, hx⟩ := h.form
  obtain ⟨z, hz⟩ : ∃ z, z = w.heap.size := ⟨_, rfl⟩
  have BZ := Blk.new w 25 #[.int .i64 0, .slice none 0 0]
  have F0 : Fr (fun _ => False) w (w.alloc (.cells #[.int .i64 0, .slice none 0 0] 25)) := (Fr.refl w).alloc _
  rw [← hz] at BZ
  have hzw : ∀ k, k < w.heap.size → k = z → False := fun k hk e => by omega
  have HZ := Lib.hid hz
  have HT := Lib.hid (r02Read_any _ l p _ (h.old F0) hp (by omega))
  have HB := Lib.hid h
  have HF0 := Lib.hid F0
  have HZW := Lib.hid hzw
  have HX := Lib.hid hx
  have hR : textReadS (l.drop p) = match readS (l.drop p) with
    | .error e => .error e
    | .ok (t, n, k) => if t.cls ≠ 0 ∨ t.made = true ∨ Go.Q.kindOk t.num = false then .error 4 else if (l.drop p).length - k < n then .error 3 else
      if rightS t.num (((l.drop p).drop k).take n) = true then .ok (t.num, ((l.drop p).drop k).take n, k + n) else .error 6 := rfl
  have HR := Lib.hid hR
  clear h hx hz F0 hzw hR
  go_enter Tryz.func58, Tryz.ntmps58
  go_upto_region 1 with fail
  rw [← HZ.out]
  generalize (w.alloc (.cells #[.int .i64 0, .slice none 0 0] 25)) = w0 at *
  go_wp2_with fail
  refine HT.out.mono ?_
  rintro e w1 ⟨rfl, F⟩
  replace BZ := BZ.fr F (fun h => h)
  have HF := Lib.hid (HF0.out.trans F)
  clear F HF0 HT
  cases ht : readS (l.drop p) with
  | error e =>
    have he : e ≠ 0 := readS_err ht
    have he1 : (e == 0) = false := beq_eq_false_iff_ne.2 he
    have he2 : (e != 0) = true := by simpa using he
    have hres : textReadS (l.drop p) = .error e := by rw [HR.out, ht]
    have HRES := Lib.hid hres
    clear ht hres he
    rw [show rReadV p (.error e) = .tuple #[.agg #[.int .i64 0, .int .i64 0, .bool false], .int .i64 0, .int .i64 p, .int .i64 e] from rfl]
    go_upto_region 2 with fail
    have F1 : Fr (fun _ => False) w1 (w1.alloc (.cells #[.int .i64 0, .int .i64 0, .bool false] 36)) := (Fr.refl w1).alloc _
    replace BZ := BZ.fr F1 (fun h => h)
    have HF1 := Lib.hid (HF.out.trans F1)
    clear F1 HF
    generalize (w1.alloc (.cells #[.int .i64 0, .int .i64 0, .bool false] 36)) = w2 at *
    have SZ := BZ.cell
    have ZZ := BZ.frozen
    go_wp2_with fail
    obtain ⟨B5, F5⟩ := set2 BZ (.int .i64 0) (.slice none 0 0)
    generalize ((w2.setCell ⟨z, 0, none⟩ (.int .i64 0)).setCell ⟨z, 1, none⟩ (.slice none 0 0)) = w5 at *
    have n0 := B5.cell 0
    have n1 := B5.cell 1
    simp at n0 n1
    refine bodyPost_ret (v := .tuple #[.agg #[.int .i64 0, .slice none 0 0], .int .i64 p, .int .i64 e]) (by simp [results, Tryz.results58, go_sem, n0, n1]) rfl ?_
    exact ⟨by unfold RTextOut; rw [HRES.out], HF1.out.trans' F5 HZW.out⟩
  | ok tnk =>
    obtain ⟨⟨c1, c2, c3⟩, n, k⟩ := tnk
    rw [show rReadV p (.ok (⟨c1, c2, c3⟩, n, k)) = .tuple #[.agg #[.int .i64 c1, .int .i64 c2, .bool c3], .int .i64 n, .int .i64 ((p + k : Nat) : Int), .int .i64 0] from rfl]
    have hk := (readS_le ht).1
    rw [List.length_drop] at hk
    generalize hq : p + k = q at *
    have hres : textReadS (l.drop p) = if c1 ≠ 0 ∨ c3 = true ∨ Go.Q.kindOk c2 = false then .error 4 else if l.length - q < n then .error 3 else
      if rightS c2 ((l.drop q).take n) = true then .ok (c2, (l.drop q).take n, k + n) else .error 6 := by
      rw [HR.out, ht]
      simp only [List.length_drop, List.drop_drop, hq, Nat.sub_sub]
    have HRES := Lib.hid hres
    have hq1 : q ≤ l.length := by omega
    have hnl := (readS_le ht).2
    clear ht hres
    go_upto_region 2 with fail
    have F1 : Fr (fun _ => False) w1 (w1.alloc (.cells #[.int .i64 c1, .int .i64 c2, .bool c3] 36)) := (Fr.refl w1).alloc _
    obtain ⟨d, hd⟩ : ∃ d, d = w1.heap.size := ⟨_, rfl⟩
    have BD := Blk.new w1 36 #[.int .i64 c1, .int .i64 c2, .bool c3]
    rw [← hd] at BD ⊢
    replace BZ := BZ.fr F1 (fun h => h)
    have HF1 := Lib.hid (HF.out.trans F1)
    clear F1 HF hd
    generalize (w1.alloc (.cells #[.int .i64 c1, .int .i64 c2, .bool c3] 36)) = w2 at *
    have SZ := BZ.cell
    have ZZ := BZ.frozen
    have SD := BD.cell
    go_wp2_with fail
    refine (r06Kind_any c2 w2).mono ?_
    rintro e w' ⟨rfl, rfl⟩
    obtain ⟨K, hK⟩ : ∃ K, K = Go.Q.kindOk c2 := ⟨_, rfl⟩
    rw [← hK] at HRES ⊢
    clear hK
    go_wp2_with fail
    go_loopg [13, 14] 1 (fun g ok i wr => g = 1 ∧ ok = .bool K ∧ i = .int .i64 0 ∧ wr = w2)
    case atStart => exact ⟨rfl, rfl, rfl, rfl⟩
    case round =>
      obtain ⟨-, rfl, rfl, rfl⟩ := hrel
      by_cases hbad : c1 ≠ 0 ∨ c3 = true ∨ K = false
      · have hE : textReadS (l.drop p) = .error 4 := by rw [HRES.out, if_pos hbad]
        have HE := Lib.hid hE
        clear hE HRES
        have hc : K = false ∨ (K = true ∧ (c1 == 0) = false ∧ (c1 != 0) = true) ∨ (K = true ∧ (c1 == 0) = true ∧ (c1 != 0) = false ∧ c3 = true) := by
          cases K with
          | false => exact .inl rfl
          | true =>
            by_cases h1 : c1 = 0
            · subst h1
              refine .inr (.inr ⟨rfl, rfl, rfl, ?_⟩)
              simpa using hbad
            · exact .inr (.inl ⟨rfl, beq_eq_false_iff_ne.2 h1, by simpa using h1⟩)
        clear hbad
        rcases hc with rfl | ⟨rfl, g1, g2⟩ | ⟨rfl, g1, g2, rfl⟩
        all_goals
          go_wp2_with fail
          obtain ⟨B5, F5⟩ := set2 BZ (.int .i64 0) (.slice none 0 0)
          generalize ((wr.setCell ⟨z, 0, none⟩ (.int .i64 0)).setCell ⟨z, 1, none⟩ (.slice none 0 0)) = w5 at *
          have n0 := B5.cell 0
          have n1 := B5.cell 1
          simp at n0 n1
          refine bodyPost_ret (v := .tuple #[.agg #[.int .i64 0, .slice none 0 0], .int .i64 p, .int .i64 4]) (by simp [results, Tryz.results58, go_sem, n0, n1]) rfl ?_
          exact ⟨by unfold RTextOut; rw [HE.out], HF1.out.trans' F5 HZW.out⟩
      · have hc : c1 = 0 ∧ c3 = false ∧ K = true := by
          refine ⟨Classical.byContradiction fun h => hbad (.inl h), ?_, ?_⟩
          · cases c3 with
            | false => rfl
            | true => exact absurd (.inr (.inl rfl)) hbad
          · cases K with
            | true => rfl
            | false => exact absurd (.inr (.inr rfl)) hbad
        obtain ⟨rfl, rfl, rfl⟩ := hc
        have hres := HRES.out
        rw [if_neg hbad] at hres
        have HRES2 := Lib.hid hres
        clear HRES hres hbad
        by_cases h3 : l.length - q < n
        · have q3 : (l.length : Int) - (q : Int) < (n : Int) := by omega
          have hE : textReadS (l.drop p) = .error 3 := by rw [HRES2.out, if_pos h3]
          have HE := Lib.hid hE
          clear hE HRES2
          go_wp2_with fail
          obtain ⟨B5, F5⟩ := set2 BZ (.int .i64 0) (.slice none 0 0)
          generalize ((wr.setCell ⟨z, 0, none⟩ (.int .i64 0)).setCell ⟨z, 1, none⟩ (.slice none 0 0)) = w5 at *
          have n0 := B5.cell 0
          have n1 := B5.cell 1
          simp at n0 n1
          refine bodyPost_ret (v := .tuple #[.agg #[.int .i64 0, .slice none 0 0], .int .i64 p, .int .i64 3]) (by simp [results, Tryz.results58, go_sem, n0, n1]) rfl ?_
          exact ⟨by unfold RTextOut; rw [HE.out], HF1.out.trans' F5 HZW.out⟩
        · have q3 : ¬ (l.length : Int) - (q : Int) < (n : Int) := by omega
          have hres := HRES2.out
          rw [if_neg h3] at hres
          have HRES := Lib.hid hres
          have r1 : (0 : Int) ≤ (q : Int) := by omega
          obtain ⟨sm, hsm⟩ : ∃ sm, sm = q + n := ⟨_, rfl⟩
          have hsi : (q : Int) + (n : Int) = (sm : Int) := by omega
          have hwi : IntKind.i64.wrap (sm : Int) = (sm : Int) := by simp [IntKind.wrap, IntKind.signed, IntKind.bits]; omega
          have r2 : (q : Int) ≤ (sm : Int) := by omega
          have r2N : q ≤ sm := by omega
          have r3 : (sm : Int) ≤ (cap : Int) := by omega
          have r3N : sm ≤ cap := by omega
          have r4 : (0 : Int) ≤ (sm : Int) := by omega
          have HSM := Lib.hid hsm
          have hcm2 : cap ≤ 9223372036854775807 := by unfold maxLen at hcm; omega
          clear hres HRES2 hsm
          go_upto_region 13 with fail
          have hcapq : (cap - q : Nat) ≤ maxLen := by omega
          obtain ⟨A, hA⟩ : ∃ A, A = (if cap = q then a else Option.map (fun x => x.add q) a) := ⟨_, rfl⟩
          have hA2 : 0 < n → ∀ b o, a = some ⟨b, o, none⟩ → A = some ⟨b, o + q, none⟩ := fun h0 b o e => by
            subst e
            rw [hA, if_neg (by omega)]
            show some ((⟨b, o, none⟩ : Addr).add q) = _
            congr 1
            unfold Addr.add
            split <;> simp_all
          have hsn : sm - q = n := by have := HSM.out; omega
          have hVB := Vals.part HB.out q n (by omega) A (cap - q) hA2 (by have := HSM.out; omega) hcapq
          have hVW := Vals.part HBB.out q n (by omega) A (cap - q) hA2 (by have := HSM.out; omega) hcapq
          have HVW := Lib.hid hVW
          have HVO := Lib.hid hVB.lt
          have HVB := Lib.hid (hVB.old HF1.out)
          have HA := Lib.hid hA
          obtain ⟨cp, hcp⟩ : ∃ cp, cp = cap - q := ⟨_, rfl⟩
          rw [← hcp] at HVB HVO HVW
          have HCP := Lib.hid hcp
          have HSN := Lib.hid hsn
          clear hA hA2 hVB hVW hcapq hcp hsn
          go_cut [15] from 76 to 84 (fun s wc => s = pt wr.heap.size ∧ wc = (wr.alloc (.cells #[.int .i64 c2, .slice A n cp] 25)).drew)
          case first =>
            have SD := BD.drew.cell
            have SD2 := (BD.alloc (.cells #[.int .i64 0, .slice none 0 0] 25)).cell
            have hA2 := HA.out.symm
            have hcp2 := HCP.out.symm
            have hsn2 := HSN.out
            go_region_law fail
            all_goals
              go_wp2_with fail
              go_meet
              first | exact ⟨rfl, rfl⟩ | exact ⟨rfl, by rw [HA.out, HCP.out]⟩
          case rest =>
            obtain ⟨rfl, rfl⟩ := hcut
            obtain ⟨tb, htb⟩ : ∃ tb, tb = wr.heap.size := ⟨_, rfl⟩
            have BT := (Blk.new wr 25 #[.int .i64 c2, .slice A n cp]).drew
            have F6 : Fr (fun _ => False) wr (wr.alloc (.cells #[.int .i64 c2, .slice A n cp] 25)).drew := ((Fr.refl wr).alloc _).drew
            rw [← htb] at BT ⊢
            have BZ4 := BZ.fr F6 (fun h => h)
            have HV4 := Lib.hid (HVB.out.old F6)
            have HF6 := Lib.hid (HF1.out.trans F6)
            clear F6 htb HVB HF1
            generalize (wr.alloc (.cells #[.int .i64 c2, .slice A n cp] 25)).drew = w4 at *
            obtain ⟨C, hC⟩ : ∃ C, C = (l.drop q).take n := ⟨_, rfl⟩
            have hCl : C.length = n := by rw [hC, List.length_take, List.length_drop]; omega
            rw [← hC] at HV4 HRES HVO HVW
            have hS := r06Signs_any c2 _ C w4 HV4.out (by omega)
            unfold RSigOut at hS
            have HS := Lib.hid hS
            have t0 := BT.cell 0
            have t1 := BT.cell 1
            simp only [List.getElem?_toArray, List.getElem?_cons_succ, List.getElem?_cons_zero] at t0 t1
            clear hC hS
            go_wp2_with fail
            refine HS.out.mono ?_
            rintro e w6 ⟨v6, rfl, -, F7⟩
            have BZ6 := BZ4.fr F7 (fun h => h)
            have BT6 := BT.fr F7 (fun h => h)
            have HF7 := Lib.hid (HF6.out.trans F7)
            have HV6 := Lib.hid (HV4.out.old F7)
            clear t0 t1 F7 HS
            have t0 := BT6.cell 0
            have t1 := BT6.cell 1
            simp only [List.getElem?_toArray, List.getElem?_cons_succ, List.getElem?_cons_zero] at t0 t1
            have SZ := BZ6.cell
            have ZZ := BZ6.frozen
            rw [sigR_iff]
            by_cases hr : rightS c2 C = true
            · have hres := HRES.out
              rw [if_pos hr] at hres
              have HE := Lib.hid hres
              rw [if_pos hr]
              rw [Option.isSome_some]
              clear hres hr
              go_wp2_with fail
              obtain ⟨B5, F5⟩ := set2 BZ6 (.int .i64 c2) (.slice A n cp)
              generalize ((w6.setCell ⟨z, 0, none⟩ (.int .i64 c2)).setCell ⟨z, 1, none⟩ (.slice A n cp)) = w5 at *
              have n0 := B5.cell 0
              have n1 := B5.cell 1
              simp at n0 n1
              refine bodyPost_ret (v := .tuple #[.agg #[.int .i64 c2, .slice A n cp], .int .i64 sm, .int .i64 0]) (by simp [results, Tryz.results58, go_sem, n0, n1]) rfl ?_
              refine ⟨?_, HF7.out.trans' F5 HZW.out⟩
              unfold RTextOut
              rw [HE.out]
              refine ⟨_, by rw [show ((p + (k + n) : Nat) : Int) = (sm : Int) from by have := HSM.out; omega], ?_⟩
              exact HVW.out
            · have hres := HRES.out
              rw [if_neg hr] at hres
              have HE := Lib.hid hres
              rw [if_neg hr]
              rw [Option.isSome_none]
              clear hres hr
              go_wp2_with fail
              obtain ⟨B5, F5⟩ := set2 BZ6 (.int .i64 0) (.slice none 0 0)
              generalize ((w6.setCell ⟨z, 0, none⟩ (.int .i64 0)).setCell ⟨z, 1, none⟩ (.slice none 0 0)) = w5 at *
              have n0 := B5.cell 0
              have n1 := B5.cell 1
              simp at n0 n1
              refine bodyPost_ret (v := .tuple #[.agg #[.int .i64 0, .slice none 0 0], .int .i64 p, .int .i64 6]) (by simp [results, Tryz.results58, go_sem, n0, n1]) rfl ?_
              exact ⟨by unfold RTextOut; rw [HE.out], HF7.out.trans' F5 HZW.out⟩
end Go.Proofs.YtgffhiopbnkjbaaGreatDoor

namespace Go.Q
open Go
theorem one_err {l : List UInt8} {e : Int} (h : readS l = .error e) : oneS l = .error e := by unfold oneS; rw [h]
theorem one_end {l : List UInt8} {t : Tag} {n k : Nat} (h : readS l = .ok (t, n, k)) (hn : l.length - k < n) : oneS l = .error 3 := by unfold oneS; rw [h]; exact if_pos hn
theorem one_ok {l : List UInt8} {t : Tag} {n k : Nat} (h : readS l = .ok (t, n, k)) (hn : ¬ l.length - k < n) : oneS l = .ok (t, k, k + n) := by unfold oneS; rw [h]; exact if_neg hn
end Go.Q
namespace Go.Proofs.YtgffhiopbnkjbaaGreatDoor
open Go Go.RowKit Go.Q
set_option linter.unusedSimpArgs false

set_option maxRecDepth 20000 in
set_option maxHeartbeats 2000000 in
theorem r08Wholes_any (v : Value) (l : List UInt8) (w : World) (h : Bytes w v l) (hl : l.length ≤ 16777216) :
    Calls Tryz.prog 118 #[v, .int .i64 0] w fun e w' => wholesOut (allS l) e ∧ Fr (fun _ => False) w w' := by
  obtain ⟨a, cap, rfl, hcap, hcm, -⟩ := h.form
  have H := Lib.hid h
  have hcm2 : cap ≤ 9223372036854775807 := by unfold maxLen at hcm; omega
  clear h
  go_enter Tryz.func118, Tryz.ntmps118
  go_wp2_with fail
  go_loopg [1, 6] l.length (fun g pp ls wr => ∃ (q : Nat) (a2 : Option Addr) (m c2 : Nat) (xs : List Value), g = l.length - q ∧ q ≤ l.length ∧ m ≤ q ∧ pp = .int .i64 q ∧ ls = .slice a2 m c2 ∧ wr.ownsRow w.heap.size 23 1 (.slice a2 m c2) m xs ∧ Fr (fun _ => False) w wr ∧ (∀ e, allS (l.drop q) = .error e → allS l = .error e) ∧ (∀ ls, allS (l.drop q) = .ok ls → ∃ ls', allS l = .ok ls' ∧ ls'.length = m + ls.length))
  case atStart => exact ⟨0, none, 0, 0, [], rfl, Nat.zero_le _, Nat.le_refl _, rfl, rfl, ⟨rfl, .inl ⟨rfl, rfl⟩⟩, Fr.refl _, fun e h => h, fun ls h => ⟨ls, h, by omega⟩⟩
  case round =>
    obtain ⟨q, a2, m, c2, xs, hg, hq, hmq, rfl, rfl, ho, F, hE, hO⟩ := hrel
    have HG := Lib.hid hg
    have HE := Lib.hid hE
    have HO := Lib.hid hO
    have HOW := Lib.hid ho
    have HF := Lib.hid F
    have hv := Lib.hid (Vals.of_own ho).2
    clear hg hE hO ho F
    by_cases hql : q < l.length
    · have q1 : (q : Int) < (l.length : Int) := by omega
      have hne : l.drop q ≠ [] := fun e => by have := drop_nil e; omega
      have HNE := Lib.hid hne
      have HR := Lib.hid (r02Read_any _ l q wr (H.out.old HF.out) hq (by omega))
      clear hne
      go_wp2_with fail
      refine HR.out.mono ?_
      rintro e w2 ⟨rfl, F2⟩
      have HOW2 := Lib.hid (ownsRow_fr HOW.out F2 (fun _ _ h => h))
      have HF2 := Lib.hid (HF.out.trans F2)
      clear HR HOW HF F2
      cases hr : readS (l.drop q) with
      | error x =>
        have hx : x ≠ 0 := readS_err hr
        have hx1 : (x == 0) = false := beq_eq_false_iff_ne.2 hx
        have hx2 : (x != 0) = true := by simpa using hx
        have hA := Lib.hid (HE.out x (allS_err HNE.out (one_err hr)))
        rw [show rReadV q (.error x) = .tuple #[.agg #[.int .i64 0, .int .i64 0, .bool false], .int .i64 0, .int .i64 q, .int .i64 x] from rfl]
        clear hr hx
        go_wp2_with fail
        refine bodyPost_ret (v := .tuple #[.slice none 0 0, .int .i64 x]) (by simp [results, Tryz.results118, go_sem]) rfl ⟨?_, HF2.out.alloc _⟩
        rw [hA.out]
        rfl
      | ok tnk =>
        obtain ⟨⟨t1, t2, t3⟩, n, k⟩ := tnk
        rw [show rReadV q (.ok (⟨t1, t2, t3⟩, n, k)) = .tuple #[.agg #[.int .i64 t1, .int .i64 t2, .bool t3], .int .i64 n, .int .i64 ((q + k : Nat) : Int), .int .i64 0] from rfl]
        have hk := (readS_le hr).1
        have hn16 := (readS_le hr).2
        have hkp := readS_pos hr
        rw [List.length_drop] at hk
        by_cases h3 : (l.drop q).length - k < n
        · have hA := Lib.hid (HE.out 3 (allS_err HNE.out (one_end hr h3)))
          rw [List.length_drop] at h3
          obtain ⟨s, hs⟩ : ∃ s, s = q + k := ⟨_, rfl⟩
          rw [← hs]
          have q3 : (l.length : Int) - (s : Int) < (n : Int) := by omega
          have hsl : s ≤ l.length := by omega
          clear hr hs
          go_wp2_with fail
          refine bodyPost_ret (v := .tuple #[.slice none 0 0, .int .i64 3]) (by simp [results, Tryz.results118, go_sem]) rfl ⟨?_, HF2.out.alloc _⟩
          rw [hA.out]
          rfl
        · have hA := Lib.hid (allS_ok HNE.out (one_ok hr h3))
          rw [List.length_drop] at h3
          obtain ⟨s, hs⟩ : ∃ s, s = q + k := ⟨_, rfl⟩
          rw [← hs]
          obtain ⟨r, hrr⟩ : ∃ r, r = s + n := ⟨_, rfl⟩
          have q3 : ¬ (l.length : Int) - (s : Int) < (n : Int) := by omega
          have hsl : s ≤ l.length := by omega
          have hsi : (s : Int) + (n : Int) = (r : Int) := by omega
          have hwi : IntKind.i64.wrap (r : Int) = (r : Int) := by simp [IntKind.wrap, IntKind.signed, IntKind.bits]; omega
          have r0 : (0 : Int) ≤ (q : Int) := by omega
          have r1 : (0 : Int) ≤ (r : Int) := by omega
          have r2 : (q : Int) ≤ (r : Int) := by omega
          have r2N : q ≤ r := by omega
          have r3 : (r : Int) ≤ (cap : Int) := by omega
          have r3N : r ≤ cap := by omega
          have hql2 : q ≤ cap := by omega
          have hrl : r ≤ l.length := by omega
          have hrk : r = q + (k + n) := by omega
          have hqr : q < r := by omega
          have HRK := Lib.hid hrk
          obtain ⟨A, hA2⟩ : ∃ A, A = Option.map (fun x => x.add q) a := ⟨_, rfl⟩
          obtain ⟨cp, hcp⟩ : ∃ cp, cp = cap - q := ⟨_, rfl⟩
          obtain ⟨rm, hrm⟩ : ∃ rm, rm = r - q := ⟨_, rfl⟩
          obtain ⟨gg, hgg⟩ : ∃ gg, gg = w2.heap.size + 1 := ⟨_, rfl⟩
          have BU := Blk.new (w2.alloc (.cells #[.int .i64 t1, .int .i64 t2, .bool t3] 36)) 23 #[.slice A rm cp]
          rw [World.size_alloc, ← hgg] at BU
          have F3 : Fr (fun _ => False) w2 ((w2.alloc (.cells #[.int .i64 t1, .int .i64 t2, .bool t3] 36)).alloc (.cells #[.slice A rm cp] 23)) := ((Fr.refl w2).alloc _).alloc _
          obtain ⟨v', w', hrun, ho7, F7, -⟩ := append_one (ownsRow_fr HOW2.out F3 (fun _ _ h => h)) gg _ BU rfl (by omega) ((HF2.out.trans F3).size)
          obtain ⟨a7, n7, c7, rfl, hn7⟩ := own_shape ho7
          subst hn7
          have HF7 := Lib.hid ((HF2.out.trans F3).trans' F7 (fun i hi e => absurd hi (by have := (hv.out i e).1; omega)))
          have HO7 := Lib.hid ho7
          have HRUN := Lib.hid hrun
          replace hA2 := hA2.symm
          replace hcp := hcp.symm
          replace hrm := hrm.symm
          have HGG := Lib.hid hgg
          clear hr hs hrr hrk hgg BU F3 hrun F7 ho7
          go_wp2_with (at_builtin; refine wpList_append_run (by rfl) (.tmp 32) (.tmp 39) 137 (by rfl) _ w' (by have h := HRUN.out; rw [HGG.out] at h; exact h) ?_)
          go_roundg (l.length - r)
          case measure => rw [HG.out]; omega
          refine ⟨r, a7, m + 1, c7, xs ++ [.slice A rm cp], rfl, hrl, by omega, rfl, rfl, HO7.out, HF7.out, fun e h => ?_, fun ls h => ?_⟩
          · rw [HRK.out, ← List.drop_drop] at h
            exact HE.out e (by rw [hA.out, h])
          · rw [HRK.out, ← List.drop_drop] at h
            obtain ⟨ls', h1, h2⟩ := HO.out _ (by rw [hA.out, h])
            exact ⟨ls', h1, by rw [h2]; simp only [List.length_cons]; omega⟩
    · have q1 : ¬ (q : Int) < (l.length : Int) := by omega
      have hd : l.drop q = [] := List.drop_eq_nil_of_le (by omega)
      obtain ⟨ls', h1, h2⟩ := HO.out [] (by rw [hd]; rfl)
      have H1 := Lib.hid h1
      have H2 := Lib.hid h2
      clear h1 h2 hd
      go_wp2_with fail
      refine bodyPost_ret (v := .tuple #[.slice a2 m c2, .int .i64 0]) (by simp [results, Tryz.results118, go_sem]) rfl ⟨?_, HF.out⟩
      rw [H1.out]
      exact ⟨a2, c2, by rw [H2.out]; simp⟩
end Go.Proofs.YtgffhiopbnkjbaaGreatDoor

namespace Go.Q
open Go Go.RowKit
theorem up7_zero (f : Nat) : up7 f 0 = [] := by cases f <;> simp [up7]
theorem up7_ge : ∀ (f m : Nat), m < 128 ^ f → up7 (f + 1) m = up7 f m
  | 0, m, h => by simp at h; subst h; simp [up7]
  | f + 1, m, h => by
    by_cases h0 : m = 0
    · subst h0; simp [up7]
    · have ih := up7_ge f (m / 128) (by rw [Nat.pow_succ] at h; omega)
      rw [up7, if_neg h0, ih]
      rw [up7, if_neg h0]
theorem base128_small {n : Nat} (h : n < 128) : base128 n = [UInt8.ofNat n] := by
  unfold base128
  rw [show n / 128 = 0 from by omega, up7_zero, show n % 128 = n from by omega]
  rfl
theorem base128_step {n : Nat} (h : 128 ≤ n) (hn : n ≤ 2147483647) : ∃ front : List UInt8, base128 (n / 128) = front ++ [UInt8.ofNat (n / 128 % 128)] ∧ base128 n = front ++ [UInt8.ofNat (n / 128 % 128 + 128)] ++ [UInt8.ofNat (n % 128)] := by
  refine ⟨(up7 5 (n / 128 / 128)).reverse, by simp [base128], ?_⟩
  have e : up7 5 (n / 128) = UInt8.ofNat (n / 128 % 128 + 128) :: up7 4 (n / 128 / 128) := by rw [up7, if_neg (by omega)]
  have e2 : up7 5 (n / 128 / 128) = up7 4 (n / 128 / 128) := up7_ge 4 _ (Nat.lt_of_le_of_lt (show n / 128 / 128 ≤ 131071 by omega) (by decide))
  unfold base128
  rw [e, e2]
  simp
/-- Setting a cell of a row of one's own. -/
theorem own_set {w : World} {base n : Nat} {e : TypeId} {a : Option Addr} {m c : Nat} {xs : List Value} (h : w.ownsRow base e 1 (.slice a m c) n xs) (i : Nat) (hi : i < n) (u : Value) :
    ∃ g, a = some ⟨g, 0, none⟩ ∧ base ≤ g ∧ g < w.heap.size ∧ m = n ∧ n ≤ c ∧ c ≤ maxLen ∧ w.frozen? ⟨g, i, none⟩ = false ∧ w.cell? ⟨g, i, none⟩ = xs[i]? ∧ (w.setCell ⟨g, i, none⟩ u).ownsRow base e 1 (.slice a m c) n (xs.set i u) ∧ Fr (fun k => k = g) w (w.setCell ⟨g, i, none⟩ u) := by
  obtain ⟨h1, h2⟩ := h
  rcases h2 with ⟨he, h0⟩ | ⟨g, cap, cur, he, hg, hh, hnc, hcm, hcs, htk⟩
  · omega
  · simp only [Value.slice.injEq] at he
    obtain ⟨rfl, rfl, rfl⟩ := he
    have B : Blk w g e cur := hh
    simp only [Nat.mul_one] at h1 hcs htk
    refine ⟨g, rfl, hg, B.lt, rfl, hnc, hcm, B.frozen i, ?_, ⟨by simpa using h1, .inr ⟨g, c, cur.setIfInBounds i u, rfl, hg, B.set i u, hnc, hcm, by simpa using hcs, ?_⟩⟩, Fr.setCell (S := fun k => k = g) (p := ⟨g, i, none⟩) (Fr.refl w) (fun _ => rfl) _⟩
    · rw [B.cell, ← htk, List.getElem?_take, if_pos hi, Array.getElem?_toList]
    · rw [Nat.mul_one, Array.toList_setIfInBounds, ← htk, List.take_set]
end Go.Q

namespace Go.Proofs.YtgffhiopbnkjbaaGreatDoor
open Go Go.RowKit Go.Q
set_option linter.unusedSimpArgs false

set_option maxRecDepth 20000 in
theorem r02Of_any (n : Int) (w : World) :
    Calls Tryz.prog 15 #[.int .i64 n] w fun e w' => e = .returned (tagV (tagOf n)) ∧ Fr (fun _ => False) w w' := by
  rcases Classical.em (n = 16) with h | h
  case' inl => subst h
  case' inr => have h16 : (n == 16) = false := beq_eq_false_iff_ne.2 h
  case' inl =>
    go_enter Tryz.func15, Tryz.ntmps15
    go_wp2_with fail
    exact bodyPost_ret (v := tagV ⟨0, 16, true⟩) (by simp [results, Tryz.results15, go_sem, tagV]) rfl ⟨rfl, (Fr.refl w).alloc _⟩
  case' inr =>
    go_enter Tryz.func15, Tryz.ntmps15
    go_wp2_with fail
    exact bodyPost_ret (v := tagV ⟨0, n, n == 17⟩) (by simp [results, Tryz.results15, go_sem, tagV]) rfl ⟨by simp [tagOf, tagV, h16], (Fr.refl w).alloc _⟩

set_option maxRecDepth 20000 in
theorem r02Length_any (n : Nat) (hn : n ≤ 16777216) (w : World) :
    Calls Tryz.prog 51 #[.int .i64 n] w fun e w' => ∃ v, e = .returned v ∧ w'.ownsRow w.heap.size 5 1 v (lenBytes n).length (Lib.byteCells (lenBytes n)) ∧ Fr (fun _ => False) w w' := by
  have key : ∀ cs : Array Value, cs = (Lib.byteCells (lenBytes n)).toArray → (lenBytes n).length ≤ 5 → (w.alloc (.cells cs 5)).ownsRow w.heap.size 5 1 (.slice (some ⟨w.heap.size, 0, none⟩) (lenBytes n).length (lenBytes n).length) (lenBytes n).length (Lib.byteCells (lenBytes n)) ∧ Fr (fun _ => False) w (w.alloc (.cells cs 5)) := by
    rintro cs rfl h5
    exact ⟨own_bytes (Blk.new w 5 _) (by omega) _ (Nat.le_refl _), (Fr.refl w).alloc _⟩
  by_cases h1 : n < 128
  · have q1 : (n : Int) < 128 := by omega
    have hL : lenBytes n = [UInt8.ofNat n] := by simp [lenBytes, h1]
    rw [hL] at key ⊢
    have HK := Lib.hid key
    clear key hL
    go_enter Tryz.func51, Tryz.ntmps51
    go_wp2_with fail
    go_ret
    refine ⟨_, rfl, HK.out _ ?_ (by simp)⟩
    simp [Lib.byteCells, IntKind.wrap, IntKind.signed, IntKind.bits]
    try omega
  have q1 : ¬ (n : Int) < 128 := by omega
  by_cases h2 : n < 256
  · have q2 : (n : Int) < 256 := by omega
    have hL : lenBytes n = [129, UInt8.ofNat n] := by simp [lenBytes, h1, h2]
    rw [hL] at key ⊢
    have HK := Lib.hid key
    clear key hL
    go_enter Tryz.func51, Tryz.ntmps51
    go_wp2_with fail
    go_ret
    refine ⟨_, rfl, HK.out _ ?_ (by simp)⟩
    simp [Lib.byteCells, IntKind.wrap, IntKind.signed, IntKind.bits]
    try omega
  have q2 : ¬ (n : Int) < 256 := by omega
  by_cases h3 : n < 65536
  · have q3 : (n : Int) < 65536 := by omega
    have hL : lenBytes n = [130, UInt8.ofNat (n / 256), UInt8.ofNat (n % 256)] := by simp only [lenBytes, h1, h2, h3, if_true, if_false]
    rw [hL] at key ⊢
    have HK := Lib.hid key
    clear key hL
    go_enter Tryz.func51, Tryz.ntmps51
    go_wp2_with fail
    go_ret
    refine ⟨_, rfl, HK.out _ ?_ (by simp)⟩
    simp [Lib.byteCells, IntKind.wrap, IntKind.signed, IntKind.bits]
    try omega
  have q3 : ¬ (n : Int) < 65536 := by omega
  by_cases h4 : n < 16777216
  · have q4 : (n : Int) < 16777216 := by omega
    have hL : lenBytes n = [131, UInt8.ofNat (n / 65536), UInt8.ofNat (n / 256 % 256), UInt8.ofNat (n % 256)] := by simp only [lenBytes, h1, h2, h3, h4, if_true, if_false]
    rw [hL] at key ⊢
    have HK := Lib.hid key
    clear key hL
    go_enter Tryz.func51, Tryz.ntmps51
    go_wp2_with fail
    go_ret
    refine ⟨_, rfl, HK.out _ ?_ (by simp)⟩
    simp [Lib.byteCells, IntKind.wrap, IntKind.signed, IntKind.bits]
    try omega
  have q4 : ¬ (n : Int) < 16777216 := by omega
  · have hL : lenBytes n = [132, UInt8.ofNat (n / 16777216), UInt8.ofNat (n / 65536 % 256), UInt8.ofNat (n / 256 % 256), UInt8.ofNat (n % 256)] := by simp only [lenBytes, h1, h2, h3, h4, if_false]
    rw [hL] at key ⊢
    have HK := Lib.hid key
    clear key hL
    go_enter Tryz.func51, Tryz.ntmps51
    go_wp2_with fail
    go_ret
    refine ⟨_, rfl, HK.out _ ?_ (by simp)⟩
    simp [Lib.byteCells, IntKind.wrap, IntKind.signed, IntKind.bits]
    try omega

set_option maxRecDepth 20000 in
theorem r02Bytes_any (t : Tag) (h : tagGood t) (w : World) :
    Calls Tryz.prog 50 #[tagV t] w fun e w' => ∃ v, e = .returned v ∧ w'.ownsRow w.heap.size 5 1 v 1 (Lib.byteCells [tagByte t]) ∧ Fr (fun _ => False) w w' := by
  have hv := tagByte_val h
  have key : ∀ (w' : World) (cs : Array Value), cs = (Lib.byteCells [tagByte t]).toArray → Fr (fun _ => False) w w' → (w'.alloc (.cells cs 5)).ownsRow w.heap.size 5 1 (.slice (some ⟨w'.heap.size, 0, none⟩) 1 1) 1 (Lib.byteCells [tagByte t]) ∧ Fr (fun _ => False) w (w'.alloc (.cells cs 5)) := by
    rintro w' cs rfl F
    exact ⟨own_bytes (l := [tagByte t]) (Blk.new w' 5 _) (by simp) _ F.size, F.alloc _⟩
  obtain ⟨⟨h1, h2⟩, h3, h4⟩ := h
  obtain ⟨c, n, m⟩ := t
  simp only at h1 h2 h3 h4
  have HV := Lib.hid hv
  have HK := Lib.hid key
  have B := Blk.new w 36 #[.int .i64 c, .int .i64 n, .bool m]
  have F0 : Fr (fun _ => False) w (w.alloc (.cells #[.int .i64 c, .int .i64 n, .bool m] 36)) := (Fr.refl w).alloc _
  have q1 : n < 31 := h4
  clear hv key
  rw [show tagV ⟨c, n, m⟩ = .agg #[.int .i64 c, .int .i64 n, .bool m] from rfl]
  cases m
  all_goals
    go_enter Tryz.func50, Tryz.ntmps50
    go_upto_region 1 with fail
    generalize hz : w.heap.size = z at B ⊢
    have HZ := Lib.hid hz
    generalize (w.alloc (.cells _ 36)) = w0 at *
    clear hz
    have S := B.cell
    go_wp2_with fail
    go_ret
    refine ⟨_, rfl, ?_⟩
    rw [← HZ.out]
    refine HK.out _ _ ?_ F0
    have := HV.out
    simp at this
    simp [Lib.byteCells, IntKind.wrap, IntKind.signed, IntKind.bits, this]
    try omega

set_option maxRecDepth 20000 in
theorem r02Wrap_any (t : Tag) (ht : tagGood t) (v : Value) (l : List UInt8) (w : World) (hv : Bytes w v l) (hl : l.length ≤ 16777216) :
    Calls Tryz.prog 14 #[tagV t, v] w fun e w' => ∃ v', e = .returned v' ∧ w'.ownsRow w.heap.size 5 1 v' (wrapS t l).length (Lib.byteCells (wrapS t l)) ∧ Fr (fun _ => False) w w' := by
  obtain ⟨a, cap, rfl, -⟩ := hv.form
  have HB := Lib.hid hv
  have HT := Lib.hid ht
  obtain ⟨N, hN⟩ : ∃ N, N = l.length := ⟨_, rfl⟩
  have HN := Lib.hid hN
  rw [← hN] at hl ⊢
  obtain ⟨c, n, m⟩ := t
  have B := Blk.new w 36 #[.int .i64 c, .int .i64 n, .bool m]
  have F0 : Fr (fun _ => False) w (w.alloc (.cells #[.int .i64 c, .int .i64 n, .bool m] 36)) := (Fr.refl w).alloc _
  obtain ⟨z, hz⟩ : ∃ z, z = w.heap.size := ⟨_, rfl⟩
  rw [← hz] at B
  have HZ := Lib.hid hz
  clear hz hv ht hN
  rw [show tagV ⟨c, n, m⟩ = .agg #[.int .i64 c, .int .i64 n, .bool m] from rfl]
  go_enter Tryz.func14, Tryz.ntmps14
  go_upto_region 1 with fail
  rw [← HZ.out]
  generalize (w.alloc (.cells #[.int .i64 c, .int .i64 n, .bool m] 36)) = w0 at *
  have S := B.cell
  go_wp2_with fail
  refine (r02Bytes_any ⟨c, n, m⟩ HT.out w0).mono ?_
  rintro e w1 ⟨vb, rfl, hob, F1⟩
  have G1 := F0.trans F1
  have hob' := own_le hob F0.size
  obtain ⟨ab, cb, rfl, -⟩ := (Vals.of_own hob').1.form
  have HOB := Lib.hid hob'
  clear hob hob' F0 F1 B S
  go_wp2_with fail
  refine (r02Length_any N hl w1).mono ?_
  rintro e w2 ⟨vd, rfl, hod, F2⟩
  have G2 := G1.trans F2
  have hb0 : w.heap.size ≤ w2.heap.size := G2.size
  have ho1 := ownsRow_fr HOB.out F2 (fun _ _ h => h)
  have hvd := (Vals.of_own hod).1
  obtain ⟨ad, cd, rfl, -⟩ := hvd.form
  obtain ⟨v3, w3, hr3, ho3, F3, _⟩ := append_bytes ho1 ad _ cd (lenBytes N) hvd (by have := len_small N hl; simp; omega) hb0
  have hvb := (Vals.of_own ho1).2
  have G3 := G2.trans' F3 (fun i hi e => absurd hi (by have := hvb i e; omega))
  have hll : (Lib.byteCells (lenBytes N)).length = (lenBytes N).length := byteCells_len _
  obtain ⟨a3, c3, rfl, -⟩ := (Vals.of_own ho3).1
  have hb3 : w.heap.size ≤ w3.heap.size := G3.size
  obtain ⟨v4, w4, hr4, ho4, F4, _⟩ := append_bytes ho3 a _ cap l (HB.out.old G3) (by have := len_small N hl; have := HN.out; simp; omega) hb3
  have hvb4 := (Vals.of_own ho3).2
  have G4 := G3.trans' F4 (fun i hi e => absurd hi (by have := hvb4 i e; omega))
  rw [← HN.out] at hr4 ho4
  have HO4 := Lib.hid ho4
  have HG4 := Lib.hid G4
  clear hod G2 ho1 hvd ho3 F3 hvb G3 F2 F4 hvb4 G4 ho4
  generalize (Lib.byteCells ([tagByte ⟨c, n, m⟩] ++ lenBytes N)).length = L3 at *
  go_wp2_with (at_builtin; first
    | refine wpList_append_run (by rfl) (.tmp 7) (.tmp 10) 23 (by rfl) _ w3 (by exact hr3) ?_
    | refine wpList_append_run (by rfl) (.tmp 12) (.tmp 13) 23 (by rfl) _ w4 (by exact hr4) ?_)
  go_ret
  refine ⟨_, rfl, ?_, HG4.out⟩
  have := HO4.out
  have e : wrapS ⟨c, n, m⟩ l = [tagByte ⟨c, n, m⟩] ++ lenBytes N ++ l := by rw [wrapS, ← HN.out]; simp
  rw [wrap_len, ← HN.out, e]
  exact this
end Go.Proofs.YtgffhiopbnkjbaaGreatDoor

namespace Go.Proofs.YtgffhiopbnkjbaaGreatDoor
open Go Go.RowKit Go.Q
set_option linter.unusedSimpArgs false

set_option maxRecDepth 20000 in
set_option maxHeartbeats 2000000 in
theorem r04digits_any : ∀ (n : Nat), n ≤ 2147483647 → ∀ (w : World),
    Calls Tryz.prog 205 #[.int .i64 n] w fun e w' => ∃ v, e = .returned v ∧ w'.ownsRow w.heap.size 5 1 v (base128 n).length (Lib.byteCells (base128 n)) ∧ Fr (fun _ => False) w w' := by
  intro n
  induction n using Nat.strongRecOn with
  | _ n ih =>
  intro hn w
  by_cases h128 : n < 128
  · have q1 : (n : Int) < 128 := by omega
    have hL := base128_small h128
    rw [hL]
    have hw8 : IntKind.u8.wrap (n : Int) = (n : Int) := by simp [IntKind.wrap, IntKind.signed, IntKind.bits]; omega
    have hk : (w.alloc (.cells #[.int .u8 n] 5)).ownsRow w.heap.size 5 1 (.slice (some ⟨w.heap.size, 0, none⟩) 1 1) 1 (Lib.byteCells [UInt8.ofNat n]) := by
      have e8 := u8 n (by omega)
      have BX := Blk.new w 5 #[.int .u8 n]
      have BX' : Blk (w.alloc (.cells #[.int .u8 n] 5)) w.heap.size 5 (Lib.byteCells [UInt8.ofNat n]).toArray := by
        simpa [Lib.byteCells, e8] using BX
      exact own_bytes BX' (by simp) w.heap.size (Nat.le_refl _)
    have HK := Lib.hid hk
    clear hk hL ih
    go_enter Tryz.func205, Tryz.ntmps205
    go_wp2_with fail
    go_ret
    exact ⟨_, rfl, HK.out, (Fr.refl w).alloc _⟩
  · have q1 : ¬ (n : Int) < 128 := by omega
    obtain ⟨front, e1, e2⟩ := base128_step (n := n) (by omega) hn
    have HC := Lib.hid (ih (n / 128) (by omega) (by omega) w)
    have hq : (n : Int) / 128 = ((n / 128 : Nat) : Int) := by omega
    have HE1 := Lib.hid e1
    have HE2 := Lib.hid e2
    obtain ⟨y, hy⟩ : ∃ y, y = n / 128 % 128 := ⟨_, rfl⟩
    have hyl : y < 128 := by omega
    rw [← hy] at HE1 HE2
    obtain ⟨r, hr⟩ : ∃ r, r = n % 128 := ⟨_, rfl⟩
    have hrl : r < 128 := by omega
    rw [← hr] at HE2
    have hri : (n : Int) % 128 = (r : Int) := by omega
    have hw8 : IntKind.u8.wrap (r : Int) = (r : Int) := by simp [IntKind.wrap, IntKind.signed, IntKind.bits]; omega
    have hw9 : IntKind.u8.wrap ((y : Int) + 128) = (y : Int) + 128 := by simp [IntKind.wrap, IntKind.signed, IntKind.bits]; omega
    generalize n / 128 = m at *
    clear ih e1 e2 hy hr
    go_enter Tryz.func205, Tryz.ntmps205
    go_wp2_with fail
    refine HC.out.mono ?_
    rintro e w1 ⟨v, rfl, ho, F1⟩
    obtain ⟨a, l, c, rfl, rfl⟩ := own_shape ho
    rw [HE1.out] at ho
    have hbl : (base128 m).length = front.length + 1 := by rw [HE1.out]; simp
    rw [hbl]
    have hcells : Lib.byteCells (front ++ [UInt8.ofNat y]) = Lib.byteCells front ++ [.int .u8 y] := by
      have := u8 y (by omega)
      simp [Lib.byteCells, this]
    have hlen : (front ++ [UInt8.ofNat y]).length = front.length + 1 := by simp
    rw [hlen, hcells] at ho
    obtain ⟨g, rfl, hg1, hg2, -, hlc, hcm, hfz, hcell, hset, F2⟩ := own_set ho front.length (by omega) (.int .u8 ((y : Int) + 128))
    have hfl : (Lib.byteCells front).length = front.length := byteCells_len front
    rw [List.getElem?_append_right (by omega), hfl, Nat.sub_self] at hcell
    simp only [List.getElem?_cons_zero] at hcell
    have hcells2 : (Lib.byteCells front ++ [Value.int .u8 y]).set front.length (.int .u8 ((y : Int) + 128)) = Lib.byteCells (front ++ [UInt8.ofNat (y + 128)]) := by
      have := u8 (y + 128) (by omega)
      rw [List.set_append_right _ _ (by omega), hfl, Nat.sub_self]
      simp [Lib.byteCells, this]
      try omega
    rw [hcells2] at hset
    have HSET := Lib.hid hset
    have HF2 := Lib.hid (F1.trans' F2 (fun i hi e => by omega))
    have hi1 : ((front.length + 1 : Nat) : Int) - 1 = (front.length : Int) := by omega
    have hln : front.length < 1000 := by
      have : (base128 m).length ≤ 6 := by
        unfold base128
        have h5 := up7_len 5 (m / 128)
        simp only [List.length_reverse, List.length_cons]
        omega
      omega
    clear ho hset F1 F2 HC hcells hcells2 hlen hbl hfl
    go_upto_region 5 with fail
    generalize (w1.setCell ⟨g, front.length, none⟩ (.int .u8 ((y : Int) + 128))) = w2 at *
    have BX := Blk.new w2 5 #[.int .u8 r]
    have F3 : Fr (fun _ => False) w2 (w2.alloc (.cells #[.int .u8 r] 5)) := (Fr.refl w2).alloc _
    have hsrc : Bytes (w2.alloc (.cells #[.int .u8 r] 5)) (.slice (some ⟨w2.heap.size, 0, none⟩) 1 1) [UInt8.ofNat r] := by
      have e8 := u8 r (by omega)
      have BX' : Blk (w2.alloc (.cells #[.int .u8 r] 5)) w2.heap.size 5 (Lib.byteCells [UInt8.ofNat r]).toArray := by
        simpa [Lib.byteCells, e8] using BX
      exact Vals.of_block BX' (by simp [Lib.byteCells]; unfold maxLen; omega)
    have hs2 := HF2.out.size
    obtain ⟨v4, w4, hr4, ho4, F4, _⟩ := append_bytes (ownsRow_fr HSET.out F3 (fun _ _ h => h)) (some ⟨w2.heap.size, 0, none⟩) 1 1 [UInt8.ofNat r] hsrc (by omega) (Nat.le_trans hs2 F3.size)
    have hvb := (Vals.of_own HSET.out).2
    have HF4 := Lib.hid ((HF2.out.trans F3).trans' F4 (fun i hi e => by have := hvb i e; omega))
    obtain ⟨a4, c4, rfl, -⟩ := (Vals.of_own ho4).1
    rw [← HE2.out] at ho4 hr4
    have hbn : (base128 n).length = front.length + 1 + 1 := by rw [HE2.out]; simp
    rw [← hbn] at ho4
    have HO4 := Lib.hid ho4
    have HRUN := Lib.hid hr4
    clear ho4 hr4 F4 F3 hvb BX hsrc hbn HF2 HSET
    go_wp2_with (at_builtin; refine wpList_append_run (by rfl) (.tmp 24) (.tmp 28) 23 (by rfl) _ w4 (by exact HRUN.out) ?_)
    exact bodyPost_ret (v := .slice a4 (Lib.byteCells (base128 n)).length c4) (by simp [results, Tryz.results205, go_sem]) rfl ⟨_, rfl, HO4.out, HF4.out⟩

set_option maxRecDepth 20000 in
set_option maxHeartbeats 2000000 in
theorem r04Contents_any (v : Value) (o : List Int) (w : World) (h : Ints w v o) (ho : oidOk o = true) :
    Calls Tryz.prog 159 #[v] w fun e w' => ∃ v', e = .returned v' ∧ w'.ownsRow w.heap.size 5 1 v' (oidBytes o).length (Lib.byteCells (oidBytes o)) ∧ Fr (fun _ => False) w w' := by
  obtain ⟨hnm, hol, hol2, hno⟩ := nums_ok ho
  obtain ⟨a, cap, rfl, -, -, hx⟩ := Ints.form h
  obtain ⟨b, off, rfl, hy⟩ := hx (by omega)
  obtain ⟨x0, hx0⟩ : ∃ x, o[0]? = some x := ⟨_, List.getElem?_eq_getElem (by omega)⟩
  obtain ⟨x1, hx1⟩ : ∃ x, o[1]? = some x := ⟨_, List.getElem?_eq_getElem (by omega)⟩
  have e0 := hy 0 x0 hx0
  have e1 := hy 1 x1 hx1
  obtain ⟨N, hN⟩ : ∃ N, N = numsS o := ⟨_, rfl⟩
  have hN0 : N[0]? = some (40 * x0 + x1) := by rw [hN]; simp [numsS, List.getD, hx0, hx1]
  have hNs : ∀ i, N[i + 1]? = o[i + 2]? := fun i => by
    rw [hN]
    simp only [numsS, List.getElem?_cons_succ, List.getElem?_drop]
    congr 1
    omega
  have hob : oidBytes o = N.flatMap fun n => base128 n.toNat := by rw [hN]; rfl
  rw [← hN] at hnm hno
  rw [hob]
  have h0 := hno _ (List.mem_of_getElem? hN0)
  obtain ⟨m, hm⟩ : ∃ m : Nat, 40 * x0 + x1 = (m : Int) := ⟨(40 * x0 + x1).toNat, by omega⟩
  have hml : m ≤ 2147483647 := by omega
  have hft1 : ((N.take 1).flatMap fun n => base128 n.toNat) = base128 m := by
    have : N.take 1 = [(m : Int)] := by
      rw [show (1 : Nat) = 0 + 1 from rfl, List.take_add_one, hN0, hm]
      rfl
    rw [this]
    simp
  have hwm : 40 * x0 ≤ 4611686018427387904 ∧ -4611686018427387904 ≤ 40 * x0 := by
    have g : ∀ i, i < o.length → arcOk (o.getD i 0) = true := fun i hi => by
      simp only [oidOk, Bool.and_eq_true, decide_eq_true_eq] at ho
      rw [List.getD_eq_getElem?_getD, List.getElem?_eq_getElem hi]
      exact List.all_eq_true.1 ho.1.2 _ (List.getElem_mem hi)
    have g0 := g 0 (by omega)
    simp only [arcOk, List.getD, hx0, Option.getD_some, decide_eq_true_eq] at g0
    omega
  obtain ⟨M, hM⟩ : ∃ M, M = (N.flatMap fun n => base128 n.toNat).length := ⟨_, rfl⟩
  rw [← hM]
  have HM := Lib.hid hM
  clear hM
  have HY := Lib.hid hy
  have HNO := Lib.hid hno
  have HNS := Lib.hid hNs
  have HFT1 := Lib.hid hft1
  have r2 : ¬ (o.length : Int) < 2 := by omega
  have r0 : (0 : Int) < (o.length : Int) := by omega
  have r1 : (1 : Int) < (o.length : Int) := by omega
  have r0N : 0 < o.length := by omega
  have r1N : 1 < o.length := by omega
  have hw1 : IntKind.i64.wrap (40 * x0) = 40 * x0 := by simp [IntKind.wrap, IntKind.signed, IntKind.bits]; omega
  have hw2 : IntKind.i64.wrap (m : Int) = (m : Int) := by simp [IntKind.wrap, IntKind.signed, IntKind.bits]; omega
  simp only [Nat.add_zero] at e0
  have G : Fr (fun _ => False) w w.drew := (Fr.refl w).drew
  clear h hx hy hx0 hx1 hN0 hNs hN hob h0 hno hft1 ho
  go_enter Tryz.func159, Tryz.ntmps159
  go_upto_region 3 with fail
  have E0 : w.drew.cell? ⟨b, off, none⟩ = some (.int .i64 x0) := e0
  have E1 : w.drew.cell? ⟨b, off + 1, none⟩ = some (.int .i64 x1) := e1
  go_region_held3 (fun w' => w'.cell? ⟨b, off, none⟩ = some (.int .i64 x0) ∧ w'.cell? ⟨b, off + 1, none⟩ = some (.int .i64 x1)) (exact ⟨E0, E1⟩) (first | (go_at_call 205; (try rw [hw2]); refine (r04digits_any m hml _).mono ?_; rintro e w' ⟨v, rfl, hv, F⟩; obtain ⟨av, mv, cv, rfl, rfl⟩ := own_shape hv; replace E0 := F.cell E0 (fun h => h); replace E1 := F.cell E1 (fun h => h); replace G := G.trans F))
  all_goals
    rw [World.size_drew] at hv
    have HV := Lib.hid hv
    have HG0 := Lib.hid G
    obtain ⟨L0, hL0⟩ : ∃ L0, L0 = (base128 m).length := ⟨_, rfl⟩
    rw [← hL0] at HV ⊢
    have HL0 := Lib.hid hL0
    clear hv G F E0 E1 e0 e1 hL0
    go_wp2_with fail
    go_loopg [3, 4] (o.length - 1) (fun g u i wr => ∃ (j : Nat) (L : Nat) (a1 : Option Addr) (c1 : Nat), g = o.length - j ∧ 1 ≤ j ∧ j + 1 ≤ o.length ∧ u = .slice a1 L c1 ∧ i = .int .i64 ((j : Int) + 1) ∧ L = ((N.take j).flatMap fun n => base128 n.toNat).length ∧ wr.ownsRow w.heap.size 5 1 (.slice a1 L c1) L (Lib.byteCells ((N.take j).flatMap fun n => base128 n.toNat)) ∧ Fr (fun _ => False) w wr)
    case atStart => exact ⟨1, L0, av, cv, rfl, Nat.le_refl _, by omega, rfl, rfl, by rw [HFT1.out, HL0.out], by rw [HFT1.out]; exact HV.out, HG0.out⟩
    case round =>
      obtain ⟨j, L, a1, c1, hg, hj1, hj2, rfl, rfl, hL, ho1, F1⟩ := hrel
      have HG := Lib.hid hg
      have HO1 := Lib.hid ho1
      have HF1 := Lib.hid F1
      have HL := Lib.hid hL
      have hLl : L ≤ 2000 := by
        have h1 := flat128_len (N.take j)
        rw [← hL, List.length_take] at h1
        omega
      clear hg ho1 hL
      by_cases hjl : j + 1 < o.length
      · obtain ⟨x, hxj⟩ : ∃ x, o[j + 1]? = some x := ⟨_, List.getElem?_eq_getElem hjl⟩
        have ex := F1.cell (HY.out (j + 1) x hxj) (fun h => h)
        have hNj : N[j]? = some x := by
          have := HNS.out (j - 1)
          rw [show j - 1 + 1 = j from by omega, show j - 1 + 2 = j + 1 from by omega, hxj] at this
          exact this
        have hxb := HNO.out x (List.mem_of_getElem? hNj)
        obtain ⟨y, hyx⟩ : ∃ y : Nat, x = (y : Int) := ⟨x.toNat, by omega⟩
        subst hyx
        have hft : ((N.take (j + 1)).flatMap fun n => base128 n.toNat) = ((N.take j).flatMap fun n => base128 n.toNat) ++ base128 y := by
          rw [List.take_add_one, hNj]
          simp
        have HFT := Lib.hid hft
        have q1 : (0 : Int) ≤ (j : Int) + 1 := by omega
        have q2 : (j : Int) + 1 < (o.length : Int) := by omega
        have hin : ((j : Int) + 1).toNat = j + 1 := by omega
        have HD := Lib.hid (r04digits_any y (by omega) wr)
        clear hxj hNj hft F1
        go_wp2_with fail
        refine HD.out.mono ?_
        rintro e w3 ⟨v3, rfl, ho3, F3⟩
        obtain ⟨a3, l3, c3, rfl, rfl⟩ := own_shape ho3
        have hs1 := HF1.out.size
        have hv3 := (Vals.of_own ho3).1
        have hbl := (base128_len y).1
        obtain ⟨v4, w4, hr4, ho4, F4, _⟩ := append_bytes (ownsRow_fr HO1.out F3 (fun _ _ h => h)) a3 (base128 y).length c3 (base128 y) hv3 (by omega) (Nat.le_trans hs1 F3.size)
        have hvb := (Vals.of_own HO1.out).2
        have HF4 := Lib.hid ((HF1.out.trans F3).trans' F4 (fun i hi e => by have := hvb i e; omega))
        obtain ⟨a4, m4, c4, rfl, rfl⟩ := own_shape ho4
        rw [← HFT.out] at ho4
        have HO4 := Lib.hid ho4
        have HRUN := Lib.hid hr4
        clear ho4 hr4 F4 F3 hvb ho3 hv3 HO1 HF1
        go_wp2_with (at_builtin; refine wpList_append_run (by rfl) (.tmp 23) (.tmp 28) 23 (by rfl) _ w4 (by exact HRUN.out) ?_)
        go_roundg (o.length - (j + 1))
        case measure => rw [HG.out]; omega
        case rel => exact ⟨j + 1, L + (base128 y).length, a4, c4, rfl, by omega, by omega, rfl, by go_num, by rw [HFT.out, List.length_append, ← HL.out], HO4.out, HF4.out⟩
      · have q2 : ¬ (j : Int) + 1 < (o.length : Int) := by omega
        have hall : N.take j = N := List.take_of_length_le (by omega)
        have hlo := HL.out
        have ho1 := HO1.out
        rw [hall] at hlo ho1
        have HO2 := Lib.hid ho1
        have HLO := Lib.hid hlo
        clear hall hlo ho1 HO1 HL
        go_wp2_with fail
        exact bodyPost_ret (v := .slice a1 L c1) (by simp [results, Tryz.results159, go_sem]) rfl ⟨_, rfl, by rw [HM.out, ← HLO.out]; exact HO2.out, HF1.out⟩

set_option maxRecDepth 20000 in
set_option maxHeartbeats 2000000 in
theorem r04Whole_any (v : Value) (o : List Int) (w : World) (h : Ints w v o) (ho : oidOk o = true) :
    Calls Tryz.prog 119 #[v] w fun e w' => ∃ v', e = .returned v' ∧ w'.ownsRow w.heap.size 5 1 v' (oidWhole o).length (Lib.byteCells (oidWhole o)) ∧ Fr (fun _ => False) w w' := by
  have hol := oidBytes_len (nums_ok ho).2.1
  have HB := Lib.hid h
  have HO := Lib.hid ho
  clear h ho
  go_enter Tryz.func119, Tryz.ntmps119
  go_wp2_with fail
  refine (r02Of_any 6 w).mono ?_
  rintro e w1 ⟨rfl, F1⟩
  have HF1 := Lib.hid F1
  rw [show tagV (tagOf 6) = .agg #[.int .i64 0, .int .i64 6, .bool false] from rfl]
  clear F1
  go_wp2_with fail
  refine (r04Contents_any v o w1 (HB.out.old HF1.out) HO.out).mono ?_
  rintro e w2 ⟨v2, rfl, ho2, F2⟩
  have hB2 := (Vals.of_own ho2).1
  obtain ⟨a2, c2, rfl, -⟩ := hB2.form
  have HB2 := Lib.hid hB2
  have HF2 := Lib.hid (HF1.out.trans F2)
  clear ho2 hB2 F2
  go_wp2_with fail
  refine (r02Wrap_any (tagOf 6) (good_of (by omega) (by omega)) _ (oidBytes o) w2 HB2.out (by omega)).mono ?_
  rintro e w3 ⟨v3, rfl, ho3, F3⟩
  obtain ⟨a3, m3, c3, rfl, rfl⟩ := own_shape ho3
  have HO3 := Lib.hid (own_le ho3 HF2.out.size)
  have HF3 := Lib.hid (HF2.out.trans F3)
  clear ho3 F3
  go_wp2_with fail
  exact bodyPost_ret (v := .slice a3 _ c3) (by simp [results, Tryz.results119, go_sem]) rfl ⟨_, rfl, HO3.out, HF3.out⟩
end Go.Proofs.YtgffhiopbnkjbaaGreatDoor

namespace Go.Q
open Go Go.RowKit
theorem cmpI_drop {o p : List Int} {j : Nat} {x y : Int} (hx : o[j]? = some x) (hy : p[j]? = some y) : cmpI (o.drop j) (p.drop j) = if x < y then -1 else if y < x then 1 else cmpI (o.drop (j + 1)) (p.drop (j + 1)) := by
  have h1 : o.drop j = x :: o.drop (j + 1) := by
    obtain ⟨h, rfl⟩ := List.getElem?_eq_some_iff.1 hx
    exact List.drop_eq_getElem_cons h
  have h2 : p.drop j = y :: p.drop (j + 1) := by
    obtain ⟨h, rfl⟩ := List.getElem?_eq_some_iff.1 hy
    exact List.drop_eq_getElem_cons h
  rw [h1, h2]
  rfl
/-- The text of a part, if it is of a type, and a text. -/
def partTextS (ks : List Int) (p : Part) : Option (List UInt8) :=
  if ks ≠ [] ∧ p.o ≠ ks then none else match textReadS p.b with
    | .ok (k, t, _) => some (utf8S k t)
    | .error _ => none
/-- The texts of a name. -/
def textsS (n : List (List Part)) (ks : List Int) : List (List UInt8) := if nameOk n = true then n.flatten.filterMap (partTextS ks) else []
theorem filterMap_next {l : List Part} {j : Nat} {p : Part} (ks : List Int) (h : l[j]? = some p) : (l.take (j + 1)).filterMap (partTextS ks) = (l.take j).filterMap (partTextS ks) ++ (partTextS ks p).toList := by
  rw [List.take_add_one, h, List.filterMap_append]
  cases hp : partTextS ks p <;> simp [hp]
end Go.Q
namespace Go.Proofs.YtgffhiopbnkjbaaGreatDoor
open Go Go.RowKit Go.Q

set_option maxRecDepth 20000 in
set_option maxHeartbeats 1000000 in
theorem sliceCompare_any (v u : Value) (o p : List Int) (w : World) (h : Ints w v o) (hu : Ints w u p) :
    Calls Tryz.prog 93 #[v, u] w fun e w' => e = .returned (.int .i64 (cmpI o p)) ∧ w = w' := by
  obtain ⟨a, cap, rfl, hc1, hm1, hx⟩ := Ints.form h
  obtain ⟨b, cbp, rfl, hc2, hm2, hy⟩ := Ints.form hu
  have HX := Lib.hid hx
  have HY := Lib.hid hy
  unfold maxLen at hm1 hm2
  clear h hu hx hy
  go_enter Tryz.func93, Tryz.ntmps93
  go_wp2_with fail
  go_loopg [11] o.length (fun g i wr => ∃ j : Nat, g = o.length - j ∧ j ≤ o.length ∧ j ≤ p.length ∧ i = .int .i64 j ∧ cmpI o p = cmpI (o.drop j) (p.drop j) ∧ wr = w)
  case atStart => exact ⟨0, rfl, Nat.zero_le _, Nat.zero_le _, rfl, rfl, rfl⟩
  case round =>
    obtain ⟨j, hg, hj, hjp, rfl, hE, rfl⟩ := hrel
    have HG := Lib.hid hg
    have HE := Lib.hid hE
    clear hg hE
    by_cases hjl : j < o.length
    · obtain ⟨ba, oa, rfl, ha⟩ := HX.out (by omega)
      obtain ⟨x, hxj⟩ : ∃ x, o[j]? = some x := ⟨_, List.getElem?_eq_getElem hjl⟩
      have e1 := ha j x hxj
      have r1 : (0 : Int) ≤ (j : Int) := by omega
      have r2 : (j : Int) < (o.length : Int) := by omega
      by_cases hjl2 : j < p.length
      · obtain ⟨bb, ob, rfl, hb⟩ := HY.out (by omega)
        obtain ⟨y, hyj⟩ : ∃ y, p[j]? = some y := ⟨_, List.getElem?_eq_getElem hjl2⟩
        have e2 := hb j y hyj
        have r3 : ¬ (p.length : Int) ≤ (j : Int) := by omega
        have r4 : (j : Int) < (p.length : Int) := by omega
        have hcd := Lib.hid (cmpI_drop hxj hyj)
        have HC := Lib.hid (show Calls Tryz.prog 128 #[.int .i64 x, .int .i64 y] wr fun e w' => e = .returned (.int .i64 (Lib.compareInt x y)) ∧ wr = w' from (Go.Proofs.Tryz.cmp_Compare_int x y wr).mono (fun _ _ h => ⟨h.1, h.2.symm⟩))
        clear ha hb hxj hyj
        have hcase : (x < y ∧ Lib.compareInt x y = -1) ∨ (y < x ∧ Lib.compareInt x y = 1) ∨ (x = y ∧ Lib.compareInt x y = 0) := by
          unfold Lib.compareInt
          by_cases h1 : x < y
          · left; refine ⟨h1, ?_⟩; simp [h1]
          · by_cases h2 : y < x
            · right; left; refine ⟨h2, ?_⟩; simp [h1, h2]
            · right; right; refine ⟨by omega, ?_⟩; simp [h1, h2]
        rcases hcase with ⟨h1, h2⟩ | ⟨h1, h2⟩ | ⟨h1, h2⟩
        · rw [h2] at HC
          have hres : cmpI o p = -1 := by rw [HE.out, hcd.out, if_pos h1]
          have HRES := Lib.hid hres
          clear hres h1 h2
          go_wp2_with fail
          refine HC.out.mono ?_
          rintro e w' ⟨rfl, rfl⟩
          go_wp2_with fail
          go_ret
          exact ⟨by rw [HRES.out]; rfl, rfl⟩
        · rw [h2] at HC
          have hres : cmpI o p = 1 := by rw [HE.out, hcd.out, if_neg (by omega), if_pos h1]
          have HRES := Lib.hid hres
          clear hres h1 h2
          go_wp2_with fail
          refine HC.out.mono ?_
          rintro e w' ⟨rfl, rfl⟩
          go_wp2_with fail
          go_ret
          exact ⟨by rw [HRES.out]; rfl, rfl⟩
        · rw [h2] at HC
          have hres : cmpI o p = cmpI (o.drop (j + 1)) (p.drop (j + 1)) := by rw [HE.out, hcd.out, if_neg (by omega), if_neg (by omega)]
          have HRES := Lib.hid hres
          clear hres h1 h2
          go_wp2_with fail
          refine HC.out.mono ?_
          rintro e w' ⟨rfl, rfl⟩
          go_wp2_with fail
          go_roundg (o.length - (j + 1))
          case measure => rw [HG.out]; omega
          case rel => exact ⟨j + 1, rfl, by omega, by omega, by go_num, HRES.out, rfl⟩
      · have r3 : (p.length : Int) ≤ (j : Int) := by omega
        have hres : cmpI o p = 1 := by
          have h1 : o.drop j = x :: o.drop (j + 1) := by
            obtain ⟨h, rfl⟩ := List.getElem?_eq_some_iff.1 hxj
            exact List.drop_eq_getElem_cons h
          have h2 : p.drop j = [] := List.drop_eq_nil_of_le (by omega)
          rw [HE.out, h1, h2]
          rfl
        have HRES := Lib.hid hres
        clear hres ha hxj
        go_wp2_with fail
        go_ret
        exact ⟨by rw [HRES.out]; rfl, rfl⟩
    · obtain rfl : j = o.length := by omega
      have h1 : o.drop o.length = [] := List.drop_length
      by_cases hlt : o.length < p.length
      · have r3 : (o.length : Int) < (p.length : Int) := by omega
        have hres : cmpI o p = -1 := by
          rw [HE.out, h1]
          have : p.drop o.length ≠ [] := fun e => by have := drop_nil e; omega
          cases hd : p.drop o.length with
          | nil => exact absurd hd this
          | cons y t => rfl
        have HRES := Lib.hid hres
        clear hres h1
        go_wp2_with fail
        go_ret
        exact ⟨by rw [HRES.out]; rfl, rfl⟩
      · have r3 : ¬ (o.length : Int) < (p.length : Int) := by omega
        have hres : cmpI o p = 0 := by
          have h2 : p.drop o.length = [] := List.drop_eq_nil_of_le (by omega)
          rw [HE.out, h1, h2]
          rfl
        have HRES := Lib.hid hres
        clear hres h1
        go_wp2_with fail
        go_ret
        exact ⟨by rw [HRES.out]; rfl, rfl⟩

theorem oidCompare_any (v u : Value) (o p : List Int) (w : World) (h : Ints w v o) (hu : Ints w u p) :
    Calls Tryz.prog 60 #[v, u] w fun e w' => e = .returned (.int .i64 (cmpI o p)) ∧ w = w' := by
  have H := Lib.hid (sliceCompare_any v u o p w h hu)
  clear h hu
  go_enter Tryz.func60, Tryz.ntmps60
  go_wp2_with fail
  refine H.out.mono ?_
  rintro e w' ⟨rfl, rfl⟩
  go_wp2_with fail
  go_ret
  exact ⟨rfl, rfl⟩

set_option maxRecDepth 20000 in
set_option maxHeartbeats 2000000 in
theorem texts_any (v u : Value) (n : List (List Part)) (ks : List Int) (w : World) (h : NameAt w v n) (hu : Ints w u ks) (hf : ∀ r ∈ n, fewB r) (hE : Env w) :
    Calls Tryz.prog 29 #[v, u] w fun e w' => (∃ x, e = .returned x ∧ Strs w' x (textsS n ks)) ∧ Fr (fun _ => False) w w' := by
  have HR := Lib.hid (right_any v n w h hf)
  have H := Lib.hid h
  have HU := Lib.hid hu
  have HE := Lib.hid hE
  obtain ⟨a, cap, rfl, -⟩ := h
  obtain ⟨b, cbp, rfl, -⟩ := Ints.form hu
  clear hu hE
  cases hok : nameOk n with
  | false =>
    have hres : textsS n ks = [] := by unfold textsS; rw [if_neg (by rw [hok]; simp)]
    have HRES := Lib.hid hres
    rw [hok] at HR
    clear hres hok
    go_enter Tryz.func29, Tryz.ntmps29
    go_wp2_with fail
    refine HR.out.mono ?_
    rintro e w1 ⟨rfl, F1⟩
    go_wp2_with fail
    go_ret
    exact ⟨⟨_, rfl, by rw [HRES.out]; exact Vals.nil w1⟩, F1⟩
  | true =>
    have hres : textsS n ks = n.flatten.filterMap (partTextS ks) := by unfold textsS; rw [if_pos hok]
    have HRES := Lib.hid hres
    obtain ⟨hn64, hrd⟩ := name_rdns hok
    have hrl : ∀ r ∈ n, 0 < r.length ∧ r.length ≤ 1000 := fun r hr => by
      have h1 := hrd r hr
      have h2 := (rdn_oids h1).1
      unfold rdnS at h1
      split at h1
      · cases h1
      · exact ⟨by omega, by omega⟩
    have hfl : ∀ p ∈ n.flatten, p.b.length ≤ 10000000 := fun p hp => by
      obtain ⟨r, hr, hpr⟩ := List.mem_flatten.1 hp
      exact hf r hr p hpr
    have hfn : n.flatten.length ≤ 64 * 1000 := by
      have : ∀ m : List (List Part), (∀ r ∈ m, r.length ≤ 1000) → m.flatten.length ≤ m.length * 1000 := by
        intro m
        induction m with
        | nil => intro _; simp
        | cons x t ih =>
          intro hm
          have h1 := hm x (by simp)
          have h2 := ih (fun r hr => hm r (by simp [hr]))
          simp only [List.flatten_cons, List.length_append, List.length_cons, Nat.add_mul]
          omega
      have h1 := this n (fun r hr => (hrl r hr).2)
      have h2 : n.length * 1000 ≤ 64 * 1000 := Nat.mul_le_mul_right _ hn64
      omega
    have HFL := Lib.hid hfl
    rw [hok] at HR
    have HRL := Lib.hid hrl
    clear hres hok hrd hfl hrl
    go_enter Tryz.func29, Tryz.ntmps29
    go_wp2_with fail
    refine HR.out.mono ?_
    rintro e w1 ⟨rfl, F1⟩
    have HCC := Lib.hid (concatRdn_any _ n w1 (H.out.old F1) (by omega) HRL.out)
    clear HR
    go_wp2_with fail
    refine HCC.out.mono ?_
    rintro e w2 ⟨⟨x2, rfl, hA2⟩, F2⟩
    have HA2 := Lib.hid hA2
    have HF2 := Lib.hid (F1.trans F2)
    obtain ⟨a2, c2, rfl⟩ := hA2.form
    clear hA2 HCC F1 F2
    generalize n.flatten = l at *
    go_wp2_with fail
    go_loopg [5, 18] l.length (fun g s i wr => ∃ (j : Nat) (ts : List (List UInt8)) (au : Option Addr) (cu : Nat), g = l.length - j ∧ j ≤ l.length ∧ s = .slice au ts.length cu ∧ i = .int .i64 j ∧ ts = (l.take j).filterMap (partTextS ks) ∧ ts.length ≤ j ∧ wr.ownsRow w2.heap.size 9 1 (.slice au ts.length cu) ts.length (ts.map str) ∧ Fr (fun _ => False) w2 wr ∧ Fr (fun _ => False) w wr)
    case atStart => exact ⟨0, [], none, 0, rfl, Nat.zero_le _, rfl, rfl, rfl, Nat.le_refl _, ⟨rfl, .inl ⟨rfl, rfl⟩⟩, Fr.refl _, HF2.out⟩
    case round =>
      obtain ⟨j, ts, au, cu, hg, hj, rfl, rfl, hts, htl, hown, F, FW⟩ := hrel
      have HG := Lib.hid hg
      have HTS := Lib.hid hts
      have HOW := Lib.hid hown
      have HF := Lib.hid F
      have HFW := Lib.hid FW
      clear hg hts hown
      by_cases hjl : j < l.length
      · obtain ⟨a0, cap0, he, _, _, hx⟩ := HA2.out.old F
        simp only [Value.slice.injEq, true_and] at he
        obtain ⟨rfl, rfl⟩ := he
        obtain ⟨bb, off, rfl, hy⟩ := hx (by omega)
        obtain ⟨p, hp⟩ : ∃ p, l[j]? = some p := ⟨_, List.getElem?_eq_getElem hjl⟩
        obtain ⟨x, y, e1, e2, hpx, hpy⟩ := hy j p hp
        have hpb := HFL.out p (List.mem_of_getElem? hp)
        have r1 : (0 : Int) ≤ (j : Int) := by omega
        have r2 : (j : Int) < (l.length : Int) := by omega
        obtain ⟨ax, cx, rfl, -⟩ := Ints.form hpx
        obtain ⟨ay, cy, rfl, -⟩ := Vals.form hpy
        have e1' : wr.cell? ⟨bb, off + j * 2, none⟩ = some (.slice ax p.o.length cx) := by rw [Nat.mul_comm]; exact e1
        have e2' : wr.cell? ⟨bb, off + j * 2 + 1, none⟩ = some (.slice ay p.b.length cy) := by rw [Nat.mul_comm]; exact e2
        have HFN := Lib.hid (filterMap_next ks hp)
        have HPX := Lib.hid hpx
        have HPY := Lib.hid hpy
        clear hx hy hp hpx hpy F FW
        go_upto_region 7 with fail
        have BZ := Blk.new wr 39 #[.slice ax p.o.length cx, .slice ay p.b.length cy]
        have F3 : Fr (fun _ => False) wr (wr.alloc (.cells #[.slice ax p.o.length cx, .slice ay p.b.length cy] 39)) := (Fr.refl wr).alloc _
        have HPX1 := Lib.hid (HPX.out.old F3)
        have HPY1 := Lib.hid (HPY.out.old F3)
        have HU1 := Lib.hid ((HU.out.old HFW.out).old F3)
        have HE1 := Lib.hid ((HE.out.old HFW.out).old F3)
        have HOW1 := Lib.hid (ownsRow_fr HOW.out F3 (fun _ _ h => h))
        have HF1 := Lib.hid (HF.out.trans F3)
        have HFW1 := Lib.hid (HFW.out.trans F3)
        clear e1 e2 e1' e2' HPX HPY F3 HOW HF HFW
        generalize (wr.alloc (.cells #[.slice ax p.o.length cx, .slice ay p.b.length cy] 39)) = w3 at *
        have z0 := BZ.cell 0
        have z1 := BZ.cell 1
        simp at z0 z1
        have skip : partTextS ks p = none → ts = (l.take (j + 1)).filterMap (partTextS ks) := fun h => by rw [HFN.out, h, ← HTS.out]; simp
        have HSK := Lib.hid skip
        clear skip
        by_cases hno : ks ≠ [] ∧ p.o ≠ ks
        · have hpt : partTextS ks p = none := by unfold partTextS; rw [if_pos hno]
          have hk0 : (0 : Int) < (ks.length : Int) := by
            have := List.length_pos_iff.2 hno.1
            omega
          have hcz : cmpI p.o ks ≠ 0 := fun e => hno.2 ((cmpI_zero _ _).1 e)
          have hq1 : (cmpI p.o ks == 0) = false := beq_eq_false_iff_ne.2 hcz
          have hq2 : (cmpI p.o ks != 0) = true := by simpa using hcz
          have HOC := Lib.hid (oidCompare_any _ _ p.o ks w3 HPX1.out HU1.out)
          have HSK2 := Lib.hid (HSK.out hpt)
          clear hpt hno hcz
          generalize cmpI p.o ks = cz at *
          go_wp2_with (first | (go_at_call 60; refine HOC.out.mono ?_; rintro e w' ⟨rfl, rfl⟩))
          go_roundg (l.length - (j + 1))
          case measure => rw [HG.out]; omega
          case rel => exact ⟨j + 1, ts, au, cu, rfl, by omega, rfl, by go_num, HSK2.out, by omega, HOW1.out, HF1.out, HFW1.out⟩
        · have hpt : partTextS ks p = match textReadS p.b with | .ok (k, t, _) => some (utf8S k t) | .error _ => none := by unfold partTextS; rw [if_neg hno]
          have HPT := Lib.hid hpt
          have HW := Lib.hid (words_any _ p.b w3 HPY1.out HE1.out (by omega))
          have hcase : (¬ (0 : Int) < (ks.length : Int)) ∨ ((0 : Int) < (ks.length : Int) ∧ cmpI p.o ks = 0) := by
            by_cases hk : ks = []
            · left; rw [hk]; simp
            · right
              refine ⟨by have := List.length_pos_iff.2 hk; omega, (cmpI_zero _ _).2 ?_⟩
              exact Classical.byContradiction fun h => hno ⟨hk, h⟩
          have HOC := Lib.hid (oidCompare_any _ _ p.o ks w3 HPX1.out HU1.out)
          clear hpt hno
          rcases hcase with hk0 | ⟨hk0, hcz⟩
          case' inr => rw [hcz] at HOC
          all_goals
            go_wp2_with (first | (go_at_call 60; refine HOC.out.mono ?_; rintro e w' ⟨rfl, rfl⟩))
            refine HW.out.mono ?_
            rintro e w4 ⟨hout, F4⟩
            unfold WordsOut at hout
            cases hr : textReadS p.b with
            | error x =>
              rw [hr] at hout
              subst hout
              have hpt : partTextS ks p = none := by rw [HPT.out, hr]
              have HSK2 := Lib.hid (HSK.out hpt)
              have F5 : Fr (fun _ => False) w4 (w4.alloc (.cells #[.int .i64 0, .slice none 0 0] 107)) := (Fr.refl w4).alloc _
              have HOW5 := Lib.hid (ownsRow_fr (ownsRow_fr HOW1.out F4 (fun _ _ h => h)) F5 (fun _ _ h => h))
              have HF5 := Lib.hid ((HF1.out.trans F4).trans F5)
              have HFW5 := Lib.hid ((HFW1.out.trans F4).trans F5)
              clear hr hpt F4 F5 HOW1 HF1 HFW1
              go_wp2_with fail
              go_roundg (l.length - (j + 1))
              case measure => rw [HG.out]; omega
              case rel => exact ⟨j + 1, ts, au, cu, rfl, by omega, rfl, by go_num, HSK2.out, by omega, HOW5.out, HF5.out, HFW5.out⟩
            | ok kbn =>
              obtain ⟨k, t, m⟩ := kbn
              rw [hr] at hout
              obtain ⟨ut, rfl, hbt⟩ := hout
              obtain ⟨hrt, htl2⟩ := textRead_ok hr
              obtain ⟨at_, ct, rfl, -⟩ := hbt.form
              have hpt : partTextS ks p = some (utf8S k t) := by rw [HPT.out, hr]
              have hnx : ts ++ [utf8S k t] = (l.take (j + 1)).filterMap (partTextS ks) := by rw [HFN.out, hpt, ← HTS.out]; rfl
              have HNX := Lib.hid hnx
              have F5 : Fr (fun _ => False) w4 (w4.alloc (.cells #[.int .i64 k, .slice at_ t.length ct] 107)) := (Fr.refl w4).alloc _
              have HUT := Lib.hid (textUtf8_any k _ t _ (hbt.old F5) ((HE1.out.old F4).old F5).tabs hrt (by omega))
              have HOW5 := Lib.hid (ownsRow_fr (ownsRow_fr HOW1.out F4 (fun _ _ h => h)) F5 (fun _ _ h => h))
              have HF5 := Lib.hid ((HF1.out.trans F4).trans F5)
              have HFW5 := Lib.hid ((HFW1.out.trans F4).trans F5)
              clear hr hpt hnx F4 F5 HOW1 HF1 HFW1 hbt hrt
              generalize utf8S k t = ut at *
              go_upto_region 9 with fail
              have BT := Blk.new w4 107 #[.int .i64 k, .slice at_ t.length ct]
              obtain ⟨yy, hyy⟩ : ∃ y, y = w4.heap.size := ⟨_, rfl⟩
              rw [← hyy] at BT ⊢
              clear hyy
              generalize (w4.alloc (.cells #[.int .i64 k, .slice at_ t.length ct] 107)) = w5 at *
              have t0 := BT.cell 0
              have t1 := BT.cell 1
              simp only [List.getElem?_toArray, List.getElem?_cons_succ, List.getElem?_cons_zero] at t0 t1
              go_wp2_with fail
              refine HUT.out.mono ?_
              rintro e w6 ⟨rfl, F6⟩
              have F7 : Fr (fun _ => False) w6 (w6.alloc (.cells #[str ut] 9)) := (Fr.refl w6).alloc _
              have hs1 := HF5.out.size
              have hs2 := F6.size
              have hbk := (Vals.of_own HOW5.out).2
              have hs0 := HF2.out.size
              obtain ⟨a', c', w8, hrun, hown8, F8, -⟩ := add_gen Tryz.underlying53 info9 rfl (by decide) (by decide) (ownsRow_fr HOW5.out F6 (fun _ _ h => h)) (by omega) F7 w6.heap.size [str ut] rfl (Blk.new w6 9 #[str ut]) (by simp [Value.oneCell']) (by omega)
              have HRUN := Lib.hid hrun
              have HOW8 := Lib.hid hown8
              have HFW8 := Lib.hid ((HFW5.out.trans F6).trans' F8 (fun i hi e => by have := (hbk i e).1; omega))
              have HF8 := Lib.hid ((HF5.out.trans F6).trans' F8 (fun i hi e => by have := (hbk i e).1; omega))
              clear F6 F7 hrun hown8 F8 hbk HOW5 HF5 HFW5 BT t0 t1 HUT
              go_wp2_with (at_builtin; refine wpList_append_run (by rfl) (.tmp 44) (.tmp 46) 53 (by rfl) _ w8 (by exact HRUN.out) ?_)
              go_roundg (l.length - (j + 1))
              case measure => rw [HG.out]; omega
              case rel => exact ⟨j + 1, ts ++ [ut], a', c', rfl, by omega, by rw [List.length_append]; rfl, by go_num, HNX.out, by rw [List.length_append]; simp only [List.length_singleton]; omega, by rw [List.length_append, List.map_append]; exact HOW8.out, HF8.out, HFW8.out⟩
      · obtain rfl : j = l.length := by omega
        have hall : ts = l.filterMap (partTextS ks) := by rw [HTS.out, List.take_length]
        have HALL := Lib.hid hall
        have hv := Lib.hid (Vals.of_own HOW.out).1
        clear hall
        go_wp2_with fail
        go_ret
        exact ⟨⟨_, rfl, by rw [HRES.out, ← HALL.out]; exact hv.out⟩, FW⟩
end Go.Proofs.YtgffhiopbnkjbaaGreatDoor

namespace Go.Proofs.YtgffhiopbnkjbaaGreatDoor
open Go Go.RowKit Go.Q

set_option maxRecDepth 20000 in
set_option maxHeartbeats 1000000 in
theorem r04Right_any (v : Value) (o : List Int) (w : World) (h : Ints w v o) :
    Calls Tryz.prog 11 #[v] w fun e w' => e = .returned (.bool (oidOk o)) ∧ w = w' := by
  obtain ⟨a, cap, rfl, hc, hm, hx⟩ := Ints.form h
  have HX := Lib.hid hx
  clear h hx
  rcases Classical.em (2 ≤ o.length ∧ o.length ≤ 32) with hl | hl
  · obtain ⟨hl1, hl2⟩ := hl
    have q1 : decide ((o.length : Int) < 2) = false := decide_eq_false (by omega)
    have q2 : decide ((32 : Int) < (o.length : Int)) = false := decide_eq_false (by omega)
    go_enter Tryz.func11, Tryz.ntmps11
    go_wp2_with fail
    go_loopg [3] o.length (fun g i wr => ∃ j : Nat, g = o.length - j ∧ j ≤ o.length ∧ i = .int .i64 j ∧ (o.take j).all arcOk = true ∧ wr = w)
    case atStart => exact ⟨0, rfl, by omega, rfl, rfl, rfl⟩
    case round =>
      obtain ⟨j, hg, hj, rfl, hall, rfl⟩ := hrel
      have HG := Lib.hid hg
      have HA := Lib.hid hall
      clear hg hall
      obtain ⟨b, off, rfl, hy⟩ := HX.out (by omega)
      by_cases hjl : j < o.length
      · obtain ⟨x, hxj⟩ : ∃ x, o[j]? = some x := ⟨_, List.getElem?_eq_getElem hjl⟩
        have ex := hy j x hxj
        have hat : (o.take (j + 1)).all arcOk = ((o.take j).all arcOk && arcOk x) := by
          rw [List.take_add_one, hxj]
          simp
        have HAT := Lib.hid hat
        have q3 : (0 : Int) ≤ (j : Int) := by omega
        have q4 : (j : Int) < (o.length : Int) := by omega
        have hbad : arcOk x = false → oidOk o = false := fun hb => by
          have : o.all arcOk = false := by
            rw [List.all_eq_false]
            exact ⟨x, List.mem_of_getElem? hxj, by simp [hb]⟩
          simp [oidOk, this]
        have HB := Lib.hid hbad
        clear hy hxj hat hbad
        rcases Classical.em (x < 0) with h0 | h0
        · have q5 : decide (x < 0) = true := decide_eq_true h0
          go_wp2_with fail
          go_ret
          exact ⟨by rw [HB.out (by simp [arcOk]; omega)]; rfl, rfl⟩
        · have q5 : decide (x < 0) = false := decide_eq_false h0
          rcases Classical.em ((2147483647 : Int) < x) with h1 | h1
          · have q6 : decide ((2147483647 : Int) < x) = true := decide_eq_true h1
            go_wp2_with fail
            go_ret
            exact ⟨by rw [HB.out (by simp [arcOk]; omega)]; rfl, rfl⟩
          · have q6 : decide ((2147483647 : Int) < x) = false := decide_eq_false h1
            go_wp2_with fail
            go_roundg (o.length - (j + 1))
            case measure => rw [HG.out]; omega
            case rel => exact ⟨j + 1, rfl, by omega, by go_num, by rw [HAT.out, HA.out]; simp [arcOk]; omega, rfl⟩
      · have hall : o.all arcOk = true := by
          have := HA.out
          rwa [List.take_of_length_le (by omega)] at this
        obtain ⟨x0, hx0⟩ : ∃ x, o[0]? = some x := ⟨_, List.getElem?_eq_getElem (by omega)⟩
        obtain ⟨x1, hx1⟩ : ∃ x, o[1]? = some x := ⟨_, List.getElem?_eq_getElem (by omega)⟩
        have e0 := hy 0 x0 hx0
        have e1 := hy 1 x1 hx1
        have hE : oidOk o = twoOk x0 x1 := by
          simp [oidOk, hall, hl1, hl2, List.getD, hx0, hx1]
        have hp0 : 0 ≤ x0 := by
          have := List.all_eq_true.1 hall x0 (List.mem_of_getElem? hx0)
          simp only [arcOk, decide_eq_true_eq] at this
          exact this.1
        have HE := Lib.hid hE
        have z1 : (1 : Int) < (o.length : Int) := by omega
        have z0 : (0 : Int) < (o.length : Int) := by omega
        simp only [Nat.add_zero] at e0
        clear hy hx0 hx1 hall hE HA HX
        by_cases h2 : x0 < 2
        · by_cases h40 : x1 < 40
          · have hv : twoOk x0 x1 = true := by unfold twoOk; rw [decide_eq_true (show x0 = 0 ∨ x0 = 1 by omega), decide_eq_true h40]; rfl
            have HV := Lib.hid hv
            clear hv
            go_wp2_with fail
            go_ret
            exact ⟨by rw [HE.out, HV.out]; rfl, rfl⟩
          · have hv : twoOk x0 x1 = false := by unfold twoOk; rw [decide_eq_false h40, decide_eq_false (show ¬ x0 = 2 by omega), Bool.and_false]; rfl
            have HV := Lib.hid hv
            have p2 : (x0 == 2) = false := beq_eq_false_iff_ne.2 (by omega)
            clear hv
            go_wp2_with fail
            go_ret
            exact ⟨by rw [HE.out, HV.out]; rfl, rfl⟩
        · by_cases h22 : x0 = 2
          · subst h22
            by_cases hm1 : x1 ≤ 2147483567
            · have hv : twoOk 2 x1 = true := by unfold twoOk; rw [decide_eq_true hm1]; simp
              have HV := Lib.hid hv
              clear hv
              go_wp2_with fail
              go_ret
              exact ⟨by rw [HE.out, HV.out]; rfl, rfl⟩
            · have hv : twoOk 2 x1 = false := by unfold twoOk; rw [decide_eq_false hm1]; simp
              have HV := Lib.hid hv
              clear hv
              go_wp2_with fail
              go_ret
              exact ⟨by rw [HE.out, HV.out]; rfl, rfl⟩
          · have hv : twoOk x0 x1 = false := by unfold twoOk; rw [decide_eq_false h22, decide_eq_false (show ¬ (x0 = 0 ∨ x0 = 1) by omega)]; rfl
            have HV := Lib.hid hv
            have p2 : (x0 == 2) = false := beq_eq_false_iff_ne.2 h22
            clear hv
            go_wp2_with fail
            go_ret
            exact ⟨by rw [HE.out, HV.out]; rfl, rfl⟩
  · have hE : oidOk o = false := by simp [oidOk]; omega
    have HE := Lib.hid hE
    rcases Classical.em (o.length < 2) with h2 | h2
    case' inl => have q1 : decide ((o.length : Int) < 2) = true := decide_eq_true (by omega)
    case' inr =>
      have q1 : decide ((o.length : Int) < 2) = false := decide_eq_false (by omega)
      have q2 : decide ((32 : Int) < (o.length : Int)) = true := decide_eq_true (by omega)
    all_goals
      clear hE
      go_enter Tryz.func11, Tryz.ntmps11
      go_wp2_with fail
      go_ret
      exact ⟨by rw [HE.out]; rfl, rfl⟩

set_option maxRecDepth 20000 in
set_option maxHeartbeats 1000000 in
theorem r04Compare_any (v u : Value) (o p : List Int) (w : World) (h : Ints w v o) (hu : Ints w u p) :
    Calls Tryz.prog 52 #[v, u] w fun e w' => e = .returned (.int .i64 (cmpI o p)) ∧ Fr (fun _ => False) w w' := by
  obtain ⟨a, cap, rfl, hc1, hm1, hx⟩ := Ints.form h
  obtain ⟨b, cbp, rfl, hc2, hm2, hy⟩ := Ints.form hu
  have HX := Lib.hid hx
  have HY := Lib.hid hy
  unfold maxLen at hm1 hm2
  clear h hu hx hy
  go_enter Tryz.func52, Tryz.ntmps52
  go_wp2_with fail
  go_loopg [5] (o.length + p.length) (fun g i wr => ∃ j : Nat, g = o.length + p.length - j ∧ j ≤ o.length ∧ j ≤ p.length ∧ i = .int .i64 j ∧ cmpI o p = cmpI (o.drop j) (p.drop j) ∧ Fr (fun _ => False) w wr)
  case atStart => exact ⟨0, rfl, Nat.zero_le _, Nat.zero_le _, rfl, rfl, Fr.refl _⟩
  case round =>
    obtain ⟨j, hg, hj, hjp, rfl, hE, F⟩ := hrel
    have HG := Lib.hid hg
    have HE := Lib.hid hE
    have HF := Lib.hid F
    clear hg hE
    by_cases hjl : j < o.length
    · obtain ⟨ba, oa, rfl, ha⟩ := HX.out (by omega)
      obtain ⟨x, hxj⟩ : ∃ x, o[j]? = some x := ⟨_, List.getElem?_eq_getElem hjl⟩
      have e1 := F.cell (ha j x hxj) (fun h => h)
      have r1 : (0 : Int) ≤ (j : Int) := by omega
      have r2 : (j : Int) < (o.length : Int) := by omega
      have r5 : decide ((o.length : Int) ≤ (j : Int)) = false := decide_eq_false (by omega)
      have r5N : decide (o.length ≤ j) = false := decide_eq_false (by omega)
      have r5' : decide ((j : Int) < (o.length : Int)) = true := decide_eq_true (by omega)
      have r5'N : decide (j < o.length) = true := decide_eq_true (by omega)
      by_cases hjl2 : j < p.length
      · obtain ⟨bb, ob, rfl, hb⟩ := HY.out (by omega)
        obtain ⟨y, hyj⟩ : ∃ y, p[j]? = some y := ⟨_, List.getElem?_eq_getElem hjl2⟩
        have e2 := F.cell (hb j y hyj) (fun h => h)
        have r4 : (j : Int) < (p.length : Int) := by omega
        have r3 : decide ((p.length : Int) ≤ (j : Int)) = false := decide_eq_false (by omega)
        have r3N : decide (p.length ≤ j) = false := decide_eq_false (by omega)
        have r4' : decide ((j : Int) < (p.length : Int)) = true := decide_eq_true (by omega)
        have r4'N : decide (j < p.length) = true := decide_eq_true (by omega)
        have hcd := Lib.hid (cmpI_drop hxj hyj)
        clear ha hb hxj hyj F
        by_cases h1 : x < y
        · have hres : cmpI o p = -1 := by rw [HE.out, hcd.out, if_pos h1]
          have HRES := Lib.hid hres
          have q1 : decide (x < y) = true := decide_eq_true h1
          clear hres
          go_wp2_with fail
          go_quiet (fail)
          go_wp2_with fail
          go_ret
          refine ⟨by rw [HRES.out]; rfl, ?_⟩; (first | with_reducible exact HF.out | with_reducible exact Fr.drewN HF.out _ | with_reducible exact Fr.drewN (Fr.drewN HF.out _) _ | with_reducible exact Fr.drewN (Fr.drewN (Fr.drewN HF.out _) _) _)
        · have q1 : decide (x < y) = false := decide_eq_false h1
          by_cases h2 : y < x
          · have hres : cmpI o p = 1 := by rw [HE.out, hcd.out, if_neg h1, if_pos h2]
            have HRES := Lib.hid hres
            have q2 : decide (y < x) = true := decide_eq_true h2
            clear hres
            go_wp2_with fail
            go_quiet (fail)
            go_wp2_with fail
            go_quiet (fail)
            go_wp2_with fail
            go_ret
            refine ⟨by rw [HRES.out]; rfl, ?_⟩; (first | with_reducible exact HF.out | with_reducible exact Fr.drewN HF.out _ | with_reducible exact Fr.drewN (Fr.drewN HF.out _) _ | with_reducible exact Fr.drewN (Fr.drewN (Fr.drewN HF.out _) _) _)
          · have hres : cmpI o p = cmpI (o.drop (j + 1)) (p.drop (j + 1)) := by rw [HE.out, hcd.out, if_neg h1, if_neg h2]
            have HRES := Lib.hid hres
            have q2 : decide (y < x) = false := decide_eq_false h2
            clear hres
            go_wp2_with fail
            go_quiet (fail)
            go_wp2_with fail
            go_quiet (fail)
            go_wp2_with fail
            go_roundg (o.length + p.length - (j + 1))
            case measure => rw [HG.out]; omega
            case rel => refine ⟨j + 1, rfl, by omega, by omega, by go_num, HRES.out, ?_⟩; (first | with_reducible exact HF.out | with_reducible exact Fr.drewN HF.out _ | with_reducible exact Fr.drewN (Fr.drewN HF.out _) _ | with_reducible exact Fr.drewN (Fr.drewN (Fr.drewN HF.out _) _) _)
      · have r3 : decide ((p.length : Int) ≤ (j : Int)) = true := decide_eq_true (by omega)
        have r3N : decide (p.length ≤ j) = true := decide_eq_true (by omega)
        have r4 : decide ((j : Int) < (p.length : Int)) = false := decide_eq_false (by omega)
        have r4N : decide (j < p.length) = false := decide_eq_false (by omega)
        have hres : cmpI o p = 1 := by
          have h1 : o.drop j = x :: o.drop (j + 1) := by
            obtain ⟨h, rfl⟩ := List.getElem?_eq_some_iff.1 hxj
            exact List.drop_eq_getElem_cons h
          have h2 : p.drop j = [] := List.drop_eq_nil_of_le (by omega)
          rw [HE.out, h1, h2]
          rfl
        have HRES := Lib.hid hres
        clear hres ha hxj F
        go_wp2_with fail
        go_quiet (fail)
        go_wp2_with fail
        go_quiet (fail)
        go_wp2_with fail
        go_ret
        refine ⟨by rw [HRES.out]; rfl, ?_⟩; (first | with_reducible exact HF.out | with_reducible exact Fr.drewN HF.out _ | with_reducible exact Fr.drewN (Fr.drewN HF.out _) _ | with_reducible exact Fr.drewN (Fr.drewN (Fr.drewN HF.out _) _) _)
    · obtain rfl : j = o.length := by omega
      have h1 : o.drop o.length = [] := List.drop_length
      have r5 : decide ((o.length : Int) ≤ (o.length : Int)) = true := decide_eq_true (by omega)
      have r5N : decide (o.length ≤ o.length) = true := decide_eq_true (by omega)
      by_cases hlt : o.length < p.length
      · have r3 : (o.length : Int) < (p.length : Int) := by omega
        have r3N : decide (o.length < p.length) = true := decide_eq_true hlt
        have hres : cmpI o p = -1 := by
          rw [HE.out, h1]
          have : p.drop o.length ≠ [] := fun e => by have := drop_nil e; omega
          cases hd : p.drop o.length with
          | nil => exact absurd hd this
          | cons y t => rfl
        have HRES := Lib.hid hres
        clear hres h1 F
        go_wp2_with fail
        go_quiet (fail)
        go_wp2_with fail
        go_ret
        refine ⟨by rw [HRES.out]; rfl, ?_⟩; (first | with_reducible exact HF.out | with_reducible exact Fr.drewN HF.out _ | with_reducible exact Fr.drewN (Fr.drewN HF.out _) _ | with_reducible exact Fr.drewN (Fr.drewN (Fr.drewN HF.out _) _) _)
      · have r3 : ¬ (o.length : Int) < (p.length : Int) := by omega
        have r3N : decide (o.length < p.length) = false := decide_eq_false hlt
        have hres : cmpI o p = 0 := by
          have h2 : p.drop o.length = [] := List.drop_eq_nil_of_le (by omega)
          rw [HE.out, h1, h2]
          rfl
        have HRES := Lib.hid hres
        clear hres h1
        go_wp2_with fail
        go_ret
        exact ⟨by rw [HRES.out]; rfl, F⟩

theorem r04Same_any (v u : Value) (o p : List Int) (w : World) (h : Ints w v o) (hu : Ints w u p) :
    Calls Tryz.prog 17 #[v, u] w fun e w' => e = .returned (.bool (decide (o = p))) ∧ Fr (fun _ => False) w w' := by
  have H := Lib.hid (r04Compare_any v u o p w h hu)
  clear h hu
  have hq : (cmpI o p == 0) = decide (o = p) := by
    rw [Bool.eq_iff_iff]
    simp [cmpI_zero]
  have HQ := Lib.hid hq
  clear hq
  generalize cmpI o p = c at *
  go_enter Tryz.func17, Tryz.ntmps17
  go_wp2_with fail
  refine H.out.mono ?_
  rintro e w' ⟨rfl, F⟩
  go_wp2_with fail
  go_ret
  exact ⟨by rw [← HQ.out]; rfl, F⟩
end Go.Proofs.YtgffhiopbnkjbaaGreatDoor

namespace Go.Proofs.YtgffhiopbnkjbaaGreatDoor
open Go Go.RowKit Go.Q
set_option linter.unusedSimpArgs false

/-- What the reference's Whole gives. -/
def rWholeOut (w w' : World) (o : List Int) (b : List UInt8) (e : Ending) : Prop :=
  match attrS o b with
  | none => e = .returned (.tuple #[.slice none 0 0, .bool false])
  | some x => ∃ v, e = .returned (.tuple #[v, .bool true]) ∧ w'.ownsRow w.heap.size 5 1 v x.length (Lib.byteCells x)

set_option maxRecDepth 20000 in
set_option maxHeartbeats 2000000 in
theorem r14Whole_any (x y : Value) (o : List Int) (b : List UInt8) (w : World) (hx : Ints w x o) (hy : Bytes w y b) (hl : b.length ≤ 10000000) :
    Calls Tryz.prog 82 #[.agg #[x, y]] w fun e w' => rWholeOut w w' o b e ∧ Fr (fun _ => False) w w' := by
  obtain ⟨ax, cx, rfl, -⟩ := Ints.form hx
  obtain ⟨ay, cy, rfl, -⟩ := Vals.form hy
  obtain ⟨z, hz⟩ : ∃ z, z = w.heap.size := ⟨_, rfl⟩
  have BZ := Blk.new w 63 #[.slice ax o.length cx, .slice ay b.length cy]
  have F0 : Fr (fun _ => False) w (w.alloc (.cells #[.slice ax o.length cx, .slice ay b.length cy] 63)) := (Fr.refl w).alloc _
  have HX := Lib.hid (hx.old F0)
  have HY := Lib.hid (hy.old F0)
  rw [← hz] at BZ
  have HF0 := Lib.hid F0
  have HZ := Lib.hid hz
  clear hx hy F0 hz
  go_enter Tryz.func82, Tryz.ntmps82
  go_upto_region 1 with fail
  rw [← HZ.out]
  generalize (w.alloc (.cells #[.slice ax o.length cx, .slice ay b.length cy] 63)) = w0 at *
  have z1 := BZ.cell 1
  simp only [List.getElem?_toArray, List.getElem?_cons_succ, List.getElem?_cons_zero] at z1
  go_wp2_with fail
  refine (r08Wholes_any _ b w0 HY.out (by omega)).mono ?_
  rintro e w1 ⟨hout, F1⟩
  have BZ1 := BZ.fr F1 (fun h => h)
  have HF1 := Lib.hid (HF0.out.trans F1)
  have HX1 := Lib.hid (HX.out.old F1)
  have HY1 := Lib.hid (HY.out.old F1)
  unfold wholesOut at hout
  clear HX HY HF0 F1 BZ z1
  cases hr : allS b with
  | error x =>
    rw [hr] at hout
    subst hout
    have hx0 : x ≠ 0 := allS_pos hr
    have hx1 : (x == 0) = false := beq_eq_false_iff_ne.2 hx0
    have hx2 : (x != 0) = true := by simpa using hx0
    have hn : attrS o b = none := by unfold attrS singleB; rw [hr, Bool.and_false]; rfl
    have HN := Lib.hid hn
    clear hn hr hx0
    go_wp2_with fail
    refine bodyPost_ret (v := .tuple #[.slice none 0 0, .bool false]) (by simp [results, Tryz.results82, go_sem]) rfl ⟨?_, HF1.out⟩
    unfold rWholeOut
    rw [HN.out]
  | ok ls =>
    rw [hr] at hout
    obtain ⟨al, cl, rfl⟩ := hout
    by_cases h1 : ls.length = 1
    · have hs : singleB b = true := by unfold singleB; rw [hr]; simp [h1]
      have q1 : ((ls.length : Int) == 1) = true := by rw [h1]; rfl
      have q2 : ((ls.length : Int) != 1) = false := by rw [h1]; rfl
      have q3 : (ls.length == 1) = true := by rw [h1]; rfl
      have q4 : (ls.length != 1) = false := by rw [h1]; rfl
      have HRI := Lib.hid (r04Right_any _ o w1 HX1.out)
      have z0 := BZ1.cell 0
      simp only [List.getElem?_toArray, List.getElem?_cons_succ, List.getElem?_cons_zero] at z0
      clear hr h1
      cases ho : oidOk o with
      | false =>
        rw [ho] at HRI
        have hn : attrS o b = none := by unfold attrS; rw [ho]; rfl
        have HN := Lib.hid hn
        clear hn ho
        go_wp2_with fail
        refine HRI.out.mono ?_
        rintro e w2 ⟨rfl, rfl⟩
        go_wp2_with fail
        refine bodyPost_ret (v := .tuple #[.slice none 0 0, .bool false]) (by simp [results, Tryz.results82, go_sem]) rfl ⟨?_, HF1.out⟩
        unfold rWholeOut
        rw [HN.out]
      | true =>
        rw [ho] at HRI
        have hn : attrS o b = some (wrapS (tagOf 16) (oidWhole o ++ b)) := by unfold attrS; rw [ho, hs]; rfl
        have HN := Lib.hid hn
        have hol := oidWhole_len (nums_ok ho).2.1
        have HO := Lib.hid ho
        clear hn ho hs
        go_wp2_with fail
        refine HRI.out.mono ?_
        rintro e w2 ⟨rfl, rfl⟩
        clear z0 HRI q1 q2 q3 q4
        go_upto_region 4 with fail
        have G : Fr (fun _ => False) w1 w1.drew := (Fr.refl w1).drew
        have B := BZ1.drew
        have hB1 := BZ1.lt
        obtain ⟨T, hT⟩ : ∃ T, T = tagOf 16 := ⟨_, rfl⟩
        have HTG := Lib.hid (show tagGood T from by rw [hT]; exact good_of (n := 16) (by decide) (by decide))
        have HOF := Lib.hid (fun w => r02Of_any 16 w)
        have HWH := Lib.hid (fun (W : World) (hW : Ints W (.slice ax o.length cx) o) => r04Whole_any (.slice ax o.length cx) o W hW HO.out)
        rw [← hT] at HN HOF
        generalize oidWhole o = ow at *
        clear hT
        have GS : w.heap.size ≤ w1.heap.size := HF1.out.size
        go_region_held3 (fun w' => ∀ j, w'.cell? ⟨z, j, none⟩ = (#[.slice ax o.length cx, .slice ay b.length cy] : Array Value)[j]?) (first | exact B.cell) (first
          | (go_at_call 15; refine (HOF.out _).mono ?_; rintro e w' ⟨rfl, F⟩; replace B := B.fr F (fun h => h); replace G := G.trans F; (try replace hv := ownsRow_fr hv F (fun _ _ h => h)))
          | (go_at_call 119; refine (HWH.out _ (HX1.out.old G)).mono ?_; rintro e w' ⟨v, rfl, hv0, F⟩; have hv := own_le hv0 (show w1.heap.size ≤ _ from G.size); obtain ⟨av, mv, cv, rfl, rfl⟩ := own_shape hv; replace B := B.fr F (fun h => h); replace G := G.trans F)
          | (obtain ⟨v7, w7, hrun, ho7, F7, hat⟩ := append_bytes hv ay b.length cy b (HY1.out.old G) (by omega) (show w1.heap.size ≤ _ from G.size); obtain ⟨a7, m7, c7, rfl, rfl⟩ := own_shape ho7; refine step_append_run (by rfl) (.tmp 28) (.tmp 30) 23 (by rfl) _ w7 (by exact hrun) ?_; have hbk := (Vals.of_own hv).2; replace B := B.fr F7 (fun e => by have := (hbk z e).1; omega); replace G := G.trans' F7 (fun i hi e => absurd hi (by have := (hbk i e).1; omega)); have hs7 : w1.heap.size ≤ w7.heap.size := G.size; have hml : (ow ++ b).length ≤ 16777216 := (by rw [List.length_append]; omega); clear hv hrun F7 hat)
          | (go_at_call 14; refine (r02Wrap_any T HTG.out (.slice a7 (ow.length + b.length) c7) (ow ++ b) _ (Vals.of_own ho7).1 hml).mono ?_; rintro e w' ⟨v, rfl, hv9, F⟩; obtain ⟨av, mv, cv, rfl, rfl⟩ := own_shape hv9; replace B := B.fr F (fun h => h); replace G := G.trans F))
        all_goals
          have HO9 := Lib.hid (own_le hv9 (show w.heap.size ≤ w7.heap.size from by omega))
          have HG9 := Lib.hid (HF1.out.trans G)
          clear hv9 ho7 B G F hbk hml
          generalize wrapS T (ow ++ b) = wx at *
          go_wp2_with fail
          refine bodyPost_ret (v := .tuple #[.slice av wx.length cv, .bool true]) (by simp [results, Tryz.results82, go_sem]) rfl ⟨?_, HG9.out⟩
          unfold rWholeOut
          rw [HN.out]
          exact ⟨_, rfl, HO9.out⟩
    · have hs : singleB b = false := by unfold singleB; rw [hr]; simp [h1]
      have q1 : ((ls.length : Int) == 1) = false := beq_eq_false_iff_ne.2 (by omega)
      have q2 : ((ls.length : Int) != 1) = true := by simpa using (by omega : (ls.length : Int) ≠ 1)
      have q3 : (ls.length == 1) = false := beq_eq_false_iff_ne.2 (by omega)
      have q4 : (ls.length != 1) = true := by simpa using h1
      have hn : attrS o b = none := by unfold attrS; rw [hs, Bool.and_false]; rfl
      have HN := Lib.hid hn
      clear hn hr hs h1
      go_wp2_with fail
      refine bodyPost_ret (v := .tuple #[.slice none 0 0, .bool false]) (by simp [results, Tryz.results82, go_sem]) rfl ⟨?_, HF1.out⟩
      unfold rWholeOut
      rw [HN.out]
end Go.Proofs.YtgffhiopbnkjbaaGreatDoor

namespace Go.Q
open Go Go.RowKit
theorem cmpS_drop {a b : List UInt8} {j : Nat} {x y : UInt8} (hx : a[j]? = some x) (hy : b[j]? = some y) : cmpS (a.drop j) (b.drop j) = if x.toNat < y.toNat then -1 else if y.toNat < x.toNat then 1 else cmpS (a.drop (j + 1)) (b.drop (j + 1)) := by
  have h1 : a.drop j = x :: a.drop (j + 1) := by
    obtain ⟨h, rfl⟩ := List.getElem?_eq_some_iff.1 hx
    exact List.drop_eq_getElem_cons h
  have h2 : b.drop j = y :: b.drop (j + 1) := by
    obtain ⟨h, rfl⟩ := List.getElem?_eq_some_iff.1 hy
    exact List.drop_eq_getElem_cons h
  rw [h1, h2]
  simp only [cmpS]
  by_cases h : x = y
  · subst h; simp
  · rw [if_neg h]
    by_cases h3 : x.toNat < y.toNat
    · rw [if_pos h3, if_pos h3]
    · rw [if_neg h3, if_neg h3, if_pos]
      rcases Nat.lt_or_ge y.toNat x.toNat with h4 | h4
      · exact h4
      · exact absurd (UInt8.toNat_inj.1 (by omega)) h
theorem cmpS_zero : ∀ (s t : List UInt8), cmpS s t = 0 ↔ s = t
  | [], [] => by simp [cmpS]
  | [], _ :: _ => by simp [cmpS]
  | _ :: _, [] => by simp [cmpS]
  | x :: s, y :: t => by
    have ih := cmpS_zero s t
    unfold cmpS
    split
    · rename_i h; subst h; rw [ih]; simp
    · rename_i h
      split <;> simp [h]
end Go.Q
namespace Go.Proofs.YtgffhiopbnkjbaaGreatDoor
open Go Go.RowKit Go.Q

set_option maxRecDepth 20000 in
set_option maxHeartbeats 1000000 in
theorem r01Compare_any (v u : Value) (o p : List UInt8) (w : World) (h : Bytes w v o) (hu : Bytes w u p) :
    Calls Tryz.prog 69 #[v, u] w fun e w' => e = .returned (.int .i64 (cmpS o p)) ∧ Fr (fun _ => False) w w' := by
  obtain ⟨a, cap, rfl, hc1, hm1, hx⟩ := Vals.form h
  obtain ⟨b, cbp, rfl, hc2, hm2, hy⟩ := Vals.form hu
  have HX := Lib.hid hx
  have HY := Lib.hid hy
  unfold maxLen at hm1 hm2
  clear h hu hx hy
  go_enter Tryz.func69, Tryz.ntmps69
  go_wp2_with fail
  go_loopg [5] (o.length + p.length) (fun g i wr => ∃ j : Nat, g = o.length + p.length - j ∧ j ≤ o.length ∧ j ≤ p.length ∧ i = .int .i64 j ∧ cmpS o p = cmpS (o.drop j) (p.drop j) ∧ Fr (fun _ => False) w wr)
  case atStart => exact ⟨0, rfl, Nat.zero_le _, Nat.zero_le _, rfl, rfl, Fr.refl _⟩
  case round =>
    obtain ⟨j, hg, hj, hjp, rfl, hE, F⟩ := hrel
    have HG := Lib.hid hg
    have HE := Lib.hid hE
    have HF := Lib.hid F
    clear hg hE
    by_cases hjl : j < o.length
    · obtain ⟨ba, oa, rfl, ha⟩ := HX.out (by omega)
      obtain ⟨x, hxj⟩ : ∃ x, o[j]? = some x := ⟨_, List.getElem?_eq_getElem hjl⟩
      have e1 := F.cell (ha j x hxj) (fun h => h)
      have r1 : (0 : Int) ≤ (j : Int) := by omega
      have r2 : (j : Int) < (o.length : Int) := by omega
      have r5 : decide ((o.length : Int) ≤ (j : Int)) = false := decide_eq_false (by omega)
      have r5N : decide (o.length ≤ j) = false := decide_eq_false (by omega)
      have r5' : decide ((j : Int) < (o.length : Int)) = true := decide_eq_true (by omega)
      have r5'N : decide (j < o.length) = true := decide_eq_true (by omega)
      by_cases hjl2 : j < p.length
      · obtain ⟨bb, ob, rfl, hb⟩ := HY.out (by omega)
        obtain ⟨y, hyj⟩ : ∃ y, p[j]? = some y := ⟨_, List.getElem?_eq_getElem hjl2⟩
        have e2 := F.cell (hb j y hyj) (fun h => h)
        have r4 : (j : Int) < (p.length : Int) := by omega
        have r3 : decide ((p.length : Int) ≤ (j : Int)) = false := decide_eq_false (by omega)
        have r3N : decide (p.length ≤ j) = false := decide_eq_false (by omega)
        have r4' : decide ((j : Int) < (p.length : Int)) = true := decide_eq_true (by omega)
        have r4'N : decide (j < p.length) = true := decide_eq_true (by omega)
        have hcd := Lib.hid (cmpS_drop hxj hyj)
        clear ha hb hxj hyj F
        generalize x.toNat = x at *
        generalize y.toNat = y at *
        by_cases h1 : x < y
        · have hres : cmpS o p = -1 := by rw [HE.out, hcd.out, if_pos h1]
          have HRES := Lib.hid hres
          have q1 : decide ((x : Int) < (y : Int)) = true := decide_eq_true (by omega)
          have q1N : decide (x < y) = true := decide_eq_true h1
          clear hres
          go_wp2_with fail
          go_quiet (fail)
          go_wp2_with fail
          go_ret
          refine ⟨by rw [HRES.out]; rfl, ?_⟩; (first | with_reducible exact HF.out | with_reducible exact Fr.drewN HF.out _ | with_reducible exact Fr.drewN (Fr.drewN HF.out _) _ | with_reducible exact Fr.drewN (Fr.drewN (Fr.drewN HF.out _) _) _)
        · have q1 : decide ((x : Int) < (y : Int)) = false := decide_eq_false (by omega)
          have q1N : decide (x < y) = false := decide_eq_false h1
          by_cases h2 : y < x
          · have hres : cmpS o p = 1 := by rw [HE.out, hcd.out, if_neg h1, if_pos h2]
            have HRES := Lib.hid hres
            have q2 : decide ((y : Int) < (x : Int)) = true := decide_eq_true (by omega)
            have q2N : decide (y < x) = true := decide_eq_true h2
            clear hres
            go_wp2_with fail
            go_quiet (fail)
            go_wp2_with fail
            go_quiet (fail)
            go_wp2_with fail
            go_ret
            refine ⟨by rw [HRES.out]; rfl, ?_⟩; (first | with_reducible exact HF.out | with_reducible exact Fr.drewN HF.out _ | with_reducible exact Fr.drewN (Fr.drewN HF.out _) _ | with_reducible exact Fr.drewN (Fr.drewN (Fr.drewN HF.out _) _) _)
          · have hres : cmpS o p = cmpS (o.drop (j + 1)) (p.drop (j + 1)) := by rw [HE.out, hcd.out, if_neg h1, if_neg h2]
            have HRES := Lib.hid hres
            have q2 : decide ((y : Int) < (x : Int)) = false := decide_eq_false (by omega)
            have q2N : decide (y < x) = false := decide_eq_false h2
            clear hres
            go_wp2_with fail
            go_quiet (fail)
            go_wp2_with fail
            go_quiet (fail)
            go_wp2_with fail
            go_roundg (o.length + p.length - (j + 1))
            case measure => rw [HG.out]; omega
            case rel => refine ⟨j + 1, rfl, by omega, by omega, by go_num, HRES.out, ?_⟩; (first | with_reducible exact HF.out | with_reducible exact Fr.drewN HF.out _ | with_reducible exact Fr.drewN (Fr.drewN HF.out _) _ | with_reducible exact Fr.drewN (Fr.drewN (Fr.drewN HF.out _) _) _)
      · have r3 : decide ((p.length : Int) ≤ (j : Int)) = true := decide_eq_true (by omega)
        have r3N : decide (p.length ≤ j) = true := decide_eq_true (by omega)
        have r4 : decide ((j : Int) < (p.length : Int)) = false := decide_eq_false (by omega)
        have r4N : decide (j < p.length) = false := decide_eq_false (by omega)
        have hres : cmpS o p = 1 := by
          have h1 : o.drop j = x :: o.drop (j + 1) := by
            obtain ⟨h, rfl⟩ := List.getElem?_eq_some_iff.1 hxj
            exact List.drop_eq_getElem_cons h
          have h2 : p.drop j = [] := List.drop_eq_nil_of_le (by omega)
          rw [HE.out, h1, h2]
          rfl
        have HRES := Lib.hid hres
        clear hres ha hxj F
        go_wp2_with fail
        go_quiet (fail)
        go_wp2_with fail
        go_quiet (fail)
        go_wp2_with fail
        go_ret
        refine ⟨by rw [HRES.out]; rfl, ?_⟩; (first | with_reducible exact HF.out | with_reducible exact Fr.drewN HF.out _ | with_reducible exact Fr.drewN (Fr.drewN HF.out _) _ | with_reducible exact Fr.drewN (Fr.drewN (Fr.drewN HF.out _) _) _)
    · obtain rfl : j = o.length := by omega
      have h1 : o.drop o.length = [] := List.drop_length
      have r5 : decide ((o.length : Int) ≤ (o.length : Int)) = true := decide_eq_true (by omega)
      have r5N : decide (o.length ≤ o.length) = true := decide_eq_true (by omega)
      by_cases hlt : o.length < p.length
      · have r3 : (o.length : Int) < (p.length : Int) := by omega
        have r3N : decide (o.length < p.length) = true := decide_eq_true hlt
        have hres : cmpS o p = -1 := by
          rw [HE.out, h1]
          have : p.drop o.length ≠ [] := fun e => by have := drop_nil e; omega
          cases hd : p.drop o.length with
          | nil => exact absurd hd this
          | cons y t => rfl
        have HRES := Lib.hid hres
        clear hres h1 F
        go_wp2_with fail
        go_quiet (fail)
        go_wp2_with fail
        go_ret
        refine ⟨by rw [HRES.out]; rfl, ?_⟩; (first | with_reducible exact HF.out | with_reducible exact Fr.drewN HF.out _ | with_reducible exact Fr.drewN (Fr.drewN HF.out _) _ | with_reducible exact Fr.drewN (Fr.drewN (Fr.drewN HF.out _) _) _)
      · have r3 : ¬ (o.length : Int) < (p.length : Int) := by omega
        have r3N : decide (o.length < p.length) = false := decide_eq_false hlt
        have hres : cmpS o p = 0 := by
          have h2 : p.drop o.length = [] := List.drop_eq_nil_of_le (by omega)
          rw [HE.out, h1, h2]
          rfl
        have HRES := Lib.hid hres
        clear hres h1
        go_wp2_with fail
        go_ret
        exact ⟨by rw [HRES.out]; rfl, F⟩

theorem r01Same_any (v u : Value) (o p : List UInt8) (w : World) (h : Bytes w v o) (hu : Bytes w u p) :
    Calls Tryz.prog 43 #[v, u] w fun e w' => e = .returned (.bool (decide (o = p))) ∧ Fr (fun _ => False) w w' := by
  have H := Lib.hid (r01Compare_any v u o p w h hu)
  clear h hu
  have hq : (cmpS o p == 0) = decide (o = p) := by
    rw [Bool.eq_iff_iff]
    simp [cmpS_zero]
  have HQ := Lib.hid hq
  clear hq
  generalize cmpS o p = c at *
  go_enter Tryz.func43, Tryz.ntmps43
  go_wp2_with fail
  refine H.out.mono ?_
  rintro e w' ⟨rfl, F⟩
  go_wp2_with fail
  go_ret
  exact ⟨by rw [← HQ.out]; rfl, F⟩
end Go.Proofs.YtgffhiopbnkjbaaGreatDoor

namespace Go.Proofs.YtgffhiopbnkjbaaGreatDoor
open Go Go.RowKit Go.Q
set_option linter.unusedSimpArgs false

set_option maxRecDepth 20000 in
set_option maxHeartbeats 2000000 in
theorem r14Step_any (v : Value) (l : List Part) (w : World) (h : Attrs w v l) (hf : fewB l) :
    Calls Tryz.prog 42 #[v] w fun e w' => e = .returned (.bool (rdnS l).isSome) ∧ Fr (fun _ => False) w w' := by
  have H := Lib.hid h
  obtain ⟨a, cap, rfl, hc, hm, -⟩ := h
  rcases Classical.em (l.length = 0 ∨ 16 < l.length) with hl | hl
  · have hn : rdnS l = none := by unfold rdnS; rw [if_pos hl]
    have HN := Lib.hid hn
    clear hn
    rcases hl with hl | hl
    · have q1 : (l.length : Int) < 1 := by omega
      go_enter Tryz.func42, Tryz.ntmps42
      go_wp2_with fail
      go_ret
      exact ⟨by rw [HN.out]; rfl, Fr.refl _⟩
    · have q1 : ¬ (l.length : Int) < 1 := by omega
      have q3 : (16 : Int) < (l.length : Int) := by omega
      go_enter Tryz.func42, Tryz.ntmps42
      go_wp2_with fail
      go_ret
      exact ⟨by rw [HN.out]; rfl, Fr.refl _⟩
  · have hn : rdnS l = stepsS none l := by unfold rdnS; rw [if_neg hl]
    have HN := Lib.hid hn
    have q1 : ¬ (l.length : Int) < 1 := by omega
    have q3 : ¬ (16 : Int) < (l.length : Int) := by omega
    clear hn
    go_enter Tryz.func42, Tryz.ntmps42
    go_wp2_with fail
    go_loopg [3, 4] l.length (fun g u i wr => ∃ (j : Nat) (ws : List (List UInt8)), g = l.length - j ∧ j ≤ l.length ∧ i = .int .i64 j ∧ ws.length = j ∧ (∀ y, ws.getLast? = some y → Bytes wr u y) ∧ Fr (fun _ => False) w wr ∧ (stepsS none l = (stepsS ws.getLast? (l.drop j)).map (ws ++ ·)))
    case atStart => first | exact ⟨0, [], rfl, Nat.zero_le _, rfl, rfl, fun y e => by simp at e, Fr.refl _, by simp⟩ | exact ⟨0, [], rfl, Nat.zero_le _, rfl, fun y e => by simp at e, Fr.refl _, by simp⟩
    case round =>
      obtain ⟨j, ws, hg, hj, rfl, hws, hwl, F, hS⟩ := hrel
      have HG := Lib.hid hg
      have HS := Lib.hid hS
      have HF := Lib.hid F
      have HWS := Lib.hid hws
      have HWL := Lib.hid hwl
      clear hg hS hws hwl
      by_cases hjl : j < l.length
      · obtain ⟨a0, cap0, he, _, _, hx⟩ := H.out.old F
        simp only [Value.slice.injEq, true_and] at he
        obtain ⟨rfl, rfl⟩ := he
        obtain ⟨b, off, rfl, hy⟩ := hx (by omega)
        obtain ⟨p, hp⟩ : ∃ p, l[j]? = some p := ⟨_, List.getElem?_eq_getElem hjl⟩
        obtain ⟨x, y, e1, e2, hpx, hpy⟩ := hy j p hp
        have hsp := Lib.hid (stepsS_split l j p hp ws.getLast?)
        have hpb := hf p (List.mem_of_getElem? hp)
        have r1 : (0 : Int) ≤ (j : Int) := by omega
        have r2 : (j : Int) < (l.length : Int) := by omega
        obtain ⟨ax, cx, rfl, -⟩ := Ints.form hpx
        obtain ⟨ay, cy, rfl, -⟩ := Vals.form hpy
        have HW := Lib.hid (r14Whole_any _ _ p.o p.b wr hpx hpy hpb)
        have e1' : wr.cell? ⟨b, off + j * 2, none⟩ = some (.slice ax p.o.length cx) := by rw [Nat.mul_comm]; exact e1
        have e2' : wr.cell? ⟨b, off + j * 2 + 1, none⟩ = some (.slice ay p.b.length cy) := by rw [Nat.mul_comm]; exact e2
        clear hx hy hp hpx hpy F e1 e2
        go_wp2_with fail
        refine HW.out.mono ?_
        rintro e w2 ⟨hout, F2⟩
        have HF2 := Lib.hid (HF.out.trans F2)
        have HWL2 := Lib.hid (fun y h => (HWL.out y h).old F2)
        unfold rWholeOut at hout
        clear e1' e2' HF F2 HW HWL
        cases hq : attrS p.o p.b with
        | none =>
          rw [hq] at hout
          subst hout
          have hn : rdnS l = none := by rw [HN.out, HS.out, hsp.out, hq]; rfl
          have HNN := Lib.hid hn
          clear hn hq
          go_wp2_with fail
          go_ret
          exact ⟨by rw [HNN.out]; rfl, HF2.out⟩
        | some x =>
          rw [hq] at hout
          obtain ⟨v2, rfl, ho2⟩ := hout
          have hb2 := (Vals.of_own ho2).1
          have HB2 := Lib.hid hb2
          obtain ⟨a2, c2, rfl, -⟩ := hb2.form
          have hsp1 := hsp.out
          rw [hq] at hsp1
          have HSP := Lib.hid hsp1
          have hlen : (ws ++ [x]).length = j + 1 := by simp [HWS.out]
          have HLEN := Lib.hid hlen
          clear hb2 ho2 hsp hsp1 hq hlen
          by_cases hj0 : j = 0
          · subst hj0
            have hw0 : ws = [] := List.length_eq_zero_iff.1 HWS.out
            have hnx := steps_next HS.out HSP.out (by rw [hw0]; rfl)
            have HNX := Lib.hid hnx
            clear hnx hw0
            go_wp2_with fail
            go_roundg (l.length - (0 + 1))
            case measure => rw [HG.out]; omega
            case rel => exact ⟨0 + 1, ws ++ [x], rfl, by omega, by go_num, HLEN.out, fun y e => by rw [List.getLast?_concat] at e; cases e; exact HB2.out, HF2.out, HNX.out⟩
          · obtain ⟨k, rfl⟩ : ∃ k, j = k + 1 := ⟨j - 1, by omega⟩
            have hws2 := HWS.out
            obtain ⟨xk, hxk⟩ : ∃ x, ws[k]? = some x := ⟨_, List.getElem?_eq_getElem (by omega)⟩
            have hlast : ws.getLast? = some xk := by rw [List.getLast?_eq_getElem?, hws2]; exact hxk
            have hbk := HWL2.out xk hlast
            have hsp2 := HSP.out
            rw [hlast] at hsp2
            have t2 : (0 : Int) < ((k + 1 : Nat) : Int) := by omega
            have HCM := Lib.hid (r01Compare_any _ _ xk x w2 hbk HB2.out)
            obtain ⟨cm, hcm⟩ : ∃ cm, cm = cmpS xk x := ⟨_, rfl⟩
            have HCC := Lib.hid hcm
            rw [← hcm] at HCM
            have HLA := Lib.hid hlast
            clear hsp2 hxk hlast hcm hbk
            by_cases hge : 0 ≤ cm
            · have hn : rdnS l = none := by
                rw [HN.out, HS.out, HSP.out, HLA.out]
                simp [← HCC.out, hge]
              have HNN := Lib.hid hn
              clear hn
              go_wp2_with fail
              refine HCM.out.mono ?_
              rintro e w3 ⟨rfl, F3⟩
              go_wp2_with fail
              go_ret
              exact ⟨by rw [HNN.out]; rfl, HF2.out.trans F3⟩
            · have hcond : (match ws.getLast? with | some y => decide (0 ≤ cmpS y x) | none => false) = false := by
                rw [HLA.out]
                simp only [← HCC.out]
                exact decide_eq_false hge
              have HNX := Lib.hid (steps_next HS.out HSP.out hcond)
              clear hcond
              go_wp2_with fail
              refine HCM.out.mono ?_
              rintro e w3 ⟨rfl, F3⟩
              go_wp2_with fail
              go_roundg (l.length - (k + 1 + 1))
              case measure => rw [HG.out]; omega
              case rel => exact ⟨k + 1 + 1, ws ++ [x], rfl, by omega, by go_num, HLEN.out, fun y e => by rw [List.getLast?_concat] at e; cases e; exact HB2.out.old F3, HF2.out.trans F3, HNX.out⟩
      · have hd : l.drop j = [] := List.drop_eq_nil_of_le (by omega)
        have hres : rdnS l = some ws := by rw [HN.out, HS.out, hd]; simp [stepsS]
        have HRES := Lib.hid hres
        clear hd hres
        go_wp2_with fail
        go_ret
        exact ⟨by rw [HRES.out]; rfl, F⟩

set_option maxRecDepth 20000 in
set_option maxHeartbeats 2000000 in
theorem r14Right_any (v : Value) (n : List (List Part)) (w : World) (h : NameAt w v n) (hf : ∀ r ∈ n, fewB r) :
    Calls Tryz.prog 20 #[v] w fun e w' => e = .returned (.bool (nameOk n)) ∧ Fr (fun _ => False) w w' := by
  have H := Lib.hid h
  obtain ⟨a, cap, rfl, hc, hm, -⟩ := h
  have hcm : cap ≤ 9223372036854775807 := by unfold maxLen at hm; omega
  have hn : nameOk n = (decide (n.length ≤ 64) && n.all (fun r => (rdnS r).isSome)) := rfl
  have HN := Lib.hid hn
  clear hn
  go_enter Tryz.func20, Tryz.ntmps20
  go_wp2_with fail
  go_loopg [3] n.length (fun g i wr => ∃ j : Nat, g = n.length - j ∧ j ≤ n.length ∧ i = .int .i64 j ∧ (∀ r ∈ n.take j, (rdnS r).isSome = true) ∧ Fr (fun _ => False) w wr)
  case atStart => exact ⟨0, rfl, Nat.zero_le _, rfl, by simp, Fr.refl _⟩
  case round =>
    obtain ⟨j, hg, hj, rfl, he, F⟩ := hrel
    have HG := Lib.hid hg
    have HE := Lib.hid he
    have HF := Lib.hid F
    clear hg he
    by_cases hjl : j < n.length
    · obtain ⟨a0, cap0, he, _, _, hx⟩ := H.out.old F
      simp only [Value.slice.injEq, true_and] at he
      obtain ⟨rfl, rfl⟩ := he
      obtain ⟨b, off, rfl, hy⟩ := hx (by omega)
      obtain ⟨r, hr⟩ : ∃ r, n[j]? = some r := ⟨_, List.getElem?_eq_getElem hjl⟩
      obtain ⟨x, e1, hA⟩ := hy j r hr
      have r1 : (0 : Int) ≤ (j : Int) := by omega
      have r2 : (j : Int) < (n.length : Int) := by omega
      have HW := Lib.hid (r14Step_any x r wr hA (hf r (List.mem_of_getElem? hr)))
      have HR := Lib.hid hr
      clear hx hy hr hA F
      obtain ⟨o, ho⟩ : ∃ o, o = (rdnS r).isSome := ⟨_, rfl⟩
      have HO := Lib.hid ho
      rw [← ho] at HW
      clear ho
      go_wp2_with fail
      refine HW.out.mono ?_
      rintro e w2 ⟨rfl, F2⟩
      have G2 := HF.out.trans F2
      clear HF F2
      cases o with
      | false =>
        have hn : n.all (fun r => (rdnS r).isSome) = false := by
          rw [List.all_eq_false]
          exact ⟨r, List.mem_of_getElem? HR.out, by rw [← HO.out]; simp⟩
        have HNN := Lib.hid hn
        clear hn
        go_wp2_with fail
        go_ret
        exact ⟨by rw [HN.out, HNN.out, Bool.and_false]; rfl, G2⟩
      | true =>
        go_wp2_with fail
        go_roundg (n.length - (j + 1))
        case measure => rw [HG.out]; omega
        case rel =>
          refine ⟨j + 1, rfl, by omega, by go_num, fun s hs => ?_, G2⟩
          rw [List.take_add_one, HR.out] at hs
          rcases List.mem_append.1 hs with h | h
          · exact HE.out s h
          · simp at h
            rw [h, ← HO.out]
    · have hall : n.all (fun r => (rdnS r).isSome) = true := by
        rw [List.all_eq_true]
        have := HE.out
        rwa [List.take_of_length_le (by omega)] at this
      have HNN := Lib.hid hall
      clear hall
      by_cases h64 : n.length ≤ 64
      · have q1 : ¬ (64 : Int) < (n.length : Int) := by omega
        have q2 : (n.length : Int) ≤ 64 := by omega
        have HD := Lib.hid (decide_eq_true h64)
        clear h64
        go_wp2_with fail
        go_ret
        exact ⟨by rw [HN.out, HNN.out, HD.out]; rfl, F⟩
      · have q1 : (64 : Int) < (n.length : Int) := by omega
        have q2 : ¬ (n.length : Int) ≤ 64 := by omega
        have HD := Lib.hid (decide_eq_false h64)
        clear h64
        go_wp2_with fail
        go_ret
        exact ⟨by rw [HN.out, HNN.out, HD.out]; rfl, F⟩
end Go.Proofs.YtgffhiopbnkjbaaGreatDoor
