/-
  Go's library: slices.Grow of nil, slices.Concat of steps; slices.Compare of integers. The walks of the law's Step, To, Of. What is kept by rows of one's own. The walk of the law's Of, once more: what is kept when others change. Slices of elements of any kind: read, and in rows of one's own. Rows that are appended, whatever they are; slices.Clone. All elements of a slice are appended to a row of one's own. What names of one part mean: plain laws: a text of another kind with the same signs means the same; another type does not. The walks of the layers 4 and 14: oid.Compare, name.Texts. The chapter's example of names: closed facts. The walk of the layer 14 (name): Under. The walks of the layer 14 (name): copied, Add, and slices.Concat of names. The reference of the layer 1: Compare, Same, Hex. The reference of the layer 4: Right, Compare, Same. For a drawn region that is walked operation by operation: the operation at a place of a row that is written out. The reference of the layer 14: Like. What a reading gives, as a value and an error; names of no and of one step. Parts of strings, as the walk wants them. The reference of the layer 4: FromText. The reference of the layer 6: Kind, among, May. The reference of the layer 6: Utf8. The reference of the layer 6: what wide is to answer. The reference of the layer 6: wide. The reference of the layer 6: Signs: what it is to answer; the walks of no kind, and of UTF-8.
-/
import Derived.Test.YtgffhiopbnkjbaaGreatDoorA0b
import Derived.Lib.AppendZerosOnto
import Derived.Lib.SliceRun
import Derived.Lib.Walk
import Derived.Laws.OwnMore
import Derived.Test.YtgffhiopbnkjbaaGreatDoorA0a
import Derived.Laws.Strings3
namespace Go.Q
open Go Go.RowKit
/-- Which of two rows of numbers is less. -/
def cmpI : List Int → List Int → Int
  | [], [] => 0
  | [], _ :: _ => -1
  | _ :: _, [] => 1
  | x :: s, y :: t => if x < y then -1 else if y < x then 1 else cmpI s t
theorem cmpI_zero : ∀ (s t : List Int), cmpI s t = 0 ↔ s = t
  | [], [] => by simp [cmpI]
  | [], _ :: _ => by simp [cmpI]
  | _ :: _, [] => by simp [cmpI]
  | x :: s, y :: t => by
    have ih := cmpI_zero s t
    unfold cmpI
    split
    · simp; intro h; omega
    · split
      · simp; intro h; omega
      · rw [ih]
        simp
        intro _
        omega
/-- A row of parts of one's own, its texts read in w. -/
def AttrRow (w wr : World) (base : Nat) (v : Value) (l : List Part) : Prop :=
  ∃ cs : List Value, wr.ownsRow base 39 2 v l.length cs ∧ ∀ (i : Nat) (p : Part), l[i]? = some p → ∃ x y, cs[2 * i]? = some x ∧ cs[2 * i + 1]? = some y ∧ Vals w x (intCells p.o) ∧ Bytes w y p.b
theorem AttrRow.at {w wr : World} {base : Nat} {v : Value} {l : List Part} (h : AttrRow w wr base v l) (F : Fr (fun _ => False) w wr) : Attrs wr v l := by
  obtain ⟨cs, ⟨h1, h2⟩, h3⟩ := h
  rcases h2 with ⟨rfl, h0⟩ | ⟨g, cap, cur, rfl, hg, hh, hnc, hcm, hcs, htk⟩
  · exact ⟨none, 0, by rw [h0], by omega, by unfold maxLen; omega, fun h => by omega⟩
  · refine ⟨_, cap, rfl, hnc, hcm, fun _ => ⟨g, 0, rfl, fun i p hp => ?_⟩⟩
    obtain ⟨x, y, e1, e2, e3, e4⟩ := h3 i p hp
    have hi := (List.getElem?_eq_some_iff.1 hp).1
    have gc : ∀ k, k < l.length * 2 → wr.cell? ⟨g, 0 + k, none⟩ = cs[k]? := fun k hk => by
      have := congrArg (fun z : List Value => z[k]?) htk
      simp only [List.getElem?_take, if_pos hk, Array.getElem?_toList] at this
      rw [Nat.zero_add]
      simp only [World.cell?, hh]
      exact this
    refine ⟨x, y, ?_, ?_, e3.old F, e4.old F⟩
    · rw [gc (2 * i) (by omega)]; exact e1
    · rw [Nat.add_assoc, gc (2 * i + 1) (by omega)]; exact e2
theorem AttrRow.start {w wr : World} {base : Nat} {v : Value} (h : wr.ownsRow base 39 2 v 0 []) : AttrRow w wr base v [] := ⟨[], h, fun i p hp => by simp at hp⟩
theorem nmFlat_take {n : List (List Part)} {j : Nat} {r : List Part} (h : n[j]? = some r) : (n.take (j + 1)).flatten = (n.take j).flatten ++ r := by
  rw [List.take_add_one, h]
  simp
end Go.Q
namespace Go.Proofs.YtgffhiopbnkjbaaGreatDoor
open Go Go.RowKit Go.Q
theorem info39 : (Tryz.prog.info? 39).map (fun i => (i.zero, i.size, i.bytes)) = some (some (.agg #[.slice none 0 0, .slice none 0 0]), 2, 48) := by kernel_rfl

set_option maxRecDepth 20000 in
set_option maxHeartbeats 1000000 in
theorem growAttr_any (n : Nat) (w : World) (hn : n ≤ 1000000000) :
    Calls Tryz.prog 92 #[.slice none 0 0, .int .i64 n] w fun e w' => (∃ a c, e = .returned (.slice a 0 c) ∧ w'.ownsRow w.heap.size 39 2 (.slice a 0 c) 0 []) ∧ Fr (fun _ => False) w w' := by
  obtain ⟨i0, hi0, hz0, hz1, hz2⟩ := info_parts info39
  have w0 : wrap64 ((n : Int) - 0) = (n : Int) := by unfold wrap64; omega
  rcases Nat.eq_zero_or_pos n with rfl | h0
  · go_enter Tryz.func92, Tryz.ntmps92
    go_wp2_with fail
    go_ret
    exact ⟨⟨none, 0, rfl, rfl, .inl ⟨rfl, rfl⟩⟩, Fr.refl _⟩
  · have hrz := fun ty => Lib.run_append_grow_zeros (P := Tryz.prog) w 41 3 ty 39 i0 _ .i64 .i64 Tryz.underlying41 Tryz.underlying3 hi0 hz0 none 0 0 [] (by rw [hz1]; rfl) n h0 (by rw [hz1]; decide) (by omega) (by omega) (by rw [hz2]; omega) (growslice_fits (by omega) (by rw [hz2]; omega))
    have hG := grownCap_ge w (0 + n) 0 39
    have hG2 := grownCap_le_maxLen w (0 + n) 0 39 (by unfold maxLen; omega)
    have hcsz : (([] : List Value).toArray ++ Builtin.zeroCells (Value.agg #[.slice none 0 0, .slice none 0 0]).cells n ++ Builtin.zeroCells (Value.agg #[.slice none 0 0, .slice none 0 0]).cells (grownCap w (0 + n) 0 39 - (0 + n))).size = grownCap w (0 + n) 0 39 * 2 := by
      simp only [Array.size_append, size_zeroCells, List.size_toArray, List.length_nil]
      have : (Value.agg #[.slice none 0 0, .slice none 0 0]).cells.size = 2 := rfl
      rw [this]
      omega
    generalize ([] : List Value).toArray ++ Builtin.zeroCells (Value.agg #[.slice none 0 0, .slice none 0 0]).cells n ++ Builtin.zeroCells (Value.agg #[.slice none 0 0, .slice none 0 0]).cells (grownCap w (0 + n) 0 39 - (0 + n)) = cs at *
    generalize grownCap w (0 + n) 0 39 = G at *
    rw [Nat.zero_add] at hrz hG
    have BX := (Blk.new w.drew 39 cs)
    have F : Fr (fun _ => False) w (w.drew.alloc (.cells cs 39)) := (Fr.refl w).drew.alloc _
    have hown : (w.drew.alloc (.cells cs 39)).ownsRow w.heap.size 39 2 (.slice (some ⟨w.heap.size, 0, none⟩) 0 G) 0 [] := ⟨rfl, .inr ⟨w.heap.size, G, cs, rfl, Nat.le_refl _, BX, Nat.zero_le _, hG2, hcsz, rfl⟩⟩
    have HO := Lib.hid hown
    have HF := Lib.hid F
    have HRZ := Lib.hid hrz
    have hG63 : (G : Int) ≤ 9223372036854775807 := by unfold maxLen at hG2; omega
    have h1 : (0 : Int) < (n : Int) := by omega
    have hgn : (n : Int) ≤ (G : Int) := by omega
    clear hown F BX hrz hi0 hz0 hz1 hz2 hcsz hG2
    go_enter Tryz.func92, Tryz.ntmps92
    go_wp2_with (at_builtin; refine Lib.wpList_append_run _ rfl _ _ _ _ rfl _ _ rfl rfl _ _ (HRZ.out _) ?_)
    all_goals
      go_ret
      exact ⟨⟨_, _, rfl, HO.out⟩, HF.out⟩

/-- A step's parts are appended. -/
theorem AttrRow.add {w wr : World} {base : Nat} {v u : Value} {l r : List Part} (h : AttrRow w wr base v l) (hb : base ≤ wr.heap.size) (F : Fr (fun _ => False) w wr) (hr : Attrs w u r) (hr0 : 0 < r.length) (hn : l.length + r.length ≤ 1099511627776) :
    ∃ a c w', (Builtin.append_ #[41, 41] 41 #[v, u]).run Tryz.prog wr = .ok (.slice a (l.length + r.length) c) w' ∧ AttrRow w w' base (.slice a (l.length + r.length) c) (l ++ r) ∧ Fr (fun k => v.ownBlock = some k) wr w' := by
  obtain ⟨cs, h1, h3⟩ := h
  obtain ⟨ar, cr, rfl, hrc, hrm, hx⟩ := hr
  obtain ⟨b, o, rfl, hy⟩ := hx hr0
  have hcell : ∀ i, i < r.length → ∃ p x y, r[i]? = some p ∧ w.cell? ⟨b, o + 2 * i, none⟩ = some x ∧ w.cell? ⟨b, o + 2 * i + 1, none⟩ = some y ∧ Vals w x (intCells p.o) ∧ Bytes w y p.b := fun i hi => by
    obtain ⟨x, y, e⟩ := hy i _ (List.getElem?_eq_getElem hi)
    exact ⟨_, x, y, List.getElem?_eq_getElem hi, e⟩
  have hall : ∀ k, k < r.length * 2 → ∃ x, w.cell? ⟨b, o + k, none⟩ = some x ∧ x.oneCell' = true := fun k hk => by
    obtain ⟨p, x, y, -, e1, e2, e3, e4⟩ := hcell (k / 2) (by omega)
    rcases Nat.mod_two_eq_zero_or_one k with h0 | h0
    · obtain ⟨ax, cx, rfl, -⟩ := Ints.form e3
      exact ⟨_, by rw [show k = 2 * (k / 2) from by omega]; exact e1, rfl⟩
    · obtain ⟨ay, cy, rfl, -⟩ := Vals.form e4
      exact ⟨_, by rw [show k = 2 * (k / 2) + 1 from by omega, ← Nat.add_assoc]; exact e2, rfl⟩
  obtain ⟨news, hnl, hnews⟩ : ∃ news : List Value, news.length = r.length * 2 ∧ ∀ k x, news[k]? = some x → w.cell? ⟨b, o + k, none⟩ = some x ∧ x.oneCell' = true := by
    refine ⟨(List.range (r.length * 2)).map fun k => (w.cell? ⟨b, o + k, none⟩).getD undef, by simp, fun k x hk => ?_⟩
    have hkl : k < r.length * 2 := by
      have := (List.getElem?_eq_some_iff.1 hk).1
      simpa using this
    obtain ⟨y, e1, e2⟩ := hall k hkl
    rw [List.getElem?_map, List.getElem?_range hkl] at hk
    simp only [Option.map_some, Option.some.injEq] at hk
    rw [e1] at hk
    simp only [Option.getD_some] at hk
    subst hk
    exact ⟨e1, e2⟩
  obtain ⟨a, c, w', hrun, h4, F2, -⟩ := append_gen Tryz.underlying41 info39 rfl (by decide) (by decide) h1 hb ⟨b, o, none⟩ r.length cr news hnl (fun k x hk => by
    rw [show (⟨b, o, none⟩ : Addr).add k = ⟨b, o + k, none⟩ from by unfold Addr.add; split <;> simp_all]
    exact F.cell (hnews k x hk).1 (fun h => h)) (fun x hx => by
    obtain ⟨k, hk⟩ := List.mem_iff_getElem?.1 hx
    exact (hnews k x hk).2) hn
  have hcl : cs.length = l.length * 2 := h1.1
  refine ⟨a, c, w', hrun, ⟨cs ++ news, by rw [List.length_append]; exact h4, fun i p hp => ?_⟩, F2⟩
  rcases Nat.lt_or_ge i l.length with hi | hi
  · rw [List.getElem?_append_left hi] at hp
    obtain ⟨x, y, e1, e2, e3⟩ := h3 i p hp
    exact ⟨x, y, by rw [List.getElem?_append_left (by omega)]; exact e1, by rw [List.getElem?_append_left (by omega)]; exact e2, e3⟩
  · rw [List.getElem?_append_right hi] at hp
    have hil := (List.getElem?_eq_some_iff.1 hp).1
    obtain ⟨q, x, y, hq, e1, e2, e3⟩ := hcell (i - l.length) hil
    rw [hp] at hq
    simp only [Option.some.injEq] at hq
    subst hq
    have g1 : news[2 * (i - l.length)]? = some x := by
      have hlt : 2 * (i - l.length) < news.length := by omega
      obtain ⟨z, hz⟩ : ∃ z, news[2 * (i - l.length)]? = some z := ⟨_, List.getElem?_eq_getElem hlt⟩
      have := (hnews _ z hz).1
      rw [e1] at this
      rw [hz, ← this]
    have g2 : news[2 * (i - l.length) + 1]? = some y := by
      have hlt : 2 * (i - l.length) + 1 < news.length := by omega
      obtain ⟨z, hz⟩ : ∃ z, news[2 * (i - l.length) + 1]? = some z := ⟨_, List.getElem?_eq_getElem hlt⟩
      have := (hnews _ z hz).1
      rw [← Nat.add_assoc, e2] at this
      rw [hz, ← this]
    refine ⟨x, y, ?_, ?_, e3⟩
    · rw [List.getElem?_append_right (by omega), show 2 * i - cs.length = 2 * (i - l.length) from by omega]; exact g1
    · rw [List.getElem?_append_right (by omega), show 2 * i + 1 - cs.length = 2 * (i - l.length) + 1 from by omega]; exact g2

set_option maxRecDepth 20000 in
set_option maxHeartbeats 2000000 in
theorem concatRdn_any (v : Value) (n : List (List Part)) (w : World) (h : NameAt w v n) (hn : n.length ≤ 1000) (hr : ∀ r ∈ n, 0 < r.length ∧ r.length ≤ 1000) :
    Calls Tryz.prog 59 #[v] w fun e w' => (∃ u, e = .returned u ∧ Attrs w' u n.flatten) ∧ Fr (fun _ => False) w w' := by
  have H := Lib.hid h
  have HR := Lib.hid hr
  obtain ⟨a, cap, rfl, -⟩ := h
  have hfl : ∀ j, ((n.take j).flatten).length ≤ 1000 * 1000 := fun j => by
    have : ∀ m : List (List Part), (∀ r ∈ m, r.length ≤ 1000) → m.flatten.length ≤ m.length * 1000 := by
      intro m
      induction m with
      | nil => intro _; simp
      | cons x t ih =>
        intro hm
        have h1 := hm x (by simp)
        have h2 := ih (fun r hr => hm r (by simp [hr]))
        simp only [List.flatten_cons, List.length_append, List.length_cons, Nat.add_mul]
        omega
    have h1 := this (n.take j) (fun r hm => (HR.out r (List.mem_of_mem_take hm)).2)
    have h2 : (n.take j).length * 1000 ≤ 1000 * 1000 := Nat.mul_le_mul_right _ (by rw [List.length_take]; omega)
    omega
  have HFL := Lib.hid hfl
  clear hr hfl
  go_enter Tryz.func59, Tryz.ntmps59
  go_wp2_with fail
  go_loopg [3, 11] n.length (fun g s i wr => ∃ (j m : Nat), g = n.length - j ∧ j ≤ n.length ∧ s = .int .i64 m ∧ i = .int .i64 j ∧ m = ((n.take j).flatten).length ∧ wr = w)
  case atStart => exact ⟨0, 0, rfl, Nat.zero_le _, rfl, rfl, rfl, rfl⟩
  case round =>
    obtain ⟨j, m, hg, hj, rfl, rfl, hm, rfl⟩ := hrel
    have HG := Lib.hid hg
    have hml : m ≤ 1000 * 1000 := by rw [hm]; exact HFL.out j
    have HM := Lib.hid hm
    clear hg hm
    by_cases hjl : j < n.length
    · obtain ⟨a0, cap0, he, _, _, hx⟩ := H.out
      simp only [Value.slice.injEq, true_and] at he
      obtain ⟨rfl, rfl⟩ := he
      obtain ⟨b, off, rfl, hy⟩ := hx (by omega)
      obtain ⟨r, hr⟩ : ∃ r, n[j]? = some r := ⟨_, List.getElem?_eq_getElem hjl⟩
      obtain ⟨x, e1, hA⟩ := hy j r hr
      obtain ⟨ax, cx, rfl⟩ := hA.form
      have HFT := Lib.hid (nmFlat_take hr)
      have b2 := (HR.out r (List.mem_of_getElem? hr)).2
      have r1 : (0 : Int) ≤ (j : Int) := by omega
      have r2 : (j : Int) < (n.length : Int) := by omega
      clear hx hy hr hA
      have hnn : ¬ ((m : Int) + (r.length : Int)) < 0 := by omega
      go_wp2_with fail
      go_roundg (n.length - (j + 1))
      case measure => rw [HG.out]; omega
      case rel => exact ⟨j + 1, m + r.length, rfl, by omega, by go_num, by go_num, by rw [HFT.out, HM.out, List.length_append], rfl⟩
    · obtain rfl : j = n.length := by omega
      obtain ⟨wo, rfl⟩ : ∃ wo : World, wo = wr := ⟨_, rfl⟩
      have HGR := Lib.hid (growAttr_any m wo (by omega))
      clear hjl
      go_wp2_with fail
      refine HGR.out.mono ?_
      rintro e w1 ⟨⟨a1, c1, rfl, hown1⟩, F1⟩
      have HO1 := Lib.hid hown1
      have HF1 := Lib.hid F1
      clear HGR hown1 F1
      go_wp2_with fail
      go_loopg [6, 27] n.length (fun g s i w2 => ∃ (j : Nat) (l : List Part) (a2 : Option Addr) (c2 : Nat), g = n.length - j ∧ j ≤ n.length ∧ s = .slice a2 l.length c2 ∧ i = .int .i64 j ∧ l = (n.take j).flatten ∧ AttrRow wo w2 wo.heap.size (.slice a2 l.length c2) l ∧ Fr (fun _ => False) wo w2)
      case atStart => exact ⟨0, [], a1, c1, rfl, Nat.zero_le _, rfl, rfl, rfl, AttrRow.start HO1.out, HF1.out⟩
      case round =>
        obtain ⟨j, l, a2, c2, hg, hj, rfl, rfl, hl, hrow, F2⟩ := hrel
        have HG := Lib.hid hg
        have HRW := Lib.hid hrow
        have HF2 := Lib.hid F2
        have hll : l.length ≤ 1000 * 1000 := by rw [hl]; exact HFL.out j
        have HL := Lib.hid hl
        clear hg hrow hl
        by_cases hjl : j < n.length
        · obtain ⟨a0, cap0, he, _, _, hx⟩ := H.out
          simp only [Value.slice.injEq, true_and] at he
          obtain ⟨rfl, rfl⟩ := he
          obtain ⟨b, off, rfl, hy⟩ := hx (by omega)
          obtain ⟨r, hr⟩ : ∃ r, n[j]? = some r := ⟨_, List.getElem?_eq_getElem hjl⟩
          obtain ⟨x, e0, hA⟩ := hy j r hr
          have e1 := F2.cell e0 (fun h => h)
          have hrr := HR.out r (List.mem_of_getElem? hr)
          have HFT := Lib.hid (nmFlat_take hr)
          have hs2 := F2.size
          obtain ⟨a4, c4, w4, hrun, hrow4, F4⟩ := AttrRow.add HRW.out hs2 F2 hA hrr.1 (by omega)
          obtain ⟨ax, cx, rfl⟩ := hA.form
          have hbk : ∀ k, (Value.slice a2 l.length c2).ownBlock = some k → wo.heap.size ≤ k := fun k hk => by
            obtain ⟨cs, h1, -⟩ := HRW.out
            exact (h1.lt k hk).1
          have HF4 := Lib.hid (F2.trans' F4 (fun i hi e => by have := hbk i e; omega))
          have HRUN := Lib.hid hrun
          have HRW4 := Lib.hid hrow4
          have r1 : (0 : Int) ≤ (j : Int) := by omega
          have r2 : (j : Int) < (n.length : Int) := by omega
          clear hx hy hr hA hbk F4 hrun hrow4 F2 HRW HF2 e0
          go_wp2_with (at_builtin; refine wpList_append_run (by rfl) (.tmp 31) (.tmp 32) 41 (by rfl) _ w4 (by exact HRUN.out) ?_)
          go_roundg (n.length - (j + 1))
          case measure => rw [HG.out]; omega
          case rel => exact ⟨j + 1, l ++ r, a4, c4, rfl, by omega, by rw [List.length_append], by go_num, by rw [HFT.out, HL.out], by rw [List.length_append]; exact HRW4.out, HF4.out⟩
        · obtain rfl : j = n.length := by omega
          have hl2 := HL.out
          rw [List.take_length] at hl2
          have HAT := Lib.hid (HRW.out.at F2)
          have HL2 := Lib.hid hl2
          clear hl2 HRW
          go_wp2_with fail
          go_ret
          exact ⟨⟨_, rfl, by rw [← HL2.out]; exact HAT.out⟩, HF2.out⟩
end Go.Proofs.YtgffhiopbnkjbaaGreatDoor

namespace Go.Q
open Go Go.RowKit
theorem Ints.cut {w : World} {a : Option Addr} {c : Nat} {l : List Int} (h : Ints w (.slice a l.length c) l) (N m : Nat) (hm : m = min l.length N) : Ints w (.slice a m c) (l.take N) := by
  obtain ⟨a0, c0, he, h1, h2, -⟩ := Ints.form h
  simp only [Value.slice.injEq] at he
  obtain ⟨rfl, -, rfl⟩ := he
  have := Vals.sub h 0 m (Nat.zero_le _) (by omega) a c (fun _ b o e => by simpa using e) (by omega) h2
  simp only [Nat.sub_zero, List.drop_zero] at this
  have e : l.take N = l.take m := by
    rw [hm, ← List.take_take, List.take_of_length_le (l := l.take N) (by rw [List.length_take]; omega)]
  unfold Ints intCells
  rw [e, List.map_take]
  exact this
theorem Vals.cut {w : World} {a : Option Addr} {c : Nat} {l : List UInt8} (h : Bytes w (.slice a l.length c) l) (N m : Nat) (hm : m = min l.length N) : Bytes w (.slice a m c) (l.take N) := by
  obtain ⟨a0, c0, he, h1, h2, -⟩ := Vals.form h
  simp only [Value.slice.injEq] at he
  obtain ⟨rfl, -, rfl⟩ := he
  have := Vals.sub h 0 m (Nat.zero_le _) (by omega) a c (fun _ b o e => by simpa using e) (by omega) h2
  simp only [Nat.sub_zero, List.drop_zero] at this
  have e : l.take N = l.take m := by
    rw [hm, ← List.take_take, List.take_of_length_le (l := l.take N) (by rw [List.length_take]; omega)]
  unfold Bytes Lib.byteCells
  rw [e, List.map_take]
  exact this
theorem map_take_succ {α β : Type} (f : α → β) {l : List α} {j : Nat} {x : α} (h : l[j]? = some x) : (l.take (j + 1)).map f = (l.take j).map f ++ [f x] := by
  rw [List.take_add_one, h]
  simp
end Go.Q
namespace Go.Proofs.YtgffhiopbnkjbaaGreatDoor
open Go Go.RowKit Go.Q
set_option linter.unusedSimpArgs false

set_option maxRecDepth 20000 in
set_option maxHeartbeats 4000000 in
theorem lawStep_any (v : Value) (l : List Part) (w0 w : World) (h : Attrs w0 v l) (F0 : Fr (fun _ => False) w0 w) :
    Calls Tryz.prog 53 #[v] w fun e w' => (∃ a c, e = .returned (.slice a (cutStep l).length c) ∧ ARow 39 w0 w' w.heap.size (.slice a (cutStep l).length c) (cutStep l)) ∧ Fr (fun _ => False) w w' := by
  have H := Lib.hid h
  have HF0 := Lib.hid F0
  obtain ⟨a, cap, rfl, -⟩ := h
  have hcs : cutStep l = (l.take 20).map cutPart := rfl
  have HCS := Lib.hid hcs
  clear hcs F0
  go_enter Tryz.func53, Tryz.ntmps53
  go_wp2_with fail
  go_loopg [3, 4] l.length (fun g u i wr => ∃ (j : Nat) (au : Option Addr) (cu : Nat), g = l.length - j ∧ j ≤ l.length ∧ j ≤ 20 ∧ u = .slice au j cu ∧ i = .int .i64 j ∧ ARow 39 w0 wr w.heap.size (.slice au j cu) ((l.take j).map cutPart) ∧ Fr (fun _ => False) w wr)
  case atStart => exact ⟨0, none, 0, rfl, Nat.zero_le _, by omega, rfl, rfl, ARow.nil _ _ _ _, Fr.refl _⟩
  case round =>
    obtain ⟨j, au, cu, hg, hj, hj20, rfl, rfl, hrow, F⟩ := hrel
    have HG := Lib.hid hg
    have HRW := Lib.hid hrow
    have HF := Lib.hid F
    have hml : ((l.take j).map cutPart).length = j := by rw [List.length_map, List.length_take]; omega
    have HML := Lib.hid hml
    clear hg hrow hml
    by_cases hjl : j < l.length
    · have q1 : (j : Int) < (l.length : Int) := by omega
      by_cases h20 : j < 20
      · have q2 : (j : Int) < 20 := by omega
        obtain ⟨a0, cap0, he, _, _, hx⟩ := H.out
        simp only [Value.slice.injEq, true_and] at he
        obtain ⟨rfl, rfl⟩ := he
        obtain ⟨b, off, rfl, hy⟩ := hx (by omega)
        obtain ⟨p, hp⟩ : ∃ p, l[j]? = some p := ⟨_, List.getElem?_eq_getElem hjl⟩
        obtain ⟨x, y, e1, e2, hpx, hpy⟩ := hy j p hp
        obtain ⟨ax, cx, rfl, hcx, hmx, -⟩ := Ints.form hpx
        obtain ⟨ay, cy, rfl, hcy, hmy, -⟩ := Vals.form hpy
        have e1' : wr.cell? ⟨b, off + j * 2, none⟩ = some (.slice ax p.o.length cx) := by rw [Nat.mul_comm]; exact (HF0.out.trans F).cell e1 (fun h => h)
        have e2' : wr.cell? ⟨b, off + j * 2 + 1, none⟩ = some (.slice ay p.b.length cy) := by rw [Nat.mul_comm]; exact (HF0.out.trans F).cell e2 (fun h => h)
        obtain ⟨mo, hmo⟩ : ∃ m : Nat, m = min p.o.length 40 := ⟨_, rfl⟩
        obtain ⟨mb, hmb⟩ : ∃ m : Nat, m = min p.b.length 200 := ⟨_, rfl⟩
        have HPX := Lib.hid (Ints.cut hpx 40 mo hmo)
        have HPY := Lib.hid (Vals.cut hpy 200 mb hmb)
        have HMT := Lib.hid (map_take_succ cutPart hp)
        unfold maxLen at hmx hmy
        have c1 : min (p.o.length : Int) 40 = (mo : Int) := by omega
        have c2 : min (p.b.length : Int) 200 = (mb : Int) := by omega
        have c3 : (mo : Int) ≤ (cx : Int) := by omega
        have c4 : (mb : Int) ≤ (cy : Int) := by omega
        have c5 : (0 : Int) ≤ (mo : Int) := by omega
        have c6 : (0 : Int) ≤ (mb : Int) := by omega
        have r1 : (0 : Int) ≤ (j : Int) := by omega
        clear hx hy hp e1 e2 hpx hpy hmo hmb
        go_upto_region 6 with fail
        obtain ⟨z, hz⟩ : ∃ z, z = wr.heap.size := ⟨_, rfl⟩
        have BA := Blk.new wr 63 #[.slice ax p.o.length cx, .slice ay p.b.length cy]
        have F1 : Fr (fun _ => False) wr (wr.alloc (.cells #[.slice ax p.o.length cx, .slice ay p.b.length cy] 63)) := (Fr.refl wr).alloc _
        rw [← hz] at BA ⊢
        have HZ := Lib.hid hz
        clear hz e1' e2'
        generalize (wr.alloc (.cells #[.slice ax p.o.length cx, .slice ay p.b.length cy] 63)) = w1 at *
        obtain ⟨wa, hwa⟩ : ∃ wa, wa = w1.drew.alloc (.cells #[.slice ax mo cx, .slice ay mb cy] 39) := ⟨_, rfl⟩
        have Fa : Fr (fun _ => False) wr wa := by rw [hwa]; exact F1.drew.alloc _
        have BAa : Blk wa z 63 #[.slice ax p.o.length cx, .slice ay p.b.length cy] := by rw [hwa]; exact BA.drew.alloc _
        have BX : Blk wa w1.heap.size 39 #[.slice ax mo cx, .slice ay mb cy] := by rw [hwa]; exact Blk.new w1.drew _ _
        obtain ⟨a7, c7, w7, hrun, hrow7, F7⟩ := ARow.add Tryz.underlying41 info39 (HRW.out.fr Fa (fun _ _ h => h)) (HF.out.trans Fa).size (Fr.refl wa) w1.heap.size BX (cutPart p) HPX.out HPY.out (by rw [HML.out]; omega)
        have HG7 := Lib.hid ((HF.out.trans Fa).trans' F7 (fun i hi e => absurd hi (by have := (HRW.out.keep i e).1; omega)))
        have BA7 := BAa.fr F7 (fun e => by have := (HRW.out.keep z e).2; have := HZ.out; omega)
        rw [HML.out] at hrun hrow7
        have HRUN := Lib.hid hrun
        have HROW7 := Lib.hid hrow7
        have HC0 := Lib.hid BA.drew.cell
        have HCa := Lib.hid BAa.cell
        have HC7 := Lib.hid BA7.cell
        rw [hwa] at HCa HRUN
        clear hrun hrow7 F7 BA7 BAa BX Fa F1 BA hwa
        go_region_held3 (fun w' => ∀ j, w'.cell? ⟨z, j, none⟩ = (#[.slice ax p.o.length cx, .slice ay p.b.length cy] : Array Value)[j]?) (first | exact HC0.out | exact HCa.out | exact HC7.out) (first
          | (refine step_append_run (by rfl) (.tmp 20) (.tmp 36) 41 (by rfl) _ w7 (by exact HRUN.out) ?_)
          | fail)
        all_goals
          go_wp2_with fail
          go_roundg (l.length - (j + 1))
          case measure => rw [HG.out]; omega
          case rel => exact ⟨j + 1, a7, c7, rfl, by omega, by omega, rfl, by go_num, by rw [HMT.out]; exact HROW7.out, HG7.out⟩
      · obtain rfl : j = 20 := by omega
        have q2 : ¬ ((20 : Nat) : Int) < 20 := by omega
        have hres : (l.take 20).map cutPart = cutStep l := HCS.out.symm
        have hrow := HRW.out
        rw [hres] at hrow
        have hlen : 20 = (cutStep l).length := by rw [← hres, HML.out]
        have HL := Lib.hid hlen
        have HROW := Lib.hid hrow
        clear hres hrow hlen
        go_wp2_with fail
        go_ret
        exact ⟨⟨au, cu, by rw [← HL.out]; rfl, by rw [← HL.out]; exact HROW.out⟩, F⟩
    · obtain rfl : j = l.length := by omega
      have hres : (l.take l.length).map cutPart = cutStep l := by rw [HCS.out, List.take_of_length_le hj20, List.take_length]
      have hrow := HRW.out
      rw [hres] at hrow
      have hlen : l.length = (cutStep l).length := by rw [← hres, HML.out]
      have HL := Lib.hid hlen
      have HROW := Lib.hid hrow
      clear hres hrow hlen
      go_wp2_with fail
      go_ret
      exact ⟨⟨au, cu, by rw [← HL.out]; rfl, by rw [← HL.out]; exact HROW.out⟩, F⟩

set_option maxRecDepth 20000 in
set_option maxHeartbeats 4000000 in
theorem lawTo_any (v : Value) (n : List (List Part)) (w : World) (h : NameAt w v n) :
    Calls Tryz.prog 18 #[v] w fun e w' => (∃ a c, e = .returned (.slice a (cutName n).length c) ∧ NRow 41 w' w.heap.size (.slice a (cutName n).length c) (cutName n)) ∧ Fr (fun _ => False) w w' := by
  have H := Lib.hid h
  obtain ⟨a, cap, rfl, -⟩ := h
  have hcs : cutName n = (n.take 70).map cutStep := rfl
  have HCS := Lib.hid hcs
  clear hcs
  go_enter Tryz.func18, Tryz.ntmps18
  go_wp2_with fail
  go_loopg [3, 4] n.length (fun g u i wr => ∃ (j : Nat) (au : Option Addr) (cu : Nat), g = n.length - j ∧ j ≤ n.length ∧ j ≤ 70 ∧ u = .slice au j cu ∧ i = .int .i64 j ∧ NRow 41 wr w.heap.size (.slice au j cu) ((n.take j).map cutStep) ∧ Fr (fun _ => False) w wr)
  case atStart => exact ⟨0, none, 0, rfl, Nat.zero_le _, by omega, rfl, rfl, NRow.nil _ _ _, Fr.refl _⟩
  case round =>
    obtain ⟨j, au, cu, hg, hj, hj70, rfl, rfl, hrow, F⟩ := hrel
    have HG := Lib.hid hg
    have HRW := Lib.hid hrow
    have HF := Lib.hid F
    have hml : ((n.take j).map cutStep).length = j := by rw [List.length_map, List.length_take]; omega
    have HML := Lib.hid hml
    clear hg hrow hml
    by_cases hjl : j < n.length
    · have q1 : (j : Int) < (n.length : Int) := by omega
      by_cases h70 : j < 70
      · have q2 : (j : Int) < 70 := by omega
        obtain ⟨a0, cap0, he, _, _, hx⟩ := H.out
        simp only [Value.slice.injEq, true_and] at he
        obtain ⟨rfl, rfl⟩ := he
        obtain ⟨b, off, rfl, hy⟩ := hx (by omega)
        obtain ⟨r, hr⟩ : ∃ r, n[j]? = some r := ⟨_, List.getElem?_eq_getElem hjl⟩
        obtain ⟨x, e0, hA⟩ := hy j r hr
        have e1 := F.cell e0 (fun h => h)
        have HS := Lib.hid (lawStep_any x r w wr hA F)
        have HMT := Lib.hid (map_take_succ cutStep hr)
        have r1 : (0 : Int) ≤ (j : Int) := by omega
        clear hx hy hr e0 hA
        obtain ⟨wo, hwo⟩ : ∃ wo : World, wo = wr := ⟨_, rfl⟩
        obtain rfl := hwo
        go_wp2_with fail
        refine HS.out.mono ?_
        rintro e w2 ⟨⟨a2, c2, rfl, hrow2⟩, F2⟩
        have hkp := HRW.out.keep
        have hk2 : Kept (fun W => Attrs W (.slice a2 (cutStep r).length c2) (cutStep r)) (fun k => (Value.slice au j cu).ownBlock = some k) w2 := hrow2.kept (HF.out.trans F2) _ (fun k e => hkp k e)
        obtain ⟨a7, c7, w7, hrun, hrow7, F7⟩ := NRow.add Tryz.underlying33 info41 (HRW.out.old F2) (HF.out.trans F2).size ((Fr.refl w2).alloc (.cells #[.slice a2 (cutStep r).length c2] 41)) w2.heap.size _ (cutStep r) (Blk.new w2 41 #[.slice a2 (cutStep r).length c2]) rfl hk2 (by rw [HML.out]; omega)
        have HG7 := Lib.hid ((HF.out.trans F2).trans' F7 (fun i hi e => absurd hi (by have := (hkp i e).1; omega)))
        rw [HML.out] at hrun hrow7
        have HRUN := Lib.hid hrun
        have HROW7 := Lib.hid hrow7
        clear hrun hrow7 F7 hk2 hkp hrow2 F2 e1 HS
        go_wp2_with (at_builtin; refine wpList_append_run (by rfl) (.tmp 15) (.tmp 21) 33 (by rfl) _ w7 (by exact HRUN.out) ?_)
        go_roundg (n.length - (j + 1))
        case measure => rw [HG.out]; omega
        case rel => exact ⟨j + 1, a7, c7, rfl, by omega, by omega, rfl, by go_num, by rw [HMT.out]; exact HROW7.out, HG7.out⟩
      · obtain rfl : j = 70 := by omega
        have q2 : ¬ ((70 : Nat) : Int) < 70 := by omega
        have hres : (n.take 70).map cutStep = cutName n := HCS.out.symm
        have hrow := HRW.out
        rw [hres] at hrow
        have hlen : 70 = (cutName n).length := by rw [← hres, HML.out]
        have HL := Lib.hid hlen
        have HROW := Lib.hid hrow
        clear hres hrow hlen
        go_wp2_with fail
        go_ret
        exact ⟨⟨au, cu, by rw [← HL.out]; rfl, by rw [← HL.out]; exact HROW.out⟩, F⟩
    · obtain rfl : j = n.length := by omega
      have hres : (n.take n.length).map cutStep = cutName n := by rw [HCS.out, List.take_of_length_le hj70, List.take_length]
      have hrow := HRW.out
      rw [hres] at hrow
      have hlen : n.length = (cutName n).length := by rw [← hres, HML.out]
      have HL := Lib.hid hlen
      have HROW := Lib.hid hrow
      clear hres hrow hlen
      go_wp2_with fail
      go_ret
      exact ⟨⟨au, cu, by rw [← HL.out]; rfl, by rw [← HL.out]; exact HROW.out⟩, F⟩

theorem info63 : (Tryz.prog.info? 63).map (fun i => (i.zero, i.size, i.bytes)) = some (some (.agg #[.slice none 0 0, .slice none 0 0]), 2, 48) := by kernel_rfl
theorem info60 : (Tryz.prog.info? 60).map (fun i => (i.zero, i.size, i.bytes)) = some (some (.slice none 0 0), 1, 24) := by kernel_rfl

set_option maxRecDepth 20000 in
set_option maxHeartbeats 8000000 in
theorem lawOf_any (v : Value) (n : List (List Part)) (w : World) (h : NameAt w v n) (hn : n.length ≤ 1000000) (hr0 : ∀ r ∈ n, r.length ≤ 1000000) :
    Calls Tryz.prog 19 #[v] w fun e w' => (∃ a c, e = .returned (.slice a n.length c) ∧ NRow 60 w' w.heap.size (.slice a n.length c) n) ∧ Fr (fun _ => False) w w' := by
  have H := Lib.hid h
  have HR0 := Lib.hid hr0
  obtain ⟨a, cap, rfl, -⟩ := h
  clear hr0
  go_enter Tryz.func19, Tryz.ntmps19
  go_wp2_with fail
  go_loopg [3, 4] n.length (fun g u i wr => ∃ (j : Nat) (au : Option Addr) (cu : Nat), g = n.length - j ∧ j ≤ n.length ∧ u = .slice au j cu ∧ i = .int .i64 j ∧ NRow 60 wr w.heap.size (.slice au j cu) (n.take j) ∧ Fr (fun _ => False) w wr)
  case atStart => exact ⟨0, none, 0, rfl, Nat.zero_le _, rfl, rfl, NRow.nil _ _ _, Fr.refl _⟩
  case round =>
    obtain ⟨j, au, cu, hg, hj, rfl, rfl, hrow, F⟩ := hrel
    have HG := Lib.hid hg
    have HRW := Lib.hid hrow
    have HF := Lib.hid F
    have hml : (n.take j).length = j := by rw [List.length_take]; omega
    have HML := Lib.hid hml
    clear hg hrow hml
    by_cases hjl : j < n.length
    · have q1 : (j : Int) < (n.length : Int) := by omega
      obtain ⟨a0, cap0, he, _, _, hx⟩ := H.out
      simp only [Value.slice.injEq, true_and] at he
      obtain ⟨rfl, rfl⟩ := he
      obtain ⟨b, off, rfl, hy⟩ := hx (by omega)
      obtain ⟨r, hr⟩ : ∃ r, n[j]? = some r := ⟨_, List.getElem?_eq_getElem hjl⟩
      obtain ⟨x, e0, hA⟩ := hy j r hr
      have hrl := HR0.out r (List.mem_of_getElem? hr)
      have HE0 := Lib.hid e0
      have HMT := Lib.hid (show n.take (j + 1) = n.take j ++ [r] from by rw [List.take_add_one, hr]; rfl)
      have HA := Lib.hid hA
      obtain ⟨ar, cr, rfl, -⟩ := hA
      have r1 : (0 : Int) ≤ (j : Int) := by omega
      have r2 : (j : Int) < (n.length : Int) := by omega
      clear hx hy hr e0 F
      obtain ⟨wo, hwo⟩ : ∃ wo : World, wo = wr := ⟨_, rfl⟩
      obtain rfl := hwo
      go_wp2_with fail
      go_loopg [5, 6] r.length (fun g u k wr => ∃ (i : Nat) (a2 : Option Addr) (c2 : Nat), g = r.length - i ∧ i ≤ r.length ∧ u = .slice a2 i c2 ∧ k = .int .i64 i ∧ ARow 63 w wr wo.heap.size (.slice a2 i c2) (r.take i) ∧ Fr (fun _ => False) wo wr)
      case atStart => exact ⟨0, none, 0, rfl, Nat.zero_le _, rfl, rfl, ARow.nil _ _ _ _, Fr.refl _⟩
      case round =>
        obtain ⟨i, a2, c2, hg, hi, rfl, rfl, hrow2, F2⟩ := hrel
        have HG2 := Lib.hid hg
        have HRW2 := Lib.hid hrow2
        have HF2 := Lib.hid F2
        have hml : (r.take i).length = i := by rw [List.length_take]; omega
        have HML2 := Lib.hid hml
        have e0 := (HF.out.trans F2).cell HE0.out (fun h => h)
        clear hg hrow2 hml
        by_cases hil : i < r.length
        · have q2 : (i : Int) < (r.length : Int) := by omega
          obtain ⟨a1, cap1, he, _, _, hx⟩ := HA.out
          simp only [Value.slice.injEq, true_and] at he
          obtain ⟨rfl, rfl⟩ := he
          obtain ⟨b1, o1, rfl, hy⟩ := hx (by omega)
          obtain ⟨p, hp⟩ : ∃ p, r[i]? = some p := ⟨_, List.getElem?_eq_getElem hil⟩
          obtain ⟨x, y, e1, e2, hpx, hpy⟩ := hy i p hp
          obtain ⟨ax, cx, rfl, -⟩ := Ints.form hpx
          obtain ⟨ay, cy, rfl, -⟩ := Vals.form hpy
          have e1' : w.cell? ⟨b1, o1 + i * 2, none⟩ = some (.slice ax p.o.length cx) := by rw [Nat.mul_comm]; exact e1
          have e2' : w.cell? ⟨b1, o1 + i * 2 + 1, none⟩ = some (.slice ay p.b.length cy) := by rw [Nat.mul_comm]; exact e2
          have HMT2 := Lib.hid (show r.take (i + 1) = r.take i ++ [p] from by rw [List.take_add_one, hp]; rfl)
          have s1 : (0 : Int) ≤ (i : Int) := by omega
          obtain ⟨wa, hwa⟩ : ∃ wa, wa = wr.drew.alloc (.cells #[.slice ax p.o.length cx, .slice ay p.b.length cy] 63) := ⟨_, rfl⟩
          have Fa : Fr (fun _ => False) wr wa := by rw [hwa]; exact (Fr.refl wr).drew.alloc _
          have BX : Blk wa wr.heap.size 63 #[.slice ax p.o.length cx, .slice ay p.b.length cy] := by rw [hwa]; exact Blk.new wr.drew _ _
          obtain ⟨a7, c7, w7, hrun, hrow7, F7⟩ := ARow.add Tryz.underlying60 info63 (HRW2.out.fr Fa (fun _ _ h => h)) (HF2.out.trans Fa).size (Fr.refl wa) wr.heap.size BX p hpx hpy (by rw [HML2.out]; omega)
          have G7 : Fr (fun _ => False) wo w7 := (HF2.out.trans Fa).trans' F7 (fun i hi e => absurd hi (by have := (HRW2.out.keep i e).1; omega))
          have HG7 := Lib.hid G7
          rw [HML2.out] at hrun hrow7
          have HRUN := Lib.hid hrun
          have HROW7 := Lib.hid hrow7
          have hS : ∀ w', Fr (fun _ => False) w w' → w'.cell? ⟨b, off + j, none⟩ = some (.slice (some ⟨b1, o1, none⟩) r.length cr) ∧ w'.cell? ⟨b1, o1 + i * 2, none⟩ = some (.slice ax p.o.length cx) ∧ w'.cell? ⟨b1, o1 + i * 2 + 1, none⟩ = some (.slice ay p.b.length cy) := fun w' f => ⟨f.cell HE0.out (fun h => h), f.cell e1' (fun h => h), f.cell e2' (fun h => h)⟩
          have HC0 := Lib.hid (hS wr.drew ((HF.out.trans HF2.out).drew))
          have HCa := Lib.hid (hS wa ((HF.out.trans HF2.out).trans Fa))
          have HC7 := Lib.hid (hS w7 (HF.out.trans G7))
          rw [hwa] at HCa HRUN
          clear hrun hrow7 F7 G7 BX Fa hwa hx hy hp e1 e2 e1' e2' hpx hpy hS
          go_upto_region 9 with fail
          go_region_held3 (fun w' => w'.cell? ⟨b, off + j, none⟩ = some (.slice (some ⟨b1, o1, none⟩) r.length cr) ∧ w'.cell? ⟨b1, o1 + i * 2, none⟩ = some (.slice ax p.o.length cx) ∧ w'.cell? ⟨b1, o1 + i * 2 + 1, none⟩ = some (.slice ay p.b.length cy)) (first | exact HC0.out | exact HCa.out | exact HC7.out) (first
            | (refine step_append_run (by rfl) (.tmp 22) (.tmp 40) 60 (by rfl) _ w7 (by exact HRUN.out) ?_)
            | fail)
          all_goals
            go_wp2_with fail
            go_roundg (r.length - (i + 1))
            case measure => rw [HG2.out]; omega
            case rel => exact ⟨i + 1, a7, c7, rfl, by omega, rfl, by go_num, by rw [HMT2.out]; exact HROW7.out, HG7.out⟩
        · obtain rfl : i = r.length := by omega
          have hrow2 := HRW2.out
          rw [List.take_length] at hrow2
          have hkp := HRW.out.keep
          have hk2 : Kept (fun W => Attrs W (.slice a2 r.length c2) r) (fun k => (Value.slice au j cu).ownBlock = some k) wr := hrow2.kept (HF.out.trans HF2.out) _ (fun k e => hkp k e)
          obtain ⟨a7, c7, w7, hrun, hrow7, F7⟩ := NRow.add Tryz.underlying46 info60 (HRW.out.old HF2.out) (HF.out.trans HF2.out).size ((Fr.refl wr).alloc (.cells #[.slice a2 r.length c2] 60)) wr.heap.size _ r (Blk.new wr 60 #[.slice a2 r.length c2]) rfl hk2 (by rw [HML.out]; omega)
          have HG7 := Lib.hid ((HF.out.trans HF2.out).trans' F7 (fun i hi e => absurd hi (by have := (hkp i e).1; omega)))
          rw [HML.out] at hrun hrow7
          have HRUN := Lib.hid hrun
          have HROW7 := Lib.hid hrow7
          clear hrun hrow7 F7 hk2 hkp hrow2
          go_wp2_with (at_builtin; refine wpList_append_run (by rfl) (.tmp 42) (.tmp 44) 46 (by rfl) _ w7 (by exact HRUN.out) ?_)
          go_roundg (n.length - (j + 1))
          case measure => rw [HG.out]; omega
          case rel => exact ⟨j + 1, a7, c7, rfl, by omega, rfl, by go_num, by rw [HMT.out]; exact HROW7.out, HG7.out⟩
    · obtain rfl : j = n.length := by omega
      have hrow := HRW.out
      rw [List.take_length] at hrow
      have HROW := Lib.hid hrow
      clear hrow
      go_wp2_with fail
      go_ret
      exact ⟨⟨au, cu, rfl, HROW.out⟩, F⟩
end Go.Proofs.YtgffhiopbnkjbaaGreatDoor

namespace Go.Q
open Go Go.RowKit
theorem Kept.weaken {R : World → Prop} {K K' : Nat → Prop} {w : World} (h : Kept R K w) (hK : ∀ k, K' k → K k) : Kept R K' w := fun W f => h W (f.mono (fun k _ hs => hK k hs))
theorem own_kept {w : World} {base n : Nat} {e : TypeId} {v : Value} {xs : List Value} (h : w.ownsRow base e 1 v n xs) (K : Nat → Prop) (hK : ∀ k, K k → k < base) : Kept (fun W => Vals W v xs) K w := fun W f =>
  (Vals.of_own (Go.Proofs.YtgffhiopbnkjbaaGreatDoor.ownsRow_fr h f (fun k hk hs => by have := ((Vals.of_own h).2 k hk).1; have := hK k hs; omega))).1
end Go.Q

namespace Go.Q
open Go Go.RowKit
/-- A name in a row of one's own, of any type; its steps stand whatever changes in K. -/
def FRow (K : Nat → Prop) (t : TypeId) (w : World) (base : Nat) (v : Value) (n : List (List Part)) : Prop :=
  ∃ us : List Value, w.ownsRow base t 1 v n.length us ∧ us.length = n.length ∧ ∀ (i : Nat) (u : Value) (r : List Part), us[i]? = some u → n[i]? = some r → Kept (fun W => Attrs W u r) (fun k => v.ownBlock = some k ∨ K k) w
theorem FRow.old {K : Nat → Prop} {t : TypeId} {w w' : World} {base : Nat} {v : Value} {n : List (List Part)} (h : FRow K t w base v n) (f : Fr (fun _ => False) w w') : FRow K t w' base v n := by
  obtain ⟨us, h1, h2, h3⟩ := h
  exact ⟨us, Go.Proofs.YtgffhiopbnkjbaaGreatDoor.ownsRow_fr h1 f (fun _ _ h => h), h2, fun i u r hu hr => (h3 i u r hu hr).old f⟩
theorem FRow.keep {K : Nat → Prop} {t : TypeId} {w : World} {base : Nat} {v : Value} {n : List (List Part)} (h : FRow K t w base v n) : ∀ k, v.ownBlock = some k → base ≤ k ∧ k < w.heap.size := by
  obtain ⟨us, h1, -⟩ := h
  exact (Vals.of_own h1).2
theorem FRow.nil (K : Nat → Prop) (t : TypeId) (w : World) (base : Nat) : FRow K t w base (.slice none 0 0) [] := ⟨[], ⟨rfl, .inl ⟨rfl, rfl⟩⟩, rfl, fun i u r h => by simp at h⟩
/-- A step more. -/
theorem FRow.add {P : Program} {K : Nat → Prop} {t s : TypeId} (hu0 : P.underlying s = some (.slice t)) (hinf : Info P t (.slice none 0 0) 1 24) {w wa : World} {base : Nat} {v : Value} {n : List (List Part)} (h : FRow K t w base v n) (hb : base ≤ w.heap.size) (F1 : Fr (fun _ => False) w wa) (g : Nat) (u : Value) (r : List Part) (BX : Blk wa g t #[u]) (hu1 : u.oneCell' = true) (hu : Kept (fun W => Attrs W u r) (fun k => v.ownBlock = some k ∨ K k) w) (hn : n.length ≤ 109951162777) :
    ∃ a c w', (Builtin.append_ #[s, s] s #[v, .slice (some ⟨g, 0, none⟩) 1 1]).run P wa = .ok (.slice a (n.length + 1) c) w' ∧ FRow K t w' base (.slice a (n.length + 1) c) (n ++ [r]) ∧ Fr (fun k => v.ownBlock = some k) w w' := by
  obtain ⟨us, h1, h2, h3⟩ := h
  obtain ⟨a, c, w', hrun, h4, F2, h5⟩ := add_gen hu0 hinf rfl (by decide) (by decide) h1 hb F1 g [u] rfl BX (by simpa using hu1) hn
  have hst : ∀ (x : Value) (q : List Part), Kept (fun W => Attrs W x q) (fun k => v.ownBlock = some k ∨ K k) w → Kept (fun W => Attrs W x q) (fun k => (Value.slice a (n.length + 1) c).ownBlock = some k ∨ K k) w' := fun x q hq =>
    hq.step F2 (fun _ _ h => .inl h) (fun k hk => by
      rcases hk with h | h
      · rcases h5 k h with h | h
        · exact .inl (.inl h)
        · exact .inr h
      · exact .inl (.inr h))
  refine ⟨a, c, w', hrun, ⟨us ++ [u], ?_, by simp [h2], fun i x s hx hs => ?_⟩, F2⟩
  · rw [List.length_append]
    exact h4
  · rcases Nat.lt_or_ge i us.length with hi | hi
    · rw [List.getElem?_append_left hi] at hx
      rw [List.getElem?_append_left (by omega)] at hs
      exact hst _ _ (h3 i x s hx hs)
    · obtain rfl : i = us.length := by
        have := (List.getElem?_eq_some_iff.1 hx).1
        simp at this
        omega
      rw [List.getElem?_append_right (Nat.le_refl _)] at hx
      rw [List.getElem?_append_right (by omega)] at hs
      simp at hx
      simp [h2] at hs
      subst hx; subst hs
      exact hst _ _ hu
end Go.Q
namespace Go.Proofs.YtgffhiopbnkjbaaGreatDoor
open Go Go.RowKit Go.Q
set_option linter.unusedSimpArgs false

set_option maxRecDepth 20000 in
set_option maxHeartbeats 8000000 in
theorem lawOfK_any (v : Value) (n : List (List Part)) (wb w : World) (h : NameAt wb v n) (Fb : Fr (fun _ => False) wb w) (hn : n.length ≤ 1000000) (hr0 : ∀ r ∈ n, r.length ≤ 1000000) :
    Calls Tryz.prog 19 #[v] w fun e w' => (∃ a c, e = .returned (.slice a n.length c) ∧ FRow (fun k => wb.heap.size ≤ k ∧ k < w.heap.size) 60 w' w.heap.size (.slice a n.length c) n) ∧ Fr (fun _ => False) w w' := by
  have H := Lib.hid h
  have HFB := Lib.hid Fb
  have HR0 := Lib.hid hr0
  obtain ⟨a, cap, rfl, -⟩ := h
  clear hr0 Fb
  go_enter Tryz.func19, Tryz.ntmps19
  go_wp2_with fail
  go_loopg [3, 4] n.length (fun g u i wr => ∃ (j : Nat) (au : Option Addr) (cu : Nat), g = n.length - j ∧ j ≤ n.length ∧ u = .slice au j cu ∧ i = .int .i64 j ∧ FRow (fun k => wb.heap.size ≤ k ∧ k < w.heap.size) 60 wr w.heap.size (.slice au j cu) (n.take j) ∧ Fr (fun _ => False) w wr)
  case atStart => exact ⟨0, none, 0, rfl, Nat.zero_le _, rfl, rfl, FRow.nil _ _ _ _, Fr.refl _⟩
  case round =>
    obtain ⟨j, au, cu, hg, hj, rfl, rfl, hrow, F⟩ := hrel
    have HG := Lib.hid hg
    have HRW := Lib.hid hrow
    have HF := Lib.hid F
    have hml : (n.take j).length = j := by rw [List.length_take]; omega
    have HML := Lib.hid hml
    clear hg hrow hml
    by_cases hjl : j < n.length
    · have q1 : (j : Int) < (n.length : Int) := by omega
      obtain ⟨a0, cap0, he, _, _, hx⟩ := H.out
      simp only [Value.slice.injEq, true_and] at he
      obtain ⟨rfl, rfl⟩ := he
      obtain ⟨b, off, rfl, hy⟩ := hx (by omega)
      obtain ⟨r, hr⟩ : ∃ r, n[j]? = some r := ⟨_, List.getElem?_eq_getElem hjl⟩
      obtain ⟨x, e0, hA⟩ := hy j r hr
      have hrl := HR0.out r (List.mem_of_getElem? hr)
      have HE0 := Lib.hid e0
      have HMT := Lib.hid (show n.take (j + 1) = n.take j ++ [r] from by rw [List.take_add_one, hr]; rfl)
      have HA := Lib.hid hA
      obtain ⟨ar, cr, rfl, -⟩ := hA
      have r1 : (0 : Int) ≤ (j : Int) := by omega
      have r2 : (j : Int) < (n.length : Int) := by omega
      clear hx hy hr e0 F
      obtain ⟨wo, hwo⟩ : ∃ wo : World, wo = wr := ⟨_, rfl⟩
      obtain rfl := hwo
      go_wp2_with fail
      go_loopg [5, 6] r.length (fun g u k wr => ∃ (i : Nat) (a2 : Option Addr) (c2 : Nat), g = r.length - i ∧ i ≤ r.length ∧ u = .slice a2 i c2 ∧ k = .int .i64 i ∧ ARow 63 wb wr wo.heap.size (.slice a2 i c2) (r.take i) ∧ Fr (fun _ => False) wo wr)
      case atStart => exact ⟨0, none, 0, rfl, Nat.zero_le _, rfl, rfl, ARow.nil _ _ _ _, Fr.refl _⟩
      case round =>
        obtain ⟨i, a2, c2, hg, hi, rfl, rfl, hrow2, F2⟩ := hrel
        have HG2 := Lib.hid hg
        have HRW2 := Lib.hid hrow2
        have HF2 := Lib.hid F2
        have hml : (r.take i).length = i := by rw [List.length_take]; omega
        have HML2 := Lib.hid hml
        have e0 := ((HFB.out.trans HF.out).trans F2).cell HE0.out (fun h => h)
        clear hg hrow2 hml
        by_cases hil : i < r.length
        · have q2 : (i : Int) < (r.length : Int) := by omega
          obtain ⟨a1, cap1, he, _, _, hx⟩ := HA.out
          simp only [Value.slice.injEq, true_and] at he
          obtain ⟨rfl, rfl⟩ := he
          obtain ⟨b1, o1, rfl, hy⟩ := hx (by omega)
          obtain ⟨p, hp⟩ : ∃ p, r[i]? = some p := ⟨_, List.getElem?_eq_getElem hil⟩
          obtain ⟨x, y, e1, e2, hpx, hpy⟩ := hy i p hp
          obtain ⟨ax, cx, rfl, -⟩ := Ints.form hpx
          obtain ⟨ay, cy, rfl, -⟩ := Vals.form hpy
          have e1' : wb.cell? ⟨b1, o1 + i * 2, none⟩ = some (.slice ax p.o.length cx) := by rw [Nat.mul_comm]; exact e1
          have e2' : wb.cell? ⟨b1, o1 + i * 2 + 1, none⟩ = some (.slice ay p.b.length cy) := by rw [Nat.mul_comm]; exact e2
          have HMT2 := Lib.hid (show r.take (i + 1) = r.take i ++ [p] from by rw [List.take_add_one, hp]; rfl)
          have s1 : (0 : Int) ≤ (i : Int) := by omega
          obtain ⟨wa, hwa⟩ : ∃ wa, wa = wr.drew.alloc (.cells #[.slice ax p.o.length cx, .slice ay p.b.length cy] 63) := ⟨_, rfl⟩
          have Fa : Fr (fun _ => False) wr wa := by rw [hwa]; exact (Fr.refl wr).drew.alloc _
          have BX : Blk wa wr.heap.size 63 #[.slice ax p.o.length cx, .slice ay p.b.length cy] := by rw [hwa]; exact Blk.new wr.drew _ _
          obtain ⟨a7, c7, w7, hrun, hrow7, F7⟩ := ARow.add Tryz.underlying60 info63 (HRW2.out.fr Fa (fun _ _ h => h)) (HF2.out.trans Fa).size (Fr.refl wa) wr.heap.size BX p hpx hpy (by rw [HML2.out]; omega)
          have G7 : Fr (fun _ => False) wo w7 := (HF2.out.trans Fa).trans' F7 (fun i hi e => absurd hi (by have := (HRW2.out.keep i e).1; omega))
          have HG7 := Lib.hid G7
          rw [HML2.out] at hrun hrow7
          have HRUN := Lib.hid hrun
          have HROW7 := Lib.hid hrow7
          have hS : ∀ w', Fr (fun _ => False) wb w' → w'.cell? ⟨b, off + j, none⟩ = some (.slice (some ⟨b1, o1, none⟩) r.length cr) ∧ w'.cell? ⟨b1, o1 + i * 2, none⟩ = some (.slice ax p.o.length cx) ∧ w'.cell? ⟨b1, o1 + i * 2 + 1, none⟩ = some (.slice ay p.b.length cy) := fun w' f => ⟨f.cell HE0.out (fun h => h), f.cell e1' (fun h => h), f.cell e2' (fun h => h)⟩
          have HC0 := Lib.hid (hS wr.drew (((HFB.out.trans HF.out).trans HF2.out).drew))
          have HCa := Lib.hid (hS wa (((HFB.out.trans HF.out).trans HF2.out).trans Fa))
          have HC7 := Lib.hid (hS w7 ((HFB.out.trans HF.out).trans G7))
          rw [hwa] at HCa HRUN
          clear hrun hrow7 F7 G7 BX Fa hwa hx hy hp e1 e2 e1' e2' hpx hpy hS
          go_upto_region 9 with fail
          go_region_held3 (fun w' => w'.cell? ⟨b, off + j, none⟩ = some (.slice (some ⟨b1, o1, none⟩) r.length cr) ∧ w'.cell? ⟨b1, o1 + i * 2, none⟩ = some (.slice ax p.o.length cx) ∧ w'.cell? ⟨b1, o1 + i * 2 + 1, none⟩ = some (.slice ay p.b.length cy)) (first | exact HC0.out | exact HCa.out | exact HC7.out) (first
            | (refine step_append_run (by rfl) (.tmp 22) (.tmp 40) 60 (by rfl) _ w7 (by exact HRUN.out) ?_)
            | fail)
          all_goals
            go_wp2_with fail
            go_roundg (r.length - (i + 1))
            case measure => rw [HG2.out]; omega
            case rel => exact ⟨i + 1, a7, c7, rfl, by omega, rfl, by go_num, by rw [HMT2.out]; exact HROW7.out, HG7.out⟩
        · obtain rfl : i = r.length := by omega
          have hrow2 := HRW2.out
          rw [List.take_length] at hrow2
          have hkp := HRW.out.keep
          have hsw := HFB.out.size
          have hsf := HF.out.size
          have hk2 : Kept (fun W => Attrs W (.slice a2 r.length c2) r) (fun k => (Value.slice au j cu).ownBlock = some k ∨ (wb.heap.size ≤ k ∧ k < w.heap.size)) wr := hrow2.kept ((HFB.out.trans HF.out).trans HF2.out) _ (fun k e => by
            rcases e with e | e
            · have := hkp k e; omega
            · omega)
          obtain ⟨a7, c7, w7, hrun, hrow7, F7⟩ := FRow.add Tryz.underlying46 info60 (HRW.out.old HF2.out) (HF.out.trans HF2.out).size ((Fr.refl wr).alloc (.cells #[.slice a2 r.length c2] 60)) wr.heap.size _ r (Blk.new wr 60 #[.slice a2 r.length c2]) rfl hk2 (by rw [HML.out]; omega)
          have HG7 := Lib.hid ((HF.out.trans HF2.out).trans' F7 (fun i hi e => absurd hi (by have := (hkp i e).1; omega)))
          rw [HML.out] at hrun hrow7
          have HRUN := Lib.hid hrun
          have HROW7 := Lib.hid hrow7
          clear hrun hrow7 F7 hk2 hkp hrow2
          go_wp2_with (at_builtin; refine wpList_append_run (by rfl) (.tmp 42) (.tmp 44) 46 (by rfl) _ w7 (by exact HRUN.out) ?_)
          go_roundg (n.length - (j + 1))
          case measure => rw [HG.out]; omega
          case rel => exact ⟨j + 1, a7, c7, rfl, by omega, rfl, by go_num, by rw [HMT.out]; exact HROW7.out, HG7.out⟩
    · obtain rfl : j = n.length := by omega
      have hrow := HRW.out
      rw [List.take_length] at hrow
      have HROW := Lib.hid hrow
      clear hrow
      go_wp2_with fail
      go_ret
      exact ⟨⟨au, cu, rfl, HROW.out⟩, F⟩
end Go.Proofs.YtgffhiopbnkjbaaGreatDoor

namespace Go.Q
open Go Go.RowKit
/-- A slice whose elements, sz cells each, read as l. -/
def LAt {α : Type} (sz : Nat) (R : World → List Value → α → Prop) (w : World) (v : Value) (l : List α) : Prop :=
  ∃ a cap, v = .slice a l.length cap ∧ l.length ≤ cap ∧ cap ≤ maxLen ∧ (0 < l.length → ∃ b o, a = some ⟨b, o, none⟩ ∧ ∀ i x, l[i]? = some x → ∃ cs, cs.length = sz ∧ (∀ j u, cs[j]? = some u → w.cell? ⟨b, o + sz * i + j, none⟩ = some u) ∧ R w cs x)
/-- A row of one's own; its elements stand whatever changes in K. -/
def GRow {α : Type} (sz : Nat) (R : World → List Value → α → Prop) (K : Nat → Prop) (t : TypeId) (w : World) (base : Nat) (v : Value) (l : List α) : Prop :=
  ∃ cs : List Value, w.ownsRow base t sz v l.length cs ∧ ∀ i x, l[i]? = some x → ∃ us, us.length = sz ∧ (∀ j u, us[j]? = some u → cs[sz * i + j]? = some u) ∧ Kept (fun W => R W us x) (fun k => v.ownBlock = some k ∨ K k) w
section
variable {α : Type} {sz : Nat} {R : World → List Value → α → Prop} {K : Nat → Prop} {t : TypeId} {w : World} {base : Nat} {v : Value} {l : List α}
theorem LAt.old (hR : ∀ w w' cs x, R w cs x → Fr (fun _ => False) w w' → R w' cs x) {w' : World} (h : LAt sz R w v l) (f : Fr (fun _ => False) w w') : LAt sz R w' v l := by
  obtain ⟨a, cap, rfl, h1, h2, h3⟩ := h
  refine ⟨a, cap, rfl, h1, h2, fun h0 => ?_⟩
  obtain ⟨b, o, rfl, hy⟩ := h3 h0
  refine ⟨b, o, rfl, fun i p hp => ?_⟩
  obtain ⟨cs, e1, e2, e3⟩ := hy i p hp
  exact ⟨cs, e1, fun j u hu => f.cell (e2 j u hu) (fun h => h), hR _ _ _ _ e3 f⟩
theorem GRow.nil (sz : Nat) (R : World → List Value → α → Prop) (K : Nat → Prop) (t : TypeId) (w : World) (base : Nat) : GRow sz R K t w base (.slice none 0 0) [] := ⟨[], ⟨by simp, .inl ⟨rfl, rfl⟩⟩, fun i p hp => by simp at hp⟩
theorem GRow.keep (h : GRow sz R K t w base v l) : ∀ k, v.ownBlock = some k → base ≤ k ∧ k < w.heap.size := fun k hk => by
  obtain ⟨us, h1, -⟩ := h
  exact h1.lt k hk
theorem GRow.shape (h : GRow sz R K t w base v l) : ∃ a c, v = .slice a l.length c := by
  obtain ⟨us, h1, -⟩ := h
  obtain ⟨a, m, c, rfl, rfl⟩ := own_shape h1
  exact ⟨a, c, rfl⟩
theorem GRow.at (h : GRow sz R K t w base v l) (_hs : 0 < sz) : LAt sz R w v l := by
  obtain ⟨cs, ⟨h1, h2⟩, h3⟩ := h
  rcases h2 with ⟨rfl, h0⟩ | ⟨g, cap, cur, rfl, hg, hh, hnc, hcm, hcs, htk⟩
  · exact ⟨none, 0, by rw [h0], by omega, by unfold maxLen; omega, fun h => by omega⟩
  · refine ⟨_, cap, rfl, hnc, hcm, fun _ => ⟨g, 0, rfl, fun i p hp => ?_⟩⟩
    obtain ⟨us, e1, e2, e3⟩ := h3 i p hp
    refine ⟨us, e1, fun j u hu => ?_, e3.now⟩
    have hi := (List.getElem?_eq_some_iff.1 hp).1
    have hc := e2 j u hu
    have hj := (List.getElem?_eq_some_iff.1 hc).1
    have := congrArg (fun z : List Value => z[sz * i + j]?) htk
    simp only [List.getElem?_take, if_pos (show sz * i + j < l.length * sz by omega), Array.getElem?_toList] at this
    rw [Nat.zero_add]
    simp only [World.cell?, hh]
    exact this.trans hc
theorem GRow.fr {S : Nat → Prop} {w' : World} (h : GRow sz R K t w base v l) (f : Fr S w w') (hS : ∀ k, k < w.heap.size → S k → K k) (hv : ∀ k, v.ownBlock = some k → ¬ S k) : GRow sz R K t w' base v l := by
  obtain ⟨cs, h1, h2⟩ := h
  refine ⟨cs, Go.Proofs.YtgffhiopbnkjbaaGreatDoor.ownsRow_fr h1 f hv, fun i p hp => ?_⟩
  obtain ⟨us, e1, e2, e3⟩ := h2 i p hp
  exact ⟨us, e1, e2, e3.step f (fun k hk hs => .inr (hS k hk hs)) (fun k hk => .inl hk)⟩
theorem GRow.old {w' : World} (h : GRow sz R K t w base v l) (f : Fr (fun _ => False) w w') : GRow sz R K t w' base v l := h.fr f (fun _ _ h => h.elim) (fun _ _ h => h)
/-- Changes in K leave it. -/
theorem GRow.kept (h : GRow sz R K t w base v l) (hs : 0 < sz) (K' : Nat → Prop) (hK : ∀ k, K' k → K k ∧ k < base) : Kept (fun W => LAt sz R W v l) K' w := fun W f =>
  (h.fr f (fun k _ hk => (hK k hk).1) (fun k hk hs => by have := (h.keep k hk).1; have := (hK k hs).2; omega)).at hs
/-- An element more. -/
theorem GRow.add {P : Program} {s : TypeId} {z : Value} {bytes : Nat} (hu0 : P.underlying s = some (.slice t)) (hinf : Info P t z sz bytes) (hzs : z.cells.size = sz) (hs0 : 0 < sz) (hby : bytes ≤ 64) {wa : World} (h : GRow sz R K t w base v l) (hb : base ≤ w.heap.size) (F1 : Fr (fun _ => False) w wa) (g : Nat) (us : List Value) (hus : us.length = sz) (BX : Blk wa g t us.toArray) (h1 : ∀ u ∈ us, u.oneCell' = true) (x : α) (hk : Kept (fun W => R W us x) (fun k => v.ownBlock = some k ∨ K k) w) (hn : l.length ≤ 109951162777) :
    ∃ a c w', (Builtin.append_ #[s, s] s #[v, .slice (some ⟨g, 0, none⟩) 1 1]).run P wa = .ok (.slice a (l.length + 1) c) w' ∧ GRow sz R K t w' base (.slice a (l.length + 1) c) (l ++ [x]) ∧ Fr (fun k => v.ownBlock = some k) w w' ∧ (∀ k, (Value.slice a (l.length + 1) c).ownBlock = some k → v.ownBlock = some k ∨ w.heap.size ≤ k) := by
  obtain ⟨cs, g1, g2⟩ := h
  have hcl : cs.length = l.length * sz := g1.1
  obtain ⟨a, c, w', hrun, h4, F2, h5⟩ := add_gen hu0 hinf hzs hs0 hby g1 hb F1 g us hus BX h1 hn
  have hst : ∀ (us : List Value) (y : α), Kept (fun W => R W us y) (fun k => v.ownBlock = some k ∨ K k) w → Kept (fun W => R W us y) (fun k => (Value.slice a (l.length + 1) c).ownBlock = some k ∨ K k) w' := fun us y hq =>
    hq.step F2 (fun _ _ h => .inl h) (fun k hk => by
      rcases hk with h | h
      · rcases h5 k h with h | h
        · exact .inl (.inl h)
        · exact .inr h
      · exact .inl (.inr h))
  refine ⟨a, c, w', hrun, ⟨cs ++ us, by rw [List.length_append]; exact h4, fun i y hy => ?_⟩, F2, h5⟩
  rcases Nat.lt_or_ge i l.length with hi | hi
  · rw [List.getElem?_append_left hi] at hy
    obtain ⟨us', e1, e2, e3⟩ := g2 i y hy
    refine ⟨us', e1, fun j u hu => ?_, hst _ _ e3⟩
    have := e2 j u hu
    rw [List.getElem?_append_left (List.getElem?_eq_some_iff.1 this).1]
    exact this
  · obtain rfl : i = l.length := by
      have := (List.getElem?_eq_some_iff.1 hy).1
      simp at this
      omega
    rw [List.getElem?_append_right (Nat.le_refl _)] at hy
    simp at hy
    subst hy
    refine ⟨us, hus, fun j u hu => ?_, hst _ _ hk⟩
    rw [Nat.mul_comm, List.getElem?_append_right (by rw [hcl]; exact Nat.le_add_right _ _), hcl, Nat.add_sub_cancel_left]
    exact hu
end
/-- A part's cells. -/
def RPart (W : World) (cs : List Value) (p : Part) : Prop := ∃ x y, cs = [x, y] ∧ Ints W x p.o ∧ Bytes W y p.b
/-- A step's cell. -/
def RStep (W : World) (cs : List Value) (r : List Part) : Prop := ∃ u, cs = [u] ∧ Attrs W u r
theorem LAt.attrs {w : World} {v : Value} {l : List Part} (h : LAt 2 RPart w v l) : Attrs w v l := by
  obtain ⟨a, cap, rfl, h1, h2, h3⟩ := h
  refine ⟨a, cap, rfl, h1, h2, fun h0 => ?_⟩
  obtain ⟨b, o, rfl, hy⟩ := h3 h0
  refine ⟨b, o, rfl, fun i p hp => ?_⟩
  obtain ⟨cs, -, e2, x, y, rfl, g1, g2⟩ := hy i p hp
  exact ⟨x, y, e2 0 x rfl, e2 1 y rfl, g1, g2⟩
theorem LAt.name {w : World} {v : Value} {n : List (List Part)} (h : LAt 1 RStep w v n) : NameAt w v n := by
  obtain ⟨a, cap, rfl, h1, h2, h3⟩ := h
  refine ⟨a, cap, rfl, h1, h2, fun h0 => ?_⟩
  obtain ⟨b, o, rfl, hy⟩ := h3 h0
  refine ⟨b, o, rfl, fun i r hr => ?_⟩
  obtain ⟨cs, -, e2, u, rfl, g1⟩ := hy i r hr
  exact ⟨u, by have := e2 0 u rfl; rw [Nat.one_mul] at this; exact this, g1⟩
theorem Kept.imp {A B : World → Prop} {K : Nat → Prop} {w : World} (h : Kept A K w) (f : ∀ W, A W → B W) : Kept B K w := fun W g => f W (h W g)
theorem Kept.both {A B : World → Prop} {K : Nat → Prop} {w : World} (h : Kept A K w) (g : Kept B K w) : Kept (fun W => A W ∧ B W) K w := fun W f => ⟨h W f, g W f⟩
end Go.Q

namespace Go.Q
open Go Go.RowKit
section
variable {P : Program}
theorem append_none {w : World} {base n : Nat} {t e : TypeId} {v : Value} {xs : List Value} {z : Value} {size bytes : Nat} (hu : P.underlying t = some (.slice e)) (hinf : Info P e z size bytes) (hown : w.ownsRow base e size v n xs) (c : Nat) :
    (Builtin.append_ #[t, t] t #[v, .slice none 0 c]).run P w = .ok v w := by
  obtain ⟨i0, hi0, hz0, hz1, hz2⟩ := info_parts hinf
  rcases hown.2 with ⟨rfl, rfl⟩ | ⟨g, cap, cur, rfl, _, _, hnc, _⟩
  · simp [Builtin.append_, run_underlying hu, sizeOf, typeInfo, hi0, Builtin.lenOf, Builtin.firstCells]
  · simp [Builtin.append_, run_underlying hu, sizeOf, typeInfo, hi0, Builtin.lenOf, Builtin.firstCells, hnc, storeCells]
/-- All elements of a slice are appended. -/
theorem append_vals {w : World} {base n : Nat} {t e : TypeId} {v y : Value} {xs news : List Value} {z : Value} {bytes : Nat} (hu : P.underlying t = some (.slice e)) (hinf : Info P e z 1 bytes) (hzs : z.cells.size = 1) (hby : bytes ≤ 64)
    (hown : w.ownsRow base e 1 v n xs) (hb : base ≤ w.heap.size) (hy : Vals w y news) (h1 : ∀ u ∈ news, u.oneCell' = true) (hsz : n + news.length ≤ 1099511627776) :
    ∃ a' c' w', (Builtin.append_ #[t, t] t #[v, y]).run P w = .ok (.slice a' (n + news.length) c') w' ∧ w'.ownsRow base e 1 (.slice a' (n + news.length) c') (n + news.length) (xs ++ news) ∧ Fr (fun k => v.ownBlock = some k) w w' ∧ (∀ k, (Value.slice a' (n + news.length) c').ownBlock = some k → v.ownBlock = some k ∨ w.heap.size ≤ k) := by
  obtain ⟨a, cap, rfl, hc, hm, hx⟩ := hy
  cases a with
  | none =>
    have h0 : news = [] := by
      cases news with
      | nil => rfl
      | cons u s => obtain ⟨b, o, e, -⟩ := hx (by simp); cases e
    subst h0
    obtain ⟨av, m, cv, rfl, rfl⟩ := own_shape hown
    exact ⟨av, cv, w, append_none hu hinf hown cap, by simpa using hown, Fr.refl _, fun k hk => .inl hk⟩
  | some ad =>
    refine append_gen hu hinf hzs (by decide) hby hown hb ad news.length cap news (by omega) (fun j u hj => ?_) h1 hsz
    have hj2 := (List.getElem?_eq_some_iff.1 hj).1
    obtain ⟨b, o, e, hy⟩ := hx (by omega)
    simp only [Option.some.injEq] at e
    subst e
    rw [show (⟨b, o, none⟩ : Addr).add j = ⟨b, o + j, none⟩ from by unfold Addr.add; split <;> simp_all]
    exact hy j u hj
end
end Go.Q
namespace Go.Proofs.YtgffhiopbnkjbaaGreatDoor
open Go Go.RowKit Go.Q
set_option linter.unusedSimpArgs false

set_option maxRecDepth 20000 in
set_option maxHeartbeats 1000000 in
theorem cloneInt_any (v : Value) (o : List Int) (w : World) (h : Ints w v o) (hl : o.length ≤ 100000000000) :
    Calls Tryz.prog 86 #[v] w fun e w' => (∃ u, e = .returned u ∧ w'.ownsRow w.heap.size 3 1 u o.length (intCells o)) ∧ Fr (fun _ => False) w w' := by
  obtain ⟨a, cap, rfl, -⟩ := Ints.form h
  have qT : ∀ (w : World) (a : Option Addr) (n c n' c' : Nat), (binOp .eql 22 (.slice a n c) (.slice none n' c')).run Tryz.prog w = .ok (.bool a.isNone) w := fun w a n c n' c' => Lib.run_eql_slice_nil w _ _ a n c n' c' Tryz.underlying22
  cases a with
  | none =>
    have h0 : o = [] := by
      obtain ⟨a0, c0, he, _, _, hx⟩ := Ints.form h
      cases o with
      | nil => rfl
      | cons u s =>
        obtain ⟨b, o, e, -⟩ := hx (by simp)
        simp only [Value.slice.injEq] at he
        rw [e] at he
        cases he.1
    subst h0
    clear h
    go_enter Tryz.func86, Tryz.ntmps86
    go_wp2_with fail
    go_ret
    exact ⟨⟨_, rfl, rfl, .inl ⟨rfl, rfl⟩⟩, Fr.refl _⟩
  | some ad =>
    have B0 := Blk.new w 3 #[]
    have F0 : Fr (fun _ => False) w (w.alloc (.cells #[] 3)) := (Fr.refl w).alloc _
    have hl2 : (intCells o).length = o.length := intCells_len o
    obtain ⟨a', c', w', hrun, hown, F1, -⟩ := append_vals Tryz.underlying22 info3 rfl (by decide) (own_block B0 0 (Nat.le_refl _) (Nat.zero_le _) w.heap.size (Nat.le_refl _)) F0.size (h.old F0) (intCells_one o) (by rw [hl2]; omega)
    rw [hl2, Nat.zero_add] at hrun hown
    have HF := Lib.hid (F0.trans' F1 (fun i hi e => by simp [Value.ownBlock] at e; omega))
    have HRUN := Lib.hid hrun
    have HOW := Lib.hid hown
    clear hrun hown F1 B0 F0 h hl2
    go_enter Tryz.func86, Tryz.ntmps86
    go_wp2_with (at_builtin; refine wpList_append_run (by rfl) (.tmp 5) (.tmp 6) 22 (by rfl) _ w' (by exact HRUN.out) ?_)
    go_ret
    exact ⟨⟨_, rfl, HOW.out⟩, HF.out⟩

set_option maxRecDepth 20000 in
set_option maxHeartbeats 1000000 in
theorem cloneByte_any (v : Value) (o : List UInt8) (w : World) (h : Bytes w v o) (hl : o.length ≤ 100000000000) :
    Calls Tryz.prog 87 #[v] w fun e w' => (∃ u, e = .returned u ∧ w'.ownsRow w.heap.size 5 1 u o.length (Lib.byteCells o)) ∧ Fr (fun _ => False) w w' := by
  obtain ⟨a, cap, rfl, -⟩ := Vals.form h
  have qT : ∀ (w : World) (a : Option Addr) (n c n' c' : Nat), (binOp .eql 23 (.slice a n c) (.slice none n' c')).run Tryz.prog w = .ok (.bool a.isNone) w := fun w a n c n' c' => Lib.run_eql_slice_nil w _ _ a n c n' c' Tryz.underlying23
  cases a with
  | none =>
    have h0 : o = [] := by
      obtain ⟨a0, c0, he, _, _, hx⟩ := Vals.form h
      cases o with
      | nil => rfl
      | cons u s =>
        obtain ⟨b, o, e, -⟩ := hx (by simp)
        simp only [Value.slice.injEq] at he
        rw [e] at he
        cases he.1
    subst h0
    clear h
    go_enter Tryz.func87, Tryz.ntmps87
    go_wp2_with fail
    go_ret
    exact ⟨⟨_, rfl, rfl, .inl ⟨rfl, rfl⟩⟩, Fr.refl _⟩
  | some ad =>
    have B0 := Blk.new w 5 #[]
    have F0 : Fr (fun _ => False) w (w.alloc (.cells #[] 5)) := (Fr.refl w).alloc _
    have hl2 : (Lib.byteCells o).length = o.length := byteCells_len o
    obtain ⟨a', c', w', hrun, hown, F1, -⟩ := append_vals Tryz.underlying23 info5 rfl (by decide) (own_block B0 0 (Nat.le_refl _) (Nat.zero_le _) w.heap.size (Nat.le_refl _)) F0.size (h.old F0) (byteCells_one o) (by rw [hl2]; omega)
    rw [hl2, Nat.zero_add] at hrun hown
    have HF := Lib.hid (F0.trans' F1 (fun i hi e => by simp [Value.ownBlock] at e; omega))
    have HRUN := Lib.hid hrun
    have HOW := Lib.hid hown
    clear hrun hown F1 B0 F0 h hl2
    go_enter Tryz.func87, Tryz.ntmps87
    go_wp2_with (at_builtin; refine wpList_append_run (by rfl) (.tmp 5) (.tmp 6) 23 (by rfl) _ w' (by exact HRUN.out) ?_)
    go_ret
    exact ⟨⟨_, rfl, HOW.out⟩, HF.out⟩
end Go.Proofs.YtgffhiopbnkjbaaGreatDoor

namespace Go.Q
open Go Go.RowKit
theorem GRow.addAll {P : Program} {α : Type} {R : World → List Value → α → Prop} {K : Nat → Prop} {t s : TypeId} {w : World} {base : Nat} {v y z : Value} {l r : List α} {news : List Value} {bytes : Nat} (hu0 : P.underlying s = some (.slice t)) (hinf : Info P t z 1 bytes) (hzs : z.cells.size = 1) (hby : bytes ≤ 64) (h : GRow 1 R K t w base v l) (hb : base ≤ w.heap.size) (hy : Vals w y news) (hl : news.length = r.length) (h1 : ∀ u ∈ news, u.oneCell' = true) (hel : ∀ (i : Nat) (u : Value) (x : α), news[i]? = some u → r[i]? = some x → Kept (fun W => R W [u] x) (fun k => v.ownBlock = some k ∨ K k) w) (hn : l.length + r.length ≤ 1099511627776) :
    ∃ a c w', (Builtin.append_ #[s, s] s #[v, y]).run P w = .ok (.slice a (l.length + r.length) c) w' ∧ GRow 1 R K t w' base (.slice a (l.length + r.length) c) (l ++ r) ∧ Fr (fun k => v.ownBlock = some k) w w' := by
  obtain ⟨cs, g1, g2⟩ := h
  have hcl : cs.length = l.length * 1 := g1.1
  obtain ⟨a, c, w', hrun, h4, F2, h5⟩ := append_vals hu0 hinf hzs hby g1 hb hy h1 (by rw [hl]; exact hn)
  rw [hl] at hrun h4 h5
  have hst : ∀ (us : List Value) (x : α), Kept (fun W => R W us x) (fun k => v.ownBlock = some k ∨ K k) w → Kept (fun W => R W us x) (fun k => (Value.slice a (l.length + r.length) c).ownBlock = some k ∨ K k) w' := fun us y hq =>
    hq.step F2 (fun _ _ h => .inl h) (fun k hk => by
      rcases hk with h | h
      · rcases h5 k h with h | h
        · exact .inl (.inl h)
        · exact .inr h
      · exact .inl (.inr h))
  refine ⟨a, c, w', hrun, ⟨cs ++ news, by rw [List.length_append]; exact h4, fun i x hx => ?_⟩, F2⟩
  rcases Nat.lt_or_ge i l.length with hi | hi
  · rw [List.getElem?_append_left hi] at hx
    obtain ⟨us', e1, e2, e3⟩ := g2 i x hx
    refine ⟨us', e1, fun j u hu => ?_, hst _ _ e3⟩
    have := e2 j u hu
    rw [List.getElem?_append_left (List.getElem?_eq_some_iff.1 this).1]
    exact this
  · rw [List.getElem?_append_right hi] at hx
    have hir : i - l.length < news.length := by rw [hl]; exact (List.getElem?_eq_some_iff.1 hx).1
    refine ⟨[news[i - l.length]], rfl, fun j u hu => ?_, hst _ _ (hel _ _ x (List.getElem?_eq_getElem hir) hx)⟩
    match j, hu with
    | 0, hu =>
      simp only [List.getElem?_cons_zero, Option.some.injEq] at hu
      subst hu
      rw [List.getElem?_append_right (by omega), show 1 * i + 0 - cs.length = i - l.length from by omega]
      exact List.getElem?_eq_getElem hir
    | j + 1, hu => simp at hu
/-- A step of one cell, as an element. -/
theorem step_of {u : Value} {r : List Part} {K : Nat → Prop} {w : World} (h : Kept (fun W => Attrs W u r) K w) : Kept (fun W => RStep W [u] r) K w := fun W f => ⟨u, rfl, h W f⟩
end Go.Q

namespace Go.Q
open Go Go.RowKit
theorem rdnKey_one (p : Part) : rdnKeyS [p] = attrKeyS p.o p.b := by
  unfold rdnKeyS partKeys sortS
  rw [List.map_cons, List.map_nil, List.mergeSort_singleton]
  have e : Lib.compact [attrKeyS p.o p.b] = [attrKeyS p.o p.b] := by
    simp [Lib.compact, Lib.compactUpTo, Lib.keeps]
  rw [e, Lib.join_one]
theorem kind_tag {k : Int} (h : kindOk k = true) : tagGood (tagOf k) ∧ (tagOf k).cls = 0 ∧ (tagOf k).made = false ∧ (tagOf k).num = k := by
  have hk : k = 12 ∨ k = 19 ∨ k = 20 ∨ k = 22 ∨ k = 26 ∨ k = 30 := by simpa [kindOk] using h
  refine ⟨good_of (by omega) (by omega), rfl, ?_, rfl⟩
  rcases hk with r | r | r | r | r | r <;> subst r <;> rfl
theorem textRead_wrap {k : Int} {b : List UInt8} (h : rightS k b = true) (hl : b.length ≤ 16777216) : textReadS (wrapS (tagOf k) b) = .ok (k, b, (wrapS (tagOf k) b).length) := by
  have hk : kindOk k = true := by unfold rightS at h; rw [Bool.and_eq_true] at h; exact h.1
  obtain ⟨hg, h0, hm, hn⟩ := kind_tag hk
  have hr := wrap_read hg hl []
  rw [List.append_nil] at hr
  have hlen := wrap_len (tagOf k) b
  have hd : (wrapS (tagOf k) b).drop (1 + (lenBytes b.length).length) = b := by
    unfold wrapS
    rw [Nat.add_comm, List.drop_succ_cons, List.drop_left]
  unfold textReadS
  rw [hr]
  simp only [h0, hm, hn, hk, hd, List.take_length, h, if_true]
  rw [if_neg (by simp), if_neg (by omega)]
  simp only [hlen]
theorem single_wrap {t : Tag} (h : tagGood t) {l : List UInt8} (hl : l.length ≤ 16777216) : singleB (wrapS t l) = true := by
  unfold singleB allS
  rw [wrap_single h hl _ (by rw [wrap_len]; omega)]
  rfl
theorem attr_some {o : List Int} {k : Int} {b : List UInt8} (ho : oidOk o = true) (h : kindOk k = true) (hl : b.length ≤ 16777216) : (attrS o (wrapS (tagOf k) b)).isSome = true := by
  unfold attrS
  rw [ho, single_wrap (kind_tag h).1 hl]
  rfl
/-- A name of one part. -/
abbrev oneN (o : List Int) (v : List UInt8) : List (List Part) := [[⟨o, v⟩]]
theorem oneN_ok {o : List Int} {v : List UInt8} (h : (attrS o v).isSome = true) : nameOk (oneN o v) = true := by
  unfold nameOk rdnS
  obtain ⟨x, hx⟩ := Option.isSome_iff_exists.1 h
  simp [stepsS, hx]
theorem oneN_key (o : List Int) (v : List UInt8) : nameKeyS (oneN o v) = attrKeyS o v := by
  unfold nameKeyS
  rw [List.map_cons, List.map_nil, Lib.join_one, rdnKey_one]
theorem attrKey_wrap {o : List Int} {k : Int} {b : List UInt8} (h : rightS k b = true) (hl : b.length ≤ 16777216) : attrKeyS o (wrapS (tagOf k) b) = oidTextS o ++ ([61, 116] ++ hexS (ofS 12 (foldS (signsS k b)))) := by
  unfold attrKeyS
  rw [textRead_wrap h hl]
  rfl
theorem right_kind {k : Int} {b : List UInt8} (h : rightS k b = true) : kindOk k = true := by unfold rightS at h; rw [Bool.and_eq_true] at h; exact h.1
/-- Texts with the same signs mean the same. -/
theorem same_signs {o : List Int} {k m : Int} {b c : List UInt8} (ho : oidOk o = true) (hb : rightS k b = true) (hc : rightS m c = true) (hs : signsS k b = signsS m c) (hl : b.length ≤ 16777216) (hm : c.length ≤ 16777216) :
    nameSameS (oneN o (wrapS (tagOf k) b)) (oneN o (wrapS (tagOf m) c)) = true := by
  unfold nameSameS
  rw [oneN_ok (attr_some ho (right_kind hb) hl), oneN_ok (attr_some ho (right_kind hc) hm), oneN_key, oneN_key, attrKey_wrap hb hl, attrKey_wrap hc hm, hs]
  simp
/-! ### An oid's text tells it -/
theorem numVal_snoc (l : List UInt8) (x : UInt8) : numVal (l ++ [x]) = 10 * numVal l + (x.toNat - 48) := by
  unfold numVal
  simp [List.foldl_append]
theorem dec_val (u : Nat) : numVal (Lib.decDigits u) = u ∧ ∀ x ∈ Lib.decDigits u, x ≠ 46 ∧ x ≠ 61 := by
  have hx : ∀ n : Nat, n < 10 → UInt8.ofNat (48 + n) ≠ 46 ∧ UInt8.ofNat (48 + n) ≠ 61 := by decide
  induction u using Nat.strongRecOn with
  | _ u ih =>
    rw [Lib.decDigits]
    by_cases h : u < 10
    · rw [dif_pos h]
      have e := u8 (48 + u) (by omega)
      exact ⟨by simp only [numVal, List.foldl_cons, List.foldl_nil, e]; omega, fun x hm => by rw [List.mem_singleton.1 hm]; exact hx u h⟩
    · rw [dif_neg h]
      obtain ⟨h1, h2⟩ := ih (u / 10) (by omega)
      have e := u8 (48 + u % 10) (by omega)
      refine ⟨by rw [numVal_snoc, h1, e]; omega, fun x hm => ?_⟩
      rcases List.mem_append.1 hm with hm | hm
      · exact h2 x hm
      · rw [List.mem_singleton.1 hm]
        exact hx (u % 10) (by omega)
theorem itoa_val {n : Int} (h : 0 ≤ n) : (numVal (Lib.itoa n) : Int) = n ∧ ∀ x ∈ Lib.itoa n, x ≠ 46 ∧ x ≠ 61 := by
  unfold Lib.itoa
  rw [if_neg (by omega)]
  obtain ⟨h1, h2⟩ := dec_val n.toNat
  exact ⟨by rw [h1]; omega, h2⟩
theorem cut_free (c : UInt8) : ∀ l : List UInt8, (∀ x ∈ l, x ≠ c) → ∀ r, cutAt c (l ++ c :: r) = l :: cutAt c r
  | [], _, r => by simp [cutAt]
  | x :: t, h, r => by
    have ih := cut_free c t (fun y hy => h y (by simp [hy])) r
    simp only [List.cons_append, cutAt, if_neg (h x (by simp)), ih]
theorem cut_alone (c : UInt8) : ∀ l : List UInt8, (∀ x ∈ l, x ≠ c) → cutAt c l = [l]
  | [], _ => rfl
  | x :: t, h => by
    simp only [cutAt, if_neg (h x (by simp)), cut_alone c t (fun y hy => h y (by simp [hy]))]
theorem oidText_cut : ∀ (n : Int) (t : List Int), (∀ m ∈ n :: t, 0 ≤ m) → cutAt 46 (oidTextS (n :: t)) = (n :: t).map Lib.itoa
  | n, [], h => by
    have hn := (itoa_val (h n (by simp))).2
    simp only [oidTextS, List.flatMap_nil, List.append_nil, List.map_cons, List.map_nil]
    exact cut_alone 46 _ (fun x hx => (hn x hx).1)
  | n, m :: t, h => by
    have hn := (itoa_val (h n (by simp))).2
    have ih := oidText_cut m t (fun y hy => h y (by simp [List.mem_cons.1 hy]))
    simp only [oidTextS] at ih
    simp only [oidTextS, List.flatMap_cons, List.cons_append]
    rw [cut_free 46 _ (fun x hx => (hn x hx).1), ih]
    simp
theorem oidText_inj {o p : List Int} (ho : oidOk o = true) (hp : oidOk p = true) (h : oidTextS o = oidTextS p) : o = p := by
  have key : ∀ {q : List Int}, oidOk q = true → 2 ≤ q.length ∧ ∀ n ∈ q, 0 ≤ n := fun {q} hq => by
    simp only [oidOk, Bool.and_eq_true, decide_eq_true_eq] at hq
    refine ⟨hq.1.1.1, fun n hn => ?_⟩
    have := List.all_eq_true.1 hq.1.2 n hn
    simp only [arcOk, decide_eq_true_eq] at this
    omega
  obtain ⟨h1, h2⟩ := key ho
  obtain ⟨h3, h4⟩ := key hp
  match o, p, h1, h3 with
  | x :: s, y :: t, _, _ =>
    have e := congrArg (cutAt 46) h
    rw [oidText_cut x s h2, oidText_cut y t h4] at e
    have e2 := congrArg (List.map fun l => (numVal l : Int)) e
    rw [List.map_map, List.map_map] at e2
    have e3 : ∀ {q : List Int}, (∀ n ∈ q, 0 ≤ n) → q.map ((fun l => (numVal l : Int)) ∘ Lib.itoa) = q := fun {q} hq => (List.map_congr_left (fun m hm => (itoa_val (hq m hm)).1)).trans (List.map_id q)
    rw [e3 h2, e3 h4] at e2
    exact e2
/-- Another type does not mean the same. -/
theorem same_types {o p : List Int} {k : Int} {b : List UInt8} (ho : oidOk o = true) (hp : oidOk p = true) (hb : rightS k b = true) (hl : b.length ≤ 16777216) :
    nameSameS (oneN o (wrapS (tagOf k) b)) (oneN p (wrapS (tagOf k) b)) = decide (o = p) := by
  unfold nameSameS
  rw [oneN_ok (attr_some ho (right_kind hb) hl), oneN_ok (attr_some hp (right_kind hb) hl), oneN_key, oneN_key, attrKey_wrap hb hl, attrKey_wrap hb hl, Bool.true_and, Bool.true_and]
  refine decide_eq_decide.2 ⟨fun h => oidText_inj ho hp (List.append_cancel_right h), fun h => by rw [h]⟩
end Go.Q

namespace Go.Q
open Go Go.RowKit
theorem cmpI_drop {o p : List Int} {j : Nat} {x y : Int} (hx : o[j]? = some x) (hy : p[j]? = some y) : cmpI (o.drop j) (p.drop j) = if x < y then -1 else if y < x then 1 else cmpI (o.drop (j + 1)) (p.drop (j + 1)) := by
  have h1 : o.drop j = x :: o.drop (j + 1) := by
    obtain ⟨h, rfl⟩ := List.getElem?_eq_some_iff.1 hx
    exact List.drop_eq_getElem_cons h
  have h2 : p.drop j = y :: p.drop (j + 1) := by
    obtain ⟨h, rfl⟩ := List.getElem?_eq_some_iff.1 hy
    exact List.drop_eq_getElem_cons h
  rw [h1, h2]
  rfl
/-- The text of a part, if it is of a type, and a text. -/
def partTextS (ks : List Int) (p : Part) : Option (List UInt8) :=
  if ks ≠ [] ∧ p.o ≠ ks then none else match textReadS p.b with
    | .ok (k, t, _) => some (utf8S k t)
    | .error _ => none
/-- The texts of a name. -/
def textsS (n : List (List Part)) (ks : List Int) : List (List UInt8) := if nameOk n = true then n.flatten.filterMap (partTextS ks) else []
theorem filterMap_next {l : List Part} {j : Nat} {p : Part} (ks : List Int) (h : l[j]? = some p) : (l.take (j + 1)).filterMap (partTextS ks) = (l.take j).filterMap (partTextS ks) ++ (partTextS ks p).toList := by
  rw [List.take_add_one, h, List.filterMap_append]
  cases hp : partTextS ks p <;> simp [hp]
end Go.Q
namespace Go.Proofs.YtgffhiopbnkjbaaGreatDoor
open Go Go.RowKit Go.Q

set_option maxRecDepth 20000 in
set_option maxHeartbeats 1000000 in
theorem sliceCompare_any (v u : Value) (o p : List Int) (w : World) (h : Ints w v o) (hu : Ints w u p) :
    Calls Tryz.prog 93 #[v, u] w fun e w' => e = .returned (.int .i64 (cmpI o p)) ∧ w = w' := by
  obtain ⟨a, cap, rfl, hc1, hm1, hx⟩ := Ints.form h
  obtain ⟨b, cbp, rfl, hc2, hm2, hy⟩ := Ints.form hu
  have HX := Lib.hid hx
  have HY := Lib.hid hy
  unfold maxLen at hm1 hm2
  clear h hu hx hy
  go_enter Tryz.func93, Tryz.ntmps93
  go_wp2_with fail
  go_loopg [11] o.length (fun g i wr => ∃ j : Nat, g = o.length - j ∧ j ≤ o.length ∧ j ≤ p.length ∧ i = .int .i64 j ∧ cmpI o p = cmpI (o.drop j) (p.drop j) ∧ wr = w)
  case atStart => exact ⟨0, rfl, Nat.zero_le _, Nat.zero_le _, rfl, rfl, rfl⟩
  case round =>
    obtain ⟨j, hg, hj, hjp, rfl, hE, rfl⟩ := hrel
    have HG := Lib.hid hg
    have HE := Lib.hid hE
    clear hg hE
    by_cases hjl : j < o.length
    · obtain ⟨ba, oa, rfl, ha⟩ := HX.out (by omega)
      obtain ⟨x, hxj⟩ : ∃ x, o[j]? = some x := ⟨_, List.getElem?_eq_getElem hjl⟩
      have e1 := ha j x hxj
      have r1 : (0 : Int) ≤ (j : Int) := by omega
      have r2 : (j : Int) < (o.length : Int) := by omega
      by_cases hjl2 : j < p.length
      · obtain ⟨bb, ob, rfl, hb⟩ := HY.out (by omega)
        obtain ⟨y, hyj⟩ : ∃ y, p[j]? = some y := ⟨_, List.getElem?_eq_getElem hjl2⟩
        have e2 := hb j y hyj
        have r3 : ¬ (p.length : Int) ≤ (j : Int) := by omega
        have r4 : (j : Int) < (p.length : Int) := by omega
        have hcd := Lib.hid (cmpI_drop hxj hyj)
        have HC := Lib.hid (show Calls Tryz.prog 128 #[.int .i64 x, .int .i64 y] wr fun e w' => e = .returned (.int .i64 (Lib.compareInt x y)) ∧ wr = w' from (Go.Proofs.Tryz.cmp_Compare_int x y wr).mono (fun _ _ h => ⟨h.1, h.2.symm⟩))
        clear ha hb hxj hyj
        have hcase : (x < y ∧ Lib.compareInt x y = -1) ∨ (y < x ∧ Lib.compareInt x y = 1) ∨ (x = y ∧ Lib.compareInt x y = 0) := by
          unfold Lib.compareInt
          by_cases h1 : x < y
          · left; refine ⟨h1, ?_⟩; simp [h1]
          · by_cases h2 : y < x
            · right; left; refine ⟨h2, ?_⟩; simp [h1, h2]
            · right; right; refine ⟨by omega, ?_⟩; simp [h1, h2]
        rcases hcase with ⟨h1, h2⟩ | ⟨h1, h2⟩ | ⟨h1, h2⟩
        · rw [h2] at HC
          have hres : cmpI o p = -1 := by rw [HE.out, hcd.out, if_pos h1]
          have HRES := Lib.hid hres
          clear hres h1 h2
          go_wp2_with fail
          refine HC.out.mono ?_
          rintro e w' ⟨rfl, rfl⟩
          go_wp2_with fail
          go_ret
          exact ⟨by rw [HRES.out]; rfl, rfl⟩
        · rw [h2] at HC
          have hres : cmpI o p = 1 := by rw [HE.out, hcd.out, if_neg (by omega), if_pos h1]
          have HRES := Lib.hid hres
          clear hres h1 h2
          go_wp2_with fail
          refine HC.out.mono ?_
          rintro e w' ⟨rfl, rfl⟩
          go_wp2_with fail
          go_ret
          exact ⟨by rw [HRES.out]; rfl, rfl⟩
        · rw [h2] at HC
          have hres : cmpI o p = cmpI (o.drop (j + 1)) (p.drop (j + 1)) := by rw [HE.out, hcd.out, if_neg (by omega), if_neg (by omega)]
          have HRES := Lib.hid hres
          clear hres h1 h2
          go_wp2_with fail
          refine HC.out.mono ?_
          rintro e w' ⟨rfl, rfl⟩
          go_wp2_with fail
          go_roundg (o.length - (j + 1))
          case measure => rw [HG.out]; omega
          case rel => exact ⟨j + 1, rfl, by omega, by omega, by go_num, HRES.out, rfl⟩
      · have r3 : (p.length : Int) ≤ (j : Int) := by omega
        have hres : cmpI o p = 1 := by
          have h1 : o.drop j = x :: o.drop (j + 1) := by
            obtain ⟨h, rfl⟩ := List.getElem?_eq_some_iff.1 hxj
            exact List.drop_eq_getElem_cons h
          have h2 : p.drop j = [] := List.drop_eq_nil_of_le (by omega)
          rw [HE.out, h1, h2]
          rfl
        have HRES := Lib.hid hres
        clear hres ha hxj
        go_wp2_with fail
        go_ret
        exact ⟨by rw [HRES.out]; rfl, rfl⟩
    · obtain rfl : j = o.length := by omega
      have h1 : o.drop o.length = [] := List.drop_length
      by_cases hlt : o.length < p.length
      · have r3 : (o.length : Int) < (p.length : Int) := by omega
        have hres : cmpI o p = -1 := by
          rw [HE.out, h1]
          have : p.drop o.length ≠ [] := fun e => by have := drop_nil e; omega
          cases hd : p.drop o.length with
          | nil => exact absurd hd this
          | cons y t => rfl
        have HRES := Lib.hid hres
        clear hres h1
        go_wp2_with fail
        go_ret
        exact ⟨by rw [HRES.out]; rfl, rfl⟩
      · have r3 : ¬ (o.length : Int) < (p.length : Int) := by omega
        have hres : cmpI o p = 0 := by
          have h2 : p.drop o.length = [] := List.drop_eq_nil_of_le (by omega)
          rw [HE.out, h1, h2]
          rfl
        have HRES := Lib.hid hres
        clear hres h1
        go_wp2_with fail
        go_ret
        exact ⟨by rw [HRES.out]; rfl, rfl⟩

theorem oidCompare_any (v u : Value) (o p : List Int) (w : World) (h : Ints w v o) (hu : Ints w u p) :
    Calls Tryz.prog 60 #[v, u] w fun e w' => e = .returned (.int .i64 (cmpI o p)) ∧ w = w' := by
  have H := Lib.hid (sliceCompare_any v u o p w h hu)
  clear h hu
  go_enter Tryz.func60, Tryz.ntmps60
  go_wp2_with fail
  refine H.out.mono ?_
  rintro e w' ⟨rfl, rfl⟩
  go_wp2_with fail
  go_ret
  exact ⟨rfl, rfl⟩

set_option maxRecDepth 20000 in
set_option maxHeartbeats 2000000 in
theorem texts_any (v u : Value) (n : List (List Part)) (ks : List Int) (w : World) (h : NameAt w v n) (hu : Ints w u ks) (hf : ∀ r ∈ n, fewB r) (hE : Env w) :
    Calls Tryz.prog 29 #[v, u] w fun e w' => (∃ x, e = .returned x ∧ Strs w' x (textsS n ks)) ∧ Fr (fun _ => False) w w' := by
  have HR := Lib.hid (right_any v n w h hf)
  have H := Lib.hid h
  have HU := Lib.hid hu
  have HE := Lib.hid hE
  obtain ⟨a, cap, rfl, -⟩ := h
  obtain ⟨b, cbp, rfl, -⟩ := Ints.form hu
  clear hu hE
  cases hok : nameOk n with
  | false =>
    have hres : textsS n ks = [] := by unfold textsS; rw [if_neg (by rw [hok]; simp)]
    have HRES := Lib.hid hres
    rw [hok] at HR
    clear hres hok
    go_enter Tryz.func29, Tryz.ntmps29
    go_wp2_with fail
    refine HR.out.mono ?_
    rintro e w1 ⟨rfl, F1⟩
    go_wp2_with fail
    go_ret
    exact ⟨⟨_, rfl, by rw [HRES.out]; exact Vals.nil w1⟩, F1⟩
  | true =>
    have hres : textsS n ks = n.flatten.filterMap (partTextS ks) := by unfold textsS; rw [if_pos hok]
    have HRES := Lib.hid hres
    obtain ⟨hn64, hrd⟩ := name_rdns hok
    have hrl : ∀ r ∈ n, 0 < r.length ∧ r.length ≤ 1000 := fun r hr => by
      have h1 := hrd r hr
      have h2 := (rdn_oids h1).1
      unfold rdnS at h1
      split at h1
      · cases h1
      · exact ⟨by omega, by omega⟩
    have hfl : ∀ p ∈ n.flatten, p.b.length ≤ 10000000 := fun p hp => by
      obtain ⟨r, hr, hpr⟩ := List.mem_flatten.1 hp
      exact hf r hr p hpr
    have hfn : n.flatten.length ≤ 64 * 1000 := by
      have : ∀ m : List (List Part), (∀ r ∈ m, r.length ≤ 1000) → m.flatten.length ≤ m.length * 1000 := by
        intro m
        induction m with
        | nil => intro _; simp
        | cons x t ih =>
          intro hm
          have h1 := hm x (by simp)
          have h2 := ih (fun r hr => hm r (by simp [hr]))
          simp only [List.flatten_cons, List.length_append, List.length_cons, Nat.add_mul]
          omega
      have h1 := this n (fun r hr => (hrl r hr).2)
      have h2 : n.length * 1000 ≤ 64 * 1000 := Nat.mul_le_mul_right _ hn64
      omega
    have HFL := Lib.hid hfl
    rw [hok] at HR
    have HRL := Lib.hid hrl
    clear hres hok hrd hfl hrl
    go_enter Tryz.func29, Tryz.ntmps29
    go_wp2_with fail
    refine HR.out.mono ?_
    rintro e w1 ⟨rfl, F1⟩
    have HCC := Lib.hid (concatRdn_any _ n w1 (H.out.old F1) (by omega) HRL.out)
    clear HR
    go_wp2_with fail
    refine HCC.out.mono ?_
    rintro e w2 ⟨⟨x2, rfl, hA2⟩, F2⟩
    have HA2 := Lib.hid hA2
    have HF2 := Lib.hid (F1.trans F2)
    obtain ⟨a2, c2, rfl⟩ := hA2.form
    clear hA2 HCC F1 F2
    generalize n.flatten = l at *
    go_wp2_with fail
    go_loopg [5, 18] l.length (fun g s i wr => ∃ (j : Nat) (ts : List (List UInt8)) (au : Option Addr) (cu : Nat), g = l.length - j ∧ j ≤ l.length ∧ s = .slice au ts.length cu ∧ i = .int .i64 j ∧ ts = (l.take j).filterMap (partTextS ks) ∧ ts.length ≤ j ∧ wr.ownsRow w2.heap.size 9 1 (.slice au ts.length cu) ts.length (ts.map str) ∧ Fr (fun _ => False) w2 wr ∧ Fr (fun _ => False) w wr)
    case atStart => exact ⟨0, [], none, 0, rfl, Nat.zero_le _, rfl, rfl, rfl, Nat.le_refl _, ⟨rfl, .inl ⟨rfl, rfl⟩⟩, Fr.refl _, HF2.out⟩
    case round =>
      obtain ⟨j, ts, au, cu, hg, hj, rfl, rfl, hts, htl, hown, F, FW⟩ := hrel
      have HG := Lib.hid hg
      have HTS := Lib.hid hts
      have HOW := Lib.hid hown
      have HF := Lib.hid F
      have HFW := Lib.hid FW
      clear hg hts hown
      by_cases hjl : j < l.length
      · obtain ⟨a0, cap0, he, _, _, hx⟩ := HA2.out.old F
        simp only [Value.slice.injEq, true_and] at he
        obtain ⟨rfl, rfl⟩ := he
        obtain ⟨bb, off, rfl, hy⟩ := hx (by omega)
        obtain ⟨p, hp⟩ : ∃ p, l[j]? = some p := ⟨_, List.getElem?_eq_getElem hjl⟩
        obtain ⟨x, y, e1, e2, hpx, hpy⟩ := hy j p hp
        have hpb := HFL.out p (List.mem_of_getElem? hp)
        have r1 : (0 : Int) ≤ (j : Int) := by omega
        have r2 : (j : Int) < (l.length : Int) := by omega
        obtain ⟨ax, cx, rfl, -⟩ := Ints.form hpx
        obtain ⟨ay, cy, rfl, -⟩ := Vals.form hpy
        have e1' : wr.cell? ⟨bb, off + j * 2, none⟩ = some (.slice ax p.o.length cx) := by rw [Nat.mul_comm]; exact e1
        have e2' : wr.cell? ⟨bb, off + j * 2 + 1, none⟩ = some (.slice ay p.b.length cy) := by rw [Nat.mul_comm]; exact e2
        have HFN := Lib.hid (filterMap_next ks hp)
        have HPX := Lib.hid hpx
        have HPY := Lib.hid hpy
        clear hx hy hp hpx hpy F FW
        go_upto_region 7 with fail
        have BZ := Blk.new wr 39 #[.slice ax p.o.length cx, .slice ay p.b.length cy]
        have F3 : Fr (fun _ => False) wr (wr.alloc (.cells #[.slice ax p.o.length cx, .slice ay p.b.length cy] 39)) := (Fr.refl wr).alloc _
        have HPX1 := Lib.hid (HPX.out.old F3)
        have HPY1 := Lib.hid (HPY.out.old F3)
        have HU1 := Lib.hid ((HU.out.old HFW.out).old F3)
        have HE1 := Lib.hid ((HE.out.old HFW.out).old F3)
        have HOW1 := Lib.hid (ownsRow_fr HOW.out F3 (fun _ _ h => h))
        have HF1 := Lib.hid (HF.out.trans F3)
        have HFW1 := Lib.hid (HFW.out.trans F3)
        clear e1 e2 e1' e2' HPX HPY F3 HOW HF HFW
        generalize (wr.alloc (.cells #[.slice ax p.o.length cx, .slice ay p.b.length cy] 39)) = w3 at *
        have z0 := BZ.cell 0
        have z1 := BZ.cell 1
        simp at z0 z1
        have skip : partTextS ks p = none → ts = (l.take (j + 1)).filterMap (partTextS ks) := fun h => by rw [HFN.out, h, ← HTS.out]; simp
        have HSK := Lib.hid skip
        clear skip
        by_cases hno : ks ≠ [] ∧ p.o ≠ ks
        · have hpt : partTextS ks p = none := by unfold partTextS; rw [if_pos hno]
          have hk0 : (0 : Int) < (ks.length : Int) := by
            have := List.length_pos_iff.2 hno.1
            omega
          have hcz : cmpI p.o ks ≠ 0 := fun e => hno.2 ((cmpI_zero _ _).1 e)
          have hq1 : (cmpI p.o ks == 0) = false := beq_eq_false_iff_ne.2 hcz
          have hq2 : (cmpI p.o ks != 0) = true := by simpa using hcz
          have HOC := Lib.hid (oidCompare_any _ _ p.o ks w3 HPX1.out HU1.out)
          have HSK2 := Lib.hid (HSK.out hpt)
          clear hpt hno hcz
          generalize cmpI p.o ks = cz at *
          go_wp2_with (first | (go_at_call 60; refine HOC.out.mono ?_; rintro e w' ⟨rfl, rfl⟩))
          go_roundg (l.length - (j + 1))
          case measure => rw [HG.out]; omega
          case rel => exact ⟨j + 1, ts, au, cu, rfl, by omega, rfl, by go_num, HSK2.out, by omega, HOW1.out, HF1.out, HFW1.out⟩
        · have hpt : partTextS ks p = match textReadS p.b with | .ok (k, t, _) => some (utf8S k t) | .error _ => none := by unfold partTextS; rw [if_neg hno]
          have HPT := Lib.hid hpt
          have HW := Lib.hid (words_any _ p.b w3 HPY1.out HE1.out (by omega))
          have hcase : (¬ (0 : Int) < (ks.length : Int)) ∨ ((0 : Int) < (ks.length : Int) ∧ cmpI p.o ks = 0) := by
            by_cases hk : ks = []
            · left; rw [hk]; simp
            · right
              refine ⟨by have := List.length_pos_iff.2 hk; omega, (cmpI_zero _ _).2 ?_⟩
              exact Classical.byContradiction fun h => hno ⟨hk, h⟩
          have HOC := Lib.hid (oidCompare_any _ _ p.o ks w3 HPX1.out HU1.out)
          clear hpt hno
          rcases hcase with hk0 | ⟨hk0, hcz⟩
          case' inr => rw [hcz] at HOC
          all_goals
            go_wp2_with (first | (go_at_call 60; refine HOC.out.mono ?_; rintro e w' ⟨rfl, rfl⟩))
            refine HW.out.mono ?_
            rintro e w4 ⟨hout, F4⟩
            unfold WordsOut at hout
            cases hr : textReadS p.b with
            | error x =>
              rw [hr] at hout
              subst hout
              have hpt : partTextS ks p = none := by rw [HPT.out, hr]
              have HSK2 := Lib.hid (HSK.out hpt)
              have F5 : Fr (fun _ => False) w4 (w4.alloc (.cells #[.int .i64 0, .slice none 0 0] 107)) := (Fr.refl w4).alloc _
              have HOW5 := Lib.hid (ownsRow_fr (ownsRow_fr HOW1.out F4 (fun _ _ h => h)) F5 (fun _ _ h => h))
              have HF5 := Lib.hid ((HF1.out.trans F4).trans F5)
              have HFW5 := Lib.hid ((HFW1.out.trans F4).trans F5)
              clear hr hpt F4 F5 HOW1 HF1 HFW1
              go_wp2_with fail
              go_roundg (l.length - (j + 1))
              case measure => rw [HG.out]; omega
              case rel => exact ⟨j + 1, ts, au, cu, rfl, by omega, rfl, by go_num, HSK2.out, by omega, HOW5.out, HF5.out, HFW5.out⟩
            | ok kbn =>
              obtain ⟨k, t, m⟩ := kbn
              rw [hr] at hout
              obtain ⟨ut, rfl, hbt⟩ := hout
              obtain ⟨hrt, htl2⟩ := textRead_ok hr
              obtain ⟨at_, ct, rfl, -⟩ := hbt.form
              have hpt : partTextS ks p = some (utf8S k t) := by rw [HPT.out, hr]
              have hnx : ts ++ [utf8S k t] = (l.take (j + 1)).filterMap (partTextS ks) := by rw [HFN.out, hpt, ← HTS.out]; rfl
              have HNX := Lib.hid hnx
              have F5 : Fr (fun _ => False) w4 (w4.alloc (.cells #[.int .i64 k, .slice at_ t.length ct] 107)) := (Fr.refl w4).alloc _
              have HUT := Lib.hid (textUtf8_any k _ t _ (hbt.old F5) ((HE1.out.old F4).old F5).tabs hrt (by omega))
              have HOW5 := Lib.hid (ownsRow_fr (ownsRow_fr HOW1.out F4 (fun _ _ h => h)) F5 (fun _ _ h => h))
              have HF5 := Lib.hid ((HF1.out.trans F4).trans F5)
              have HFW5 := Lib.hid ((HFW1.out.trans F4).trans F5)
              clear hr hpt hnx F4 F5 HOW1 HF1 HFW1 hbt hrt
              generalize utf8S k t = ut at *
              go_upto_region 9 with fail
              have BT := Blk.new w4 107 #[.int .i64 k, .slice at_ t.length ct]
              obtain ⟨yy, hyy⟩ : ∃ y, y = w4.heap.size := ⟨_, rfl⟩
              rw [← hyy] at BT ⊢
              clear hyy
              generalize (w4.alloc (.cells #[.int .i64 k, .slice at_ t.length ct] 107)) = w5 at *
              have t0 := BT.cell 0
              have t1 := BT.cell 1
              simp only [List.getElem?_toArray, List.getElem?_cons_succ, List.getElem?_cons_zero] at t0 t1
              go_wp2_with fail
              refine HUT.out.mono ?_
              rintro e w6 ⟨rfl, F6⟩
              have F7 : Fr (fun _ => False) w6 (w6.alloc (.cells #[str ut] 9)) := (Fr.refl w6).alloc _
              have hs1 := HF5.out.size
              have hs2 := F6.size
              have hbk := (Vals.of_own HOW5.out).2
              have hs0 := HF2.out.size
              obtain ⟨a', c', w8, hrun, hown8, F8, -⟩ := add_gen Tryz.underlying53 info9 rfl (by decide) (by decide) (ownsRow_fr HOW5.out F6 (fun _ _ h => h)) (by omega) F7 w6.heap.size [str ut] rfl (Blk.new w6 9 #[str ut]) (by simp [Value.oneCell']) (by omega)
              have HRUN := Lib.hid hrun
              have HOW8 := Lib.hid hown8
              have HFW8 := Lib.hid ((HFW5.out.trans F6).trans' F8 (fun i hi e => by have := (hbk i e).1; omega))
              have HF8 := Lib.hid ((HF5.out.trans F6).trans' F8 (fun i hi e => by have := (hbk i e).1; omega))
              clear F6 F7 hrun hown8 F8 hbk HOW5 HF5 HFW5 BT t0 t1 HUT
              go_wp2_with (at_builtin; refine wpList_append_run (by rfl) (.tmp 44) (.tmp 46) 53 (by rfl) _ w8 (by exact HRUN.out) ?_)
              go_roundg (l.length - (j + 1))
              case measure => rw [HG.out]; omega
              case rel => exact ⟨j + 1, ts ++ [ut], a', c', rfl, by omega, by rw [List.length_append]; rfl, by go_num, HNX.out, by rw [List.length_append]; simp only [List.length_singleton]; omega, by rw [List.length_append, List.map_append]; exact HOW8.out, HF8.out, HFW8.out⟩
      · obtain rfl : j = l.length := by omega
        have hall : ts = l.filterMap (partTextS ks) := by rw [HTS.out, List.take_length]
        have HALL := Lib.hid hall
        have hv := Lib.hid (Vals.of_own HOW.out).1
        clear hall
        go_wp2_with fail
        go_ret
        exact ⟨⟨_, rfl, by rw [HRES.out, ← HALL.out]; exact hv.out⟩, FW⟩
end Go.Proofs.YtgffhiopbnkjbaaGreatDoor

namespace Go.Q
open Go Go.RowKit
def knT1 : List UInt8 := [50, 46, 53, 46, 52, 46, 51, 61, 67, 65]
def knT2 : List UInt8 := [50, 46, 53, 46, 52, 46, 49, 48, 61, 32, 70, 111, 111, 32, 32, 66, 97, 114, 32]
def knT3 : List UInt8 := [50, 46, 53, 46, 52, 46, 51, 61, 99, 97]
def knT4 : List UInt8 := [50, 46, 53, 46, 52, 46, 49, 48, 61, 102, 111, 111, 32, 98, 97, 114]
def knV1 : List UInt8 := wrapS (tagOf 19) ([67, 65])
def knV2 : List UInt8 := wrapS (tagOf 19) ([32, 70, 111, 111, 32, 32, 66, 97, 114, 32])
def knV3 : List UInt8 := wrapS (tagOf 19) ([99, 97])
def knV4 : List UInt8 := wrapS (tagOf 19) ([102, 111, 111, 32, 98, 97, 114])
def knA : List (List Part) := [[⟨[2, 5, 4, 3], knV1⟩], [⟨[2, 5, 4, 10], knV2⟩]]
def knB : List (List Part) := [[⟨[2, 5, 4, 3], knV3⟩], [⟨[2, 5, 4, 10], knV4⟩]]
theorem knA_of : nameOfS [knT1, knT2] = .ok knA := by kernel_rfl
theorem knB_of : nameOfS [knT3, knT4] = .ok knB := by kernel_rfl
theorem knA_ok : nameOk knA = true := by kernel_rfl
theorem knA1_ok : nameOk (knA.take 1) = true := by kernel_rfl
theorem knB_ok : nameOk knB = true := by kernel_rfl
theorem name2_key (p q : Part) : nameKeyS [[p], [q]] = attrKeyS p.o p.b ++ ([47] ++ attrKeyS q.o q.b) := by
  unfold nameKeyS
  rw [List.map_cons, List.map_cons, List.map_nil, rdnKey_one, rdnKey_one, Lib.join_cons]
  simp [Lib.joinTail]
theorem kn_same : nameSameS knA knB = true := by
  unfold nameSameS
  rw [knA_ok, knB_ok]
  have e1 : foldS (signsS 19 ([67, 65])) = foldS (signsS 19 ([99, 97])) := by kernel_rfl
  have e2 : foldS (signsS 19 ([32, 70, 111, 111, 32, 32, 66, 97, 114, 32])) = foldS (signsS 19 ([102, 111, 111, 32, 98, 97, 114])) := by kernel_rfl
  have e : nameKeyS knA = nameKeyS knB := by
    unfold knA knB
    rw [name2_key, name2_key]
    unfold knV1 knV2 knV3 knV4
    rw [attrKey_wrap (by kernel_rfl) (of_decide_eq_true (by kernel_rfl)), attrKey_wrap (by kernel_rfl) (of_decide_eq_true (by kernel_rfl)), attrKey_wrap (by kernel_rfl) (of_decide_eq_true (by kernel_rfl)), attrKey_wrap (by kernel_rfl) (of_decide_eq_true (by kernel_rfl)), e1, e2]
  rw [e]
  simp
theorem kn_texts : textsS knA [2, 5, 4, 3] = [[67, 65]] := by
  unfold textsS
  rw [knA_ok]
  kernel_rfl
theorem kn_front : nameSameS knA (knA.take 1) = false := by
  unfold nameSameS
  rw [knA_ok, knA1_ok]
  have e : ¬ nameKeyS knA = nameKeyS (knA.take 1) := fun h => by
    have h2 := congrArg List.length h
    rw [show knA.take 1 = oneN [2, 5, 4, 3] knV1 from rfl, oneN_key] at h2
    unfold knA at h2
    rw [name2_key] at h2
    simp only [List.length_append, List.length_cons, List.length_nil] at h2
    omega
  rw [decide_eq_false e]
  rfl
theorem kn_few : ∀ r ∈ knA, fewB r := by
  intro r hr p hp
  simp only [knA, List.mem_cons, List.not_mem_nil, or_false] at hr
  rcases hr with rfl | rfl <;> (rw [List.mem_singleton.1 hp]; exact of_decide_eq_true (by kernel_rfl))
theorem kn_fewB : ∀ r ∈ knB, fewB r := by
  intro r hr p hp
  simp only [knB, List.mem_cons, List.not_mem_nil, or_false] at hr
  rcases hr with rfl | rfl <;> (rw [List.mem_singleton.1 hp]; exact of_decide_eq_true (by kernel_rfl))
/-- The first steps of a name. -/
theorem NameAt.take {w : World} {a : Option Addr} {m cap : Nat} {n : List (List Part)} (h : NameAt w (.slice a m cap) n) (k : Nat) (hk : k ≤ n.length) (cap' : Nat) (hc : k ≤ cap') (hm : cap' ≤ maxLen) : NameAt w (.slice a k cap') (n.take k) := by
  obtain ⟨a0, cap0, he, h1, h2, h3⟩ := h
  simp only [Value.slice.injEq] at he
  obtain ⟨rfl, rfl, rfl⟩ := he
  have hl : (n.take k).length = k := by rw [List.length_take]; omega
  refine ⟨a, cap', by rw [hl], by omega, hm, fun h0 => ?_⟩
  obtain ⟨b, o, rfl, hy⟩ := h3 (by omega)
  refine ⟨b, o, rfl, fun i r hr => hy i r ?_⟩
  rw [List.getElem?_take] at hr
  split at hr
  · exact hr
  · cases hr
end Go.Q

namespace Go.Q
open Go Go.RowKit
theorem NameAt.form {w : World} {v : Value} {n : List (List Part)} (h : NameAt w v n) : ∃ a c, v = .slice a n.length c ∧ n.length ≤ c ∧ c ≤ maxLen := by
  obtain ⟨a, c, rfl, h1, h2, -⟩ := h
  exact ⟨a, c, rfl, h1, h2⟩
end Go.Q
namespace Go.Proofs.YtgffhiopbnkjbaaGreatDoor
open Go Go.RowKit Go.Q

set_option maxRecDepth 20000 in
set_option maxHeartbeats 1000000 in
theorem nameUnder_any (v u : Value) (n m : List (List Part)) (w : World) (h : NameAt w v n) (hm : NameAt w u m) (hf : ∀ r ∈ n, fewB r) (hfm : ∀ r ∈ m, fewB r) (hE : Env w) :
    Calls Tryz.prog 22 #[v, u] w fun e w' => e = .returned (.bool (underS n m)) ∧ Fr (fun _ => False) w w' := by
  obtain ⟨av, cv, rfl, hcv, hmv⟩ := h.form
  obtain ⟨au, cu, rfl, hcu, hmu⟩ := hm.form
  have HR := Lib.hid (right_any _ n w h hf)
  have H := Lib.hid h
  have HM := Lib.hid hm
  have HE := Lib.hid hE
  have hu : underS n m = (nameOk n && (decide (m.length ≤ n.length) && nameSameS (n.take m.length) m)) := rfl
  have HU := Lib.hid hu
  have HMV := Lib.hid hmv
  clear h hm hE hu hmv hmu
  go_enter Tryz.func22, Tryz.ntmps22
  go_wp2_with fail
  refine HR.out.mono ?_
  rintro e w1 ⟨rfl, F1⟩
  cases hok : nameOk n with
  | false =>
    rw [hok] at HU
    clear hok HR
    go_wp2_with fail
    go_ret
    exact ⟨by rw [HU.out]; rfl, F1⟩
  | true =>
    rw [hok] at HU
    clear hok HR
    by_cases hl : m.length ≤ n.length
    · have q1 : (m.length : Int) ≤ (n.length : Int) := by omega
      have q2 : ¬ (n.length : Int) < (m.length : Int) := by omega
      have r1 : (0 : Int) ≤ (m.length : Int) := by omega
      have r2 : (m.length : Int) ≤ (cv : Int) := by omega
      have HD := Lib.hid (decide_eq_true hl)
      have HS := Lib.hid (nameSame_any _ _ (n.take m.length) m w1 (NameAt.take (H.out.old F1) m.length hl cv (by omega) HMV.out) (HM.out.old F1) (fun r hr => hf r (List.mem_of_mem_take hr)) hfm (HE.out.old F1))
      clear hl
      go_wp2_with fail
      refine HS.out.mono ?_
      rintro e w2 ⟨rfl, F2⟩
      go_wp2_with fail
      go_ret
      exact ⟨by rw [HU.out, HD.out]; rfl, F1.trans F2⟩
    · have q1 : ¬ (m.length : Int) ≤ (n.length : Int) := by omega
      have q2 : (n.length : Int) < (m.length : Int) := by omega
      have HD := Lib.hid (decide_eq_false hl)
      clear hl
      go_wp2_with fail
      go_ret
      exact ⟨by rw [HU.out, HD.out]; rfl, F1⟩
end Go.Proofs.YtgffhiopbnkjbaaGreatDoor

namespace Go.Q
open Go Go.RowKit
/-- A row of parts of one's own, its types and values in memory of one's own too. -/
def KRow (t : TypeId) (w : World) (base : Nat) (v : Value) (l : List Part) : Prop :=
  ∃ cs : List Value, w.ownsRow base t 2 v l.length cs ∧ ∀ (i : Nat) (p : Part), l[i]? = some p → ∃ x y, cs[2 * i]? = some x ∧ cs[2 * i + 1]? = some y ∧ Kept (fun W => Ints W x p.o ∧ Bytes W y p.b) (fun k => v.ownBlock = some k ∨ k < base) w
theorem KRow.nil (t : TypeId) (w : World) (base : Nat) : KRow t w base (.slice none 0 0) [] := ⟨[], ⟨rfl, .inl ⟨rfl, rfl⟩⟩, fun i p hp => by simp at hp⟩
theorem KRow.keep {t : TypeId} {w : World} {base : Nat} {v : Value} {l : List Part} (h : KRow t w base v l) : ∀ k, v.ownBlock = some k → base ≤ k ∧ k < w.heap.size := fun k hk => by
  obtain ⟨us, h1, -⟩ := h
  exact h1.lt k hk
theorem KRow.at {t : TypeId} {w : World} {base : Nat} {v : Value} {l : List Part} (h : KRow t w base v l) : Attrs w v l := by
  obtain ⟨cs, h1, h2⟩ := h
  exact ARow.at (t := t) (w := w) (base := base) ⟨cs, h1, fun i p hp => by
    obtain ⟨x, y, e1, e2, e3⟩ := h2 i p hp
    exact ⟨x, y, e1, e2, e3.now.1, e3.now.2⟩⟩ (Fr.refl w)
theorem KRow.fr {t : TypeId} {S : Nat → Prop} {w w' : World} {base : Nat} {v : Value} {l : List Part} (h : KRow t w base v l) (f : Fr S w w') (hS : ∀ k, S k → k < base) : KRow t w' base v l := by
  have hk := h.keep
  obtain ⟨cs, h1, h2⟩ := h
  refine ⟨cs, Go.Proofs.YtgffhiopbnkjbaaGreatDoor.ownsRow_fr h1 f (fun k e hs => by have := (hk k e).1; have := hS k hs; omega), fun i p hp => ?_⟩
  obtain ⟨x, y, e1, e2, e3⟩ := h2 i p hp
  exact ⟨x, y, e1, e2, e3.step f (fun k _ hs => .inr (hS k hs)) (fun k hk => .inl hk)⟩
theorem KRow.kept {t : TypeId} {w : World} {base : Nat} {v : Value} {l : List Part} (h : KRow t w base v l) : Kept (fun W => Attrs W v l) (fun k => k < base) w := fun _ f => (h.fr f (fun _ hk => hk)).at
/-- A part more. -/
theorem KRow.add {P : Program} {t s : TypeId} (hu0 : P.underlying s = some (.slice t)) (hinf : Info P t (.agg #[.slice none 0 0, .slice none 0 0]) 2 48) {w wa : World} {base : Nat} {v x y : Value} {l : List Part} (h : KRow t w base v l) (hb : base ≤ w.heap.size) (F1 : Fr (fun _ => False) w wa) (g : Nat) (BX : Blk wa g t #[x, y]) (p : Part) (hk : Kept (fun W => Ints W x p.o ∧ Bytes W y p.b) (fun k => v.ownBlock = some k ∨ k < base) w) (hn : l.length ≤ 109951162777) :
    ∃ a c w', (Builtin.append_ #[s, s] s #[v, .slice (some ⟨g, 0, none⟩) 1 1]).run P wa = .ok (.slice a (l.length + 1) c) w' ∧ KRow t w' base (.slice a (l.length + 1) c) (l ++ [p]) ∧ Fr (fun k => v.ownBlock = some k) w w' := by
  obtain ⟨cs, h1, h2⟩ := h
  have hcl : cs.length = l.length * 2 := h1.1
  obtain ⟨ax, cx, rfl, -⟩ := Ints.form hk.now.1
  obtain ⟨ay, cy, rfl, -⟩ := Vals.form hk.now.2
  obtain ⟨a, c, w', hrun, h4, F2, h5⟩ := add_gen hu0 hinf rfl (by decide) (by decide) h1 hb F1 g [.slice ax p.o.length cx, .slice ay p.b.length cy] rfl BX (by intro u hu; simp at hu; rcases hu with rfl | rfl <;> rfl) hn
  have hst : ∀ (x y : Value) (q : Part), Kept (fun W => Ints W x q.o ∧ Bytes W y q.b) (fun k => v.ownBlock = some k ∨ k < base) w → Kept (fun W => Ints W x q.o ∧ Bytes W y q.b) (fun k => (Value.slice a (l.length + 1) c).ownBlock = some k ∨ k < base) w' := fun x y q hq =>
    hq.step F2 (fun _ _ h => .inl h) (fun k hk => by
      rcases hk with h | h
      · rcases h5 k h with h | h
        · exact .inl (.inl h)
        · exact .inr h
      · exact .inl (.inr h))
  refine ⟨a, c, w', hrun, ⟨cs ++ [.slice ax p.o.length cx, .slice ay p.b.length cy], by rw [List.length_append]; exact h4, fun i q hq => ?_⟩, F2⟩
  rcases Nat.lt_or_ge i l.length with hi | hi
  · rw [List.getElem?_append_left hi] at hq
    obtain ⟨x, y, e1, e2, e3⟩ := h2 i q hq
    exact ⟨x, y, by rw [List.getElem?_append_left (by omega)]; exact e1, by rw [List.getElem?_append_left (by omega)]; exact e2, hst _ _ _ e3⟩
  · obtain rfl : i = l.length := by
      have := (List.getElem?_eq_some_iff.1 hq).1
      simp at this
      omega
    rw [List.getElem?_append_right (Nat.le_refl _)] at hq
    simp at hq
    subst hq
    refine ⟨_, _, ?_, ?_, hst _ _ _ hk⟩
    · rw [List.getElem?_append_right (by omega), show 2 * l.length - cs.length = 0 from by omega]; rfl
    · rw [List.getElem?_append_right (by omega), show 2 * l.length + 1 - cs.length = 1 from by omega]; rfl
theorem listOf {α : Type} {p : Nat → α → Prop} : ∀ n, (∀ i, i < n → ∃ a, p i a) → ∃ l : List α, l.length = n ∧ ∀ i a, l[i]? = some a → p i a
  | 0, _ => ⟨[], rfl, fun i a h => by simp at h⟩
  | n + 1, h => by
    obtain ⟨l, hl, hp⟩ := listOf n (fun i hi => h i (by omega))
    obtain ⟨a, ha⟩ := h n (by omega)
    refine ⟨l ++ [a], by simp [hl], fun i b hb => ?_⟩
    rcases Nat.lt_or_ge i l.length with hi | hi
    · rw [List.getElem?_append_left hi] at hb
      exact hp i b hb
    · rw [List.getElem?_append_right hi] at hb
      have h0 : i - l.length = 0 := by
        have := (List.getElem?_eq_some_iff.1 hb).1
        simp at this
        omega
      rw [h0] at hb
      simp only [List.getElem?_cons_zero, Option.some.injEq] at hb
      subst hb
      obtain rfl : i = n := by omega
      exact ha
theorem NameAt.vals {w : World} {v : Value} {n : List (List Part)} (h : NameAt w v n) : ∃ us, Vals w v us ∧ us.length = n.length ∧ (∀ u ∈ us, u.oneCell' = true) ∧ ∀ (i : Nat) (u : Value) (r : List Part), us[i]? = some u → n[i]? = some r → Attrs w u r := by
  obtain ⟨a, cap, rfl, h1, h2, h3⟩ := h
  rcases Nat.eq_zero_or_pos n.length with h0 | h0
  · exact ⟨[], ⟨a, cap, by rw [h0]; rfl, by simp, h2, fun h => by simp at h⟩, by rw [h0]; rfl, by simp, fun i u r h => by simp at h⟩
  · obtain ⟨b, o, rfl, hy⟩ := h3 h0
    obtain ⟨us, hl, hp⟩ := listOf (p := fun i u => w.cell? ⟨b, o + i, none⟩ = some u ∧ ∀ r, n[i]? = some r → Attrs w u r) n.length (fun i hi => by
      obtain ⟨x, e1, e2⟩ := hy i _ (List.getElem?_eq_getElem hi)
      exact ⟨x, e1, fun r hr => by rw [List.getElem?_eq_getElem hi] at hr; cases hr; exact e2⟩)
    refine ⟨us, ⟨_, cap, by rw [hl], by omega, h2, fun _ => ⟨b, o, rfl, fun i u hu => (hp i u hu).1⟩⟩, hl, fun u hu => ?_, fun i u r hu hr => (hp i u hu).2 r hr⟩
    obtain ⟨i, hi⟩ := List.mem_iff_getElem?.1 hu
    have hil : i < n.length := by have := (List.getElem?_eq_some_iff.1 hi).1; omega
    obtain ⟨ax, cx, rfl⟩ := ((hp i u hi).2 _ (List.getElem?_eq_getElem hil)).form
    rfl
/-- Names in a row. -/
def NamesAt (wb w : World) (v : Value) (L : List (List (List Part))) : Prop :=
  ∃ a cap, v = .slice a L.length cap ∧ (0 < L.length → ∃ b o, a = some ⟨b, o, none⟩ ∧ ∀ i n, L[i]? = some n → ∃ x, w.cell? ⟨b, o + i, none⟩ = some x ∧ NameAt wb x n)
/-- A row of steps of one's own, read in w. -/
def CRow (t : TypeId) (w wr : World) (base : Nat) (v : Value) (n : List (List Part)) : Prop :=
  ∃ us : List Value, wr.ownsRow base t 1 v n.length us ∧ us.length = n.length ∧ ∀ (i : Nat) (u : Value) (r : List Part), us[i]? = some u → n[i]? = some r → Attrs w u r
theorem CRow.at {t : TypeId} {w wr : World} {base : Nat} {v : Value} {n : List (List Part)} (h : CRow t w wr base v n) (F : Fr (fun _ => False) w wr) : NameAt wr v n := by
  obtain ⟨us, h1, h2, h3⟩ := h
  obtain ⟨a, cap, he, hc, hm, hx⟩ := (Vals.of_own h1).1
  rw [h2] at he hc hx
  refine ⟨a, cap, he, hc, hm, fun h0 => ?_⟩
  obtain ⟨b, o, rfl, hy⟩ := hx h0
  refine ⟨b, o, rfl, fun i r hr => ?_⟩
  have hi : i < us.length := by rw [h2]; exact (List.getElem?_eq_some_iff.1 hr).1
  exact ⟨us[i], hy i _ (List.getElem?_eq_getElem hi), (h3 i _ r (List.getElem?_eq_getElem hi) hr).old F⟩
theorem CRow.keep {t : TypeId} {w wr : World} {base : Nat} {v : Value} {n : List (List Part)} (h : CRow t w wr base v n) : ∀ k, v.ownBlock = some k → base ≤ k ∧ k < wr.heap.size := fun k hk => by
  obtain ⟨us, h1, -⟩ := h
  exact h1.lt k hk
theorem CRow.fr {t : TypeId} {S : Nat → Prop} {w wr w' : World} {base : Nat} {v : Value} {n : List (List Part)} (h : CRow t w wr base v n) (f : Fr S wr w') (hS : ∀ k, v.ownBlock = some k → ¬ S k) : CRow t w w' base v n := by
  obtain ⟨us, h1, h2⟩ := h
  exact ⟨us, Go.Proofs.YtgffhiopbnkjbaaGreatDoor.ownsRow_fr h1 f hS, h2⟩
theorem CRow.shape {t : TypeId} {w wr : World} {base : Nat} {v : Value} {n : List (List Part)} (h : CRow t w wr base v n) : ∃ a c, v = .slice a n.length c := by
  obtain ⟨us, h1, -⟩ := h
  obtain ⟨a, m, c, rfl, rfl⟩ := own_shape h1
  exact ⟨a, c, rfl⟩
/-- A step more; where the row lies then. -/
theorem NRow.add2 {P : Program} {t s : TypeId} (hu0 : P.underlying s = some (.slice t)) (hinf : Info P t (.slice none 0 0) 1 24) {w wa : World} {base : Nat} {v : Value} {n : List (List Part)} (h : NRow t w base v n) (hb : base ≤ w.heap.size) (F1 : Fr (fun _ => False) w wa) (g : Nat) (u : Value) (r : List Part) (BX : Blk wa g t #[u]) (hu1 : u.oneCell' = true) (hu : Kept (fun W => Attrs W u r) (fun k => v.ownBlock = some k) w) (hn : n.length ≤ 109951162777) :
    ∃ a c w', (Builtin.append_ #[s, s] s #[v, .slice (some ⟨g, 0, none⟩) 1 1]).run P wa = .ok (.slice a (n.length + 1) c) w' ∧ NRow t w' base (.slice a (n.length + 1) c) (n ++ [r]) ∧ Fr (fun k => v.ownBlock = some k) w w' ∧ (∀ k, (Value.slice a (n.length + 1) c).ownBlock = some k → v.ownBlock = some k ∨ w.heap.size ≤ k) := by
  obtain ⟨us, h1, h2, h3⟩ := h
  obtain ⟨a, c, w', hrun, h4, F2, h5⟩ := add_gen hu0 hinf rfl (by decide) (by decide) h1 hb F1 g [u] rfl BX (by simpa using hu1) hn
  refine ⟨a, c, w', hrun, ⟨us ++ [u], ?_, by simp [h2], fun i x s hx hs => ?_⟩, F2, h5⟩
  · rw [List.length_append]
    exact h4
  · rcases Nat.lt_or_ge i us.length with hi | hi
    · rw [List.getElem?_append_left hi] at hx
      rw [List.getElem?_append_left (by omega)] at hs
      exact (h3 i x s hx hs).step F2 (fun _ _ h => h) h5
    · obtain rfl : i = us.length := by
        have := (List.getElem?_eq_some_iff.1 hx).1
        simp at this
        omega
      rw [List.getElem?_append_right (Nat.le_refl _)] at hx
      rw [List.getElem?_append_right (by omega)] at hs
      simp at hx
      simp [h2] at hs
      subst hx; subst hs
      exact hu.step F2 (fun _ _ h => h) h5
theorem CRow.add {P : Program} {t s : TypeId} (hu0 : P.underlying s = some (.slice t)) (hinf : Info P t (.slice none 0 0) 1 24) {w wr : World} {base : Nat} {v u : Value} {n r : List (List Part)} (h : CRow t w wr base v n) (hb : base ≤ wr.heap.size) (F : Fr (fun _ => False) w wr) (hr : NameAt w u r) (hn : n.length + r.length ≤ 1099511627776) :
    ∃ a c w', (Builtin.append_ #[s, s] s #[v, u]).run P wr = .ok (.slice a (n.length + r.length) c) w' ∧ CRow t w w' base (.slice a (n.length + r.length) c) (n ++ r) ∧ Fr (fun k => v.ownBlock = some k) wr w' := by
  obtain ⟨us, h1, h2, h3⟩ := h
  obtain ⟨ns, g1, g2, g3, g4⟩ := hr.vals
  obtain ⟨a, c, w', hrun, h4, F2, -⟩ := append_vals hu0 hinf rfl (by decide) h1 hb (g1.old F) g3 (by rw [g2]; exact hn)
  rw [g2] at hrun h4
  refine ⟨a, c, w', hrun, ⟨us ++ ns, by rw [List.length_append]; exact h4, by rw [List.length_append, List.length_append, h2, g2], fun i x q hx hq => ?_⟩, F2⟩
  rcases Nat.lt_or_ge i us.length with hi | hi
  · rw [List.getElem?_append_left hi] at hx
    rw [List.getElem?_append_left (by omega)] at hq
    exact h3 i x q hx hq
  · rw [List.getElem?_append_right hi] at hx
    rw [List.getElem?_append_right (by omega)] at hq
    rw [h2] at hx
    exact g4 _ x q hx hq
end Go.Q
namespace Go.Proofs.YtgffhiopbnkjbaaGreatDoor
open Go Go.RowKit Go.Q
set_option linter.unusedSimpArgs false

set_option maxRecDepth 20000 in
set_option maxHeartbeats 1000000 in
theorem growRdn_any (n : Nat) (w : World) (hn : n ≤ 1000000000) :
    Calls Tryz.prog 85 #[.slice none 0 0, .int .i64 n] w fun e w' => (∃ a c, e = .returned (.slice a 0 c) ∧ w'.ownsRow w.heap.size 41 1 (.slice a 0 c) 0 []) ∧ Fr (fun _ => False) w w' := by
  obtain ⟨i0, hi0, hz0, hz1, hz2⟩ := info_parts info41
  have w0 : wrap64 ((n : Int) - 0) = (n : Int) := by unfold wrap64; omega
  rcases Nat.eq_zero_or_pos n with rfl | h0
  · go_enter Tryz.func85, Tryz.ntmps85
    go_wp2_with fail
    go_ret
    exact ⟨⟨none, 0, rfl, rfl, .inl ⟨rfl, rfl⟩⟩, Fr.refl _⟩
  · have hrz := fun ty => Lib.run_append_grow_zeros (P := Tryz.prog) w 33 3 ty 41 i0 _ .i64 .i64 Tryz.underlying33 Tryz.underlying3 hi0 hz0 none 0 0 [] (by rw [hz1]; rfl) n h0 (by rw [hz1]; decide) (by omega) (by omega) (by rw [hz2]; omega) (growslice_fits (by omega) (by rw [hz2]; omega))
    have hG := grownCap_ge w (0 + n) 0 41
    have hG2 := grownCap_le_maxLen w (0 + n) 0 41 (by unfold maxLen; omega)
    have hcsz : (([] : List Value).toArray ++ Builtin.zeroCells (Value.slice none 0 0).cells n ++ Builtin.zeroCells (Value.slice none 0 0).cells (grownCap w (0 + n) 0 41 - (0 + n))).size = grownCap w (0 + n) 0 41 * 1 := by
      simp only [Array.size_append, size_zeroCells, List.size_toArray, List.length_nil]
      have : (Value.slice none 0 0).cells.size = 1 := rfl
      rw [this]
      omega
    generalize ([] : List Value).toArray ++ Builtin.zeroCells (Value.slice none 0 0).cells n ++ Builtin.zeroCells (Value.slice none 0 0).cells (grownCap w (0 + n) 0 41 - (0 + n)) = cs at *
    generalize grownCap w (0 + n) 0 41 = G at *
    rw [Nat.zero_add] at hrz hG
    have BX := (Blk.new w.drew 41 cs)
    have F : Fr (fun _ => False) w (w.drew.alloc (.cells cs 41)) := (Fr.refl w).drew.alloc _
    have hown : (w.drew.alloc (.cells cs 41)).ownsRow w.heap.size 41 1 (.slice (some ⟨w.heap.size, 0, none⟩) 0 G) 0 [] := ⟨rfl, .inr ⟨w.heap.size, G, cs, rfl, Nat.le_refl _, BX, Nat.zero_le _, hG2, hcsz, rfl⟩⟩
    have HO := Lib.hid hown
    have HF := Lib.hid F
    have HRZ := Lib.hid hrz
    have hG63 : (G : Int) ≤ 9223372036854775807 := by unfold maxLen at hG2; omega
    have h1 : (0 : Int) < (n : Int) := by omega
    have hgn : (n : Int) ≤ (G : Int) := by omega
    clear hown F BX hrz hi0 hz0 hz1 hz2 hcsz hG2
    go_enter Tryz.func85, Tryz.ntmps85
    go_wp2_with (at_builtin; refine Lib.wpList_append_run _ rfl _ _ _ _ rfl _ _ rfl rfl _ _ (HRZ.out _) ?_)
    all_goals
      go_ret
      exact ⟨⟨_, _, rfl, HO.out⟩, HF.out⟩


set_option maxRecDepth 20000 in
set_option maxHeartbeats 2000000 in
theorem concatName_any (v : Value) (L : List (List (List Part))) (wb w : World) (h : NamesAt wb w v L) (Fb : Fr (fun _ => False) wb w) (hn : L.length ≤ 1000) (hr : ∀ n ∈ L, n.length ≤ 1000) :
    Calls Tryz.prog 54 #[v] w fun e w' => (∃ a c, e = .returned (.slice a L.flatten.length c) ∧ CRow 41 wb w' w.heap.size (.slice a L.flatten.length c) L.flatten) ∧ Fr (fun _ => False) w w' := by
  have H := Lib.hid h
  have HR := Lib.hid hr
  have HFB := Lib.hid Fb
  obtain ⟨a, cap, rfl, -⟩ := h
  have hfl : ∀ j, ((L.take j).flatten).length ≤ 1000 * 1000 := fun j => by
    have : ∀ m : List (List (List Part)), (∀ r ∈ m, r.length ≤ 1000) → m.flatten.length ≤ m.length * 1000 := by
      intro m
      induction m with
      | nil => intro _; simp
      | cons x t ih =>
        intro hm
        have h1 := hm x (by simp)
        have h2 := ih (fun r hr => hm r (by simp [hr]))
        simp only [List.flatten_cons, List.length_append, List.length_cons, Nat.add_mul]
        omega
    have h1 := this (L.take j) (fun r hm => HR.out r (List.mem_of_mem_take hm))
    have h2 : (L.take j).length * 1000 ≤ 1000 * 1000 := Nat.mul_le_mul_right _ (by rw [List.length_take]; omega)
    omega
  have hft : ∀ j n, L[j]? = some n → (L.take (j + 1)).flatten = (L.take j).flatten ++ n := fun j n h => by
    rw [List.take_add_one, h]
    simp
  have HFL := Lib.hid hfl
  have HFT0 := Lib.hid hft
  clear hr hfl hft Fb
  go_enter Tryz.func54, Tryz.ntmps54
  go_wp2_with fail
  go_loopg [3, 11] L.length (fun g s i wr => ∃ (j m : Nat), g = L.length - j ∧ j ≤ L.length ∧ s = .int .i64 m ∧ i = .int .i64 j ∧ m = ((L.take j).flatten).length ∧ wr = w)
  case atStart => exact ⟨0, 0, rfl, Nat.zero_le _, rfl, rfl, rfl, rfl⟩
  case round =>
    obtain ⟨j, m, hg, hj, rfl, rfl, hm, rfl⟩ := hrel
    have HG := Lib.hid hg
    have hml : m ≤ 1000 * 1000 := by rw [hm]; exact HFL.out j
    have HM := Lib.hid hm
    clear hg hm
    by_cases hjl : j < L.length
    · obtain ⟨a0, cap0, he, hx⟩ := H.out
      simp only [Value.slice.injEq, true_and] at he
      obtain ⟨rfl, rfl⟩ := he
      obtain ⟨b, off, rfl, hy⟩ := hx (by omega)
      obtain ⟨r, hr⟩ : ∃ r, L[j]? = some r := ⟨_, List.getElem?_eq_getElem hjl⟩
      obtain ⟨x, e1, hA⟩ := hy j r hr
      obtain ⟨ax, cx, rfl, -⟩ := hA
      have HFT := Lib.hid (HFT0.out j r hr)
      have b2 := HR.out r (List.mem_of_getElem? hr)
      have r1 : (0 : Int) ≤ (j : Int) := by omega
      have r2 : (j : Int) < (L.length : Int) := by omega
      clear hx hy hr
      have hnn : ¬ ((m : Int) + (r.length : Int)) < 0 := by omega
      go_wp2_with fail
      go_roundg (L.length - (j + 1))
      case measure => rw [HG.out]; omega
      case rel => exact ⟨j + 1, m + r.length, rfl, by omega, by go_num, by go_num, by rw [HFT.out, HM.out, List.length_append], rfl⟩
    · obtain rfl : j = L.length := by omega
      obtain ⟨wo, rfl⟩ : ∃ wo : World, wo = wr := ⟨_, rfl⟩
      have HGR := Lib.hid (growRdn_any m wo (by omega))
      clear hjl
      go_wp2_with fail
      refine HGR.out.mono ?_
      rintro e w1 ⟨⟨a1, c1, rfl, hown1⟩, F1⟩
      have HO1 := Lib.hid hown1
      have HF1 := Lib.hid F1
      clear HGR hown1 F1
      go_wp2_with fail
      go_loopg [6, 27] L.length (fun g s i w2 => ∃ (j : Nat) (l : List (List Part)) (a2 : Option Addr) (c2 : Nat), g = L.length - j ∧ j ≤ L.length ∧ s = .slice a2 l.length c2 ∧ i = .int .i64 j ∧ l = (L.take j).flatten ∧ CRow 41 wb w2 wo.heap.size (.slice a2 l.length c2) l ∧ Fr (fun _ => False) wo w2)
      case atStart => exact ⟨0, [], a1, c1, rfl, Nat.zero_le _, rfl, rfl, rfl, ⟨[], HO1.out, rfl, fun i u r h => by simp at h⟩, HF1.out⟩
      case round =>
        obtain ⟨j, l, a2, c2, hg, hj, rfl, rfl, hl, hrow, F2⟩ := hrel
        have HG := Lib.hid hg
        have HRW := Lib.hid hrow
        have HF2 := Lib.hid F2
        have hll : l.length ≤ 1000 * 1000 := by rw [hl]; exact HFL.out j
        have HL := Lib.hid hl
        clear hg hrow hl
        by_cases hjl : j < L.length
        · obtain ⟨a0, cap0, he, hx⟩ := H.out
          simp only [Value.slice.injEq, true_and] at he
          obtain ⟨rfl, rfl⟩ := he
          obtain ⟨b, off, rfl, hy⟩ := hx (by omega)
          obtain ⟨r, hr⟩ : ∃ r, L[j]? = some r := ⟨_, List.getElem?_eq_getElem hjl⟩
          obtain ⟨x, e0, hA⟩ := hy j r hr
          have e1 := F2.cell e0 (fun h => h)
          have hrr := HR.out r (List.mem_of_getElem? hr)
          have HFT := Lib.hid (HFT0.out j r hr)
          have hs2 := F2.size
          obtain ⟨a4, c4, w4, hrun, hrow4, F4⟩ := CRow.add Tryz.underlying33 info41 HRW.out hs2 (HFB.out.trans F2) hA (by omega)
          obtain ⟨ax, cx, rfl, -⟩ := hA
          have hbk := HRW.out.keep
          have HF4 := Lib.hid (F2.trans' F4 (fun i hi e => by have := (hbk i e).1; omega))
          have HRUN := Lib.hid hrun
          have HRW4 := Lib.hid hrow4
          have r1 : (0 : Int) ≤ (j : Int) := by omega
          have r2 : (j : Int) < (L.length : Int) := by omega
          clear hx hy hr hbk F4 hrun hrow4 F2 HRW HF2 e0
          go_wp2_with (at_builtin; refine wpList_append_run (by rfl) (.tmp 31) (.tmp 32) 33 (by rfl) _ w4 (by exact HRUN.out) ?_)
          go_roundg (L.length - (j + 1))
          case measure => rw [HG.out]; omega
          case rel => exact ⟨j + 1, l ++ r, a4, c4, rfl, by omega, by rw [List.length_append], by go_num, by rw [HFT.out, HL.out], by rw [List.length_append]; exact HRW4.out, HF4.out⟩
        · obtain rfl : j = L.length := by omega
          have hl2 := HL.out
          rw [List.take_length] at hl2
          have hrw := HRW.out
          rw [hl2] at hrw
          have HAT := Lib.hid hrw
          have hln : l.length = L.flatten.length := by rw [hl2]
          have HLN := Lib.hid hln
          have HL2 := Lib.hid hl2
          clear hl2 HRW hrw hln
          go_wp2_with fail
          go_ret
          exact ⟨⟨a2, c2, by rw [← HLN.out]; rfl, HAT.out⟩, HF2.out⟩

set_option maxRecDepth 20000 in
set_option maxHeartbeats 4000000 in
theorem copied_any (v : Value) (l : List Part) (w : World) (h : Attrs w v l) (hl : l.length ≤ 1000000) (ho : ∀ p ∈ l, p.o.length ≤ 100000000000 ∧ p.b.length ≤ 100000000000) :
    Calls Tryz.prog 55 #[v] w fun e w' => (∃ a c, e = .returned (.slice a l.length c) ∧ KRow 39 w' w.heap.size (.slice a l.length c) l) ∧ Fr (fun _ => False) w w' := by
  have H := Lib.hid h
  have HO := Lib.hid ho
  obtain ⟨a, cap, rfl, -⟩ := h
  clear ho
  go_enter Tryz.func55, Tryz.ntmps55
  go_wp2_with fail
  go_loopg [3, 8] l.length (fun g u i wr => ∃ (j : Nat) (au : Option Addr) (cu : Nat), g = l.length - j ∧ j ≤ l.length ∧ u = .slice au j cu ∧ i = .int .i64 j ∧ KRow 39 wr w.heap.size (.slice au j cu) (l.take j) ∧ Fr (fun _ => False) w wr)
  case atStart => exact ⟨0, none, 0, rfl, Nat.zero_le _, rfl, rfl, KRow.nil _ _ _, Fr.refl _⟩
  case round =>
    obtain ⟨j, au, cu, hg, hj, rfl, rfl, hrow, F⟩ := hrel
    have HG := Lib.hid hg
    have HRW := Lib.hid hrow
    have HF := Lib.hid F
    have hml : (l.take j).length = j := by rw [List.length_take]; omega
    have HML := Lib.hid hml
    clear hg hrow hml
    by_cases hjl : j < l.length
    · obtain ⟨a0, cap0, he, _, _, hx⟩ := H.out.old F
      simp only [Value.slice.injEq, true_and] at he
      obtain ⟨rfl, rfl⟩ := he
      obtain ⟨b, off, rfl, hy⟩ := hx (by omega)
      obtain ⟨p, hp⟩ : ∃ p, l[j]? = some p := ⟨_, List.getElem?_eq_getElem hjl⟩
      obtain ⟨x, y, e1, e2, hpx, hpy⟩ := hy j p hp
      have HPL := Lib.hid (HO.out p (List.mem_of_getElem? hp))
      obtain ⟨ax, cx, rfl, -⟩ := Ints.form hpx
      obtain ⟨ay, cy, rfl, -⟩ := Vals.form hpy
      have e1' : wr.cell? ⟨b, off + j * 2, none⟩ = some (.slice ax p.o.length cx) := by rw [Nat.mul_comm]; exact e1
      have e2' : wr.cell? ⟨b, off + j * 2 + 1, none⟩ = some (.slice ay p.b.length cy) := by rw [Nat.mul_comm]; exact e2
      have HPX := Lib.hid hpx
      have HPY := Lib.hid hpy
      have HMT := Lib.hid (show l.take (j + 1) = l.take j ++ [p] from by rw [List.take_add_one, hp]; rfl)
      have r1 : (0 : Int) ≤ (j : Int) := by omega
      have r2 : (j : Int) < (l.length : Int) := by omega
      clear hx hy hp e1 e2 hpx hpy F
      go_upto_region 5 with fail
      obtain ⟨z, hz⟩ : ∃ z, z = wr.heap.size := ⟨_, rfl⟩
      have BA := Blk.new wr 39 #[.slice ax p.o.length cx, .slice ay p.b.length cy]
      have F1 : Fr (fun _ => False) wr (wr.alloc (.cells #[.slice ax p.o.length cx, .slice ay p.b.length cy] 39)) := (Fr.refl wr).alloc _
      rw [← hz] at BA ⊢
      have HZ := Lib.hid hz
      have HKL := Lib.hid (show ∀ k, ((Value.slice au j cu).ownBlock = some k ∨ k < w.heap.size) → k < wr.heap.size from fun k hk => by
        rcases hk with h | h
        · exact (HRW.out.keep k h).2
        · have := HF.out.size; omega)
      clear hz e1' e2'
      generalize (wr.alloc (.cells #[.slice ax p.o.length cx, .slice ay p.b.length cy] 39)) = w1 at *
      have B := BA.drew
      have G : Fr (fun _ => False) wr w1.drew := F1.drew
      clear BA F1
      go_region_held3 (fun w' => ∀ j, w'.cell? ⟨z, j, none⟩ = (#[.slice ax p.o.length cx, .slice ay p.b.length cy] : Array Value)[j]?) (first | exact B.cell | exact (B.alloc _).cell) (first
        | (go_at_call 86; refine (cloneInt_any _ p.o _ (HPX.out.old G) HPL.out.1).mono ?_; rintro e w' ⟨⟨u, rfl, hu⟩, F⟩; obtain ⟨ai, mi, ci, rfl, rfl⟩ := own_shape hu; have hkI := own_kept hu (fun k => (Value.slice au j cu).ownBlock = some k ∨ k < w.heap.size) (fun k hk => Nat.lt_of_lt_of_le (HKL.out k hk) G.size); (try replace hkB := hkB.old F); replace B := B.fr F (fun h => h); replace G := G.trans F; clear hu F)
        | (go_at_call 87; refine (cloneByte_any _ p.b _ (HPY.out.old G) HPL.out.2).mono ?_; rintro e w' ⟨⟨u, rfl, hu⟩, F⟩; obtain ⟨ab, mb, cb, rfl, rfl⟩ := own_shape hu; have hkB := own_kept hu (fun k => (Value.slice au j cu).ownBlock = some k ∨ k < w.heap.size) (fun k hk => Nat.lt_of_lt_of_le (HKL.out k hk) G.size); (try replace hkI := hkI.old F); replace B := B.fr F (fun h => h); replace G := G.trans F; clear hu F)
        | (obtain ⟨a7, c7, w7, hrun, hrow7, F7⟩ := KRow.add Tryz.underlying41 info39 (HRW.out.fr G (fun _ h => h.elim)) (HF.out.trans G).size ((Fr.refl w').alloc (.cells #[.slice ai p.o.length ci, .slice ab p.b.length cb] 39)) w'.heap.size (Blk.new w' 39 #[.slice ai p.o.length ci, .slice ab p.b.length cb]) p (fun W f => ⟨hkI W f, hkB W f⟩) (by rw [HML.out]; omega); rw [HML.out] at hrun hrow7; refine step_append_run (by rfl) (.tmp 12) (.tmp 20) 41 (by rfl) _ w7 (by exact hrun) ?_; have hG7 := (HF.out.trans G).trans' F7 (fun i hi e => absurd hi (by have := (HRW.out.keep i e).1; omega)); replace B := B.fr F7 (fun e => by have := (HRW.out.keep z e).2; have := HZ.out; omega); clear hrun F7))
      all_goals
        have HG7 := Lib.hid hG7
        have HROW7 := Lib.hid hrow7
        clear hG7 hrow7 G B hkI hkB
        go_wp2_with fail
        go_roundg (l.length - (j + 1))
        case measure => rw [HG.out]; omega
        case rel => exact ⟨j + 1, a7, c7, rfl, by omega, rfl, by go_num, by rw [HMT.out]; exact HROW7.out, HG7.out⟩
    · obtain rfl : j = l.length := by omega
      have hrow := HRW.out
      rw [List.take_length] at hrow
      have HROW := Lib.hid hrow
      clear hrow
      go_wp2_with fail
      go_ret
      exact ⟨⟨au, cu, rfl, HROW.out⟩, F⟩

/-- What Add gives. -/
def AddOut (w' : World) (n : List (List Part)) (e : Ending) : Prop :=
  if nameOk n = true then ∃ a c, e = .returned (.tuple #[.slice a n.length c, .int .i64 0]) ∧ NameAt w' (.slice a n.length c) n else e = .returned (.tuple #[.slice none 0 0, .int .i64 1])

set_option maxRecDepth 20000 in
set_option maxHeartbeats 4000000 in
theorem nameAdd_any (v u : Value) (n m : List (List Part)) (w : World) (h : NameAt w v n) (hm : NameAt w u m) (hnl : n.length ≤ 1000) (hml : m.length ≤ 1000) (hs : ∀ r ∈ n ++ m, fewB r ∧ r.length ≤ 1000000 ∧ ∀ p ∈ r, p.o.length ≤ 100000000000) :
    Calls Tryz.prog 23 #[v, u] w fun e w' => AddOut w' (n ++ m) e ∧ Fr (fun _ => False) w w' := by
  obtain ⟨av, cv, rfl, -⟩ := h.form
  obtain ⟨au, cu, rfl, -⟩ := hm.form
  have H := Lib.hid h
  have HM := Lib.hid hm
  have HS := Lib.hid hs
  obtain ⟨L, hL⟩ : ∃ L, L = n ++ m := ⟨_, rfl⟩
  have hLl : L.length ≤ 2000 := by rw [hL, List.length_append]; omega
  rw [← hL] at HS ⊢
  have HLL := Lib.hid hL
  clear h hm hs hL
  go_enter Tryz.func23, Tryz.ntmps23
  go_upto_region 2 with fail
  have B0 := Blk.new w 41 #[]
  have F0 : Fr (fun _ => False) w (w.alloc (.cells #[] 41)) := (Fr.refl w).alloc _
  have N0 : NRow 41 (w.alloc (.cells #[] 41)) w.heap.size (.slice (some ⟨w.heap.size, 0, none⟩) 0 0) [] := ⟨[], own_block B0 0 (Nat.le_refl _) (Nat.zero_le _) w.heap.size (Nat.le_refl _), rfl, fun i u r h => by simp at h⟩
  have F1 : Fr (fun _ => False) (w.alloc (.cells #[] 41)) ((w.alloc (.cells #[] 41)).alloc (.cells #[.slice av n.length cv, .slice au m.length cu] 33)) := (Fr.refl _).alloc _
  have B1 := Blk.new (w.alloc (.cells #[] 41)) 33 #[.slice av n.length cv, .slice au m.length cu]
  have hNA : NamesAt w ((w.alloc (.cells #[] 41)).alloc (.cells #[.slice av n.length cv, .slice au m.length cu] 33)) (.slice (some ⟨w.heap.size + 1, 0, none⟩) 2 2) [n, m] := by
    refine ⟨_, 2, rfl, fun _ => ⟨w.heap.size + 1, 0, rfl, fun i q hq => ?_⟩⟩
    rw [World.size_alloc] at B1
    match i, hq with
    | 0, hq =>
      simp only [List.getElem?_cons_zero, Option.some.injEq] at hq
      subst hq
      exact ⟨_, B1.cell 0, H.out⟩
    | 1, hq =>
      simp only [List.getElem?_cons_succ, List.getElem?_cons_zero, Option.some.injEq] at hq
      subst hq
      exact ⟨_, B1.cell 1, HM.out⟩
    | i + 2, hq => simp at hq
  have HC := Lib.hid (concatName_any _ [n, m] w _ hNA (F0.trans F1) (by simp) (by simp; omega))
  rw [show ([n, m] : List (List (List Part))).flatten = L from by rw [HLL.out]; simp] at HC
  have HN0 := Lib.hid (N0.old F1)
  have HF1 := Lib.hid (F0.trans F1)
  clear N0 B0 B1 F0 F1 hNA
  go_wp2_with fail
  refine HC.out.mono ?_
  rintro e w2 ⟨⟨ac, cc, rfl, hat⟩, F2⟩
  have hs1 : w.heap.size + 2 ≤ w2.heap.size := by have := F2.size; simp only [World.size_alloc] at this; omega
  have HN2 := Lib.hid (HN0.out.old F2)
  have HF2 := Lib.hid (HF1.out.trans F2)
  have hbk := hat.keep
  simp only [World.size_alloc] at hbk
  have HBK := Lib.hid hbk
  have HAT := Lib.hid hat
  clear HC F2 hat HN0 HF1 hbk
  go_wp2_with fail
  go_loopg [6, 15] L.length (fun g s i wr => ∃ (j : Nat) (a3 : Option Addr) (c3 : Nat) (base : Nat), g = L.length - j ∧ j ≤ L.length ∧ s = .slice a3 j c3 ∧ i = .int .i64 j ∧ NRow 41 wr w.heap.size (.slice a3 j c3) (L.take j) ∧ Fr (fun _ => False) w wr ∧ w2.heap.size ≤ wr.heap.size ∧ CRow 41 w wr base (.slice ac L.length cc) L ∧ (∀ k, (Value.slice a3 j c3).ownBlock = some k → k = w.heap.size ∨ w2.heap.size ≤ k))
  case atStart => exact ⟨0, _, 0, _, rfl, Nat.zero_le _, rfl, rfl, HN2.out, HF2.out, Nat.le_refl _, HAT.out, fun k hk => .inl (by simpa [Value.ownBlock] using hk.symm)⟩
  case round =>
    obtain ⟨j, a3, c3, base, hg, hj, rfl, rfl, hrow, F, hsz, hcr, hown⟩ := hrel
    have HG := Lib.hid hg
    have HRW := Lib.hid hrow
    have HF := Lib.hid F
    have HCR := Lib.hid hcr
    have HOWN := Lib.hid hown
    have hml : (L.take j).length = j := by rw [List.length_take]; omega
    have HML := Lib.hid hml
    clear hg hrow hml hcr hown
    by_cases hjl : j < L.length
    · obtain ⟨us, g1, g2, g3⟩ := HCR.out
      obtain ⟨a0, cap0, he, _, _, hx⟩ := (Vals.of_own g1).1
      rw [g2] at he hx
      simp only [Value.slice.injEq, true_and] at he
      obtain ⟨rfl, rfl⟩ := he
      obtain ⟨b, off, rfl, hy⟩ := hx (by omega)
      obtain ⟨r, hr⟩ : ∃ r, L[j]? = some r := ⟨_, List.getElem?_eq_getElem hjl⟩
      obtain ⟨x, hxu⟩ : ∃ x, us[j]? = some x := ⟨_, List.getElem?_eq_getElem (by omega)⟩
      have e1 := hy j x hxu
      have hA := (g3 j x r hxu hr).old F
      obtain ⟨ar, cr, rfl⟩ := hA.form
      have hmem := List.mem_of_getElem? hr
      obtain ⟨h1, h2, h3⟩ := HS.out r hmem
      have HCP := Lib.hid (copied_any _ r wr hA h2 (fun p hp => ⟨h3 p hp, by have := h1 p hp; omega⟩))
      have HMT := Lib.hid (show L.take (j + 1) = L.take j ++ [r] from by rw [List.take_add_one, hr]; rfl)
      have r1 : (0 : Int) ≤ (j : Int) := by omega
      have r2 : (j : Int) < (L.length : Int) := by omega
      clear g1 g2 g3 hx hy hr hxu hA hmem h1 h3 F
      obtain ⟨wo, hwo⟩ : ∃ wo : World, wo = wr := ⟨_, rfl⟩
      obtain rfl := hwo
      go_wp2_with fail
      refine HCP.out.mono ?_
      rintro e w3 ⟨⟨a2, c2, rfl, hrow2⟩, F3⟩
      have hkp := HRW.out.keep
      have hk2 : Kept (fun W => Attrs W (.slice a2 r.length c2) r) (fun k => (Value.slice a3 j c3).ownBlock = some k) w3 := hrow2.kept.weaken (fun k e => (hkp k e).2)
      obtain ⟨a7, c7, w7, hrun, hrow7, F7, hown7⟩ := NRow.add2 Tryz.underlying33 info41 (HRW.out.old F3) (HF.out.trans F3).size ((Fr.refl w3).alloc (.cells #[.slice a2 r.length c2] 41)) w3.heap.size _ r (Blk.new w3 41 #[.slice a2 r.length c2]) rfl hk2 (by rw [HML.out]; omega)
      have HG7 := Lib.hid ((HF.out.trans F3).trans' F7 (fun i hi e => absurd hi (by have := (hkp i e).1; omega)))
      have hs7 : w2.heap.size ≤ w7.heap.size := by have := F3.size; have := F7.size; omega
      have hcr7 := (HCR.out.fr F3 (fun _ _ h => h)).fr F7 (fun k hk e => by
        have := HBK.out k hk
        rcases HOWN.out k e with h | h <;> omega)
      rw [HML.out] at hrun hrow7 hown7
      have HRUN := Lib.hid hrun
      have HROW7 := Lib.hid hrow7
      have HCR7 := Lib.hid hcr7
      have HOWN7 := Lib.hid (show ∀ k, (Value.slice a7 (j + 1) c7).ownBlock = some k → k = w.heap.size ∨ w2.heap.size ≤ k from fun k hk => by
        rcases hown7 k hk with h | h
        · exact HOWN.out k h
        · have := F3.size; exact .inr (by omega))
      clear hrun hrow7 F7 hk2 hkp hrow2 F3 e1 HCP hcr7 hown7
      go_wp2_with (at_builtin; refine wpList_append_run (by rfl) (.tmp 19) (.tmp 22) 33 (by rfl) _ w7 (by exact HRUN.out) ?_)
      go_roundg (L.length - (j + 1))
      case measure => rw [HG.out]; omega
      case rel => exact ⟨j + 1, a7, c7, base, rfl, by omega, rfl, by go_num, by rw [HMT.out]; exact HROW7.out, HG7.out, hs7, HCR7.out, HOWN7.out⟩
    · obtain rfl : j = L.length := by omega
      have hrow := HRW.out
      rw [List.take_length] at hrow
      have HAT2 := Lib.hid hrow.at
      have hfw : ∀ r ∈ L, fewB r := fun r hr => (HS.out r hr).1
      have HFW := Lib.hid hfw
      have HRI := Lib.hid (right_any _ L wr HAT2.out hfw)
      clear hrow hfw
      go_wp2_with fail
      refine HRI.out.mono ?_
      rintro e w3 ⟨rfl, F3⟩
      have HG3 := Lib.hid (HF.out.trans F3)
      have HAT3 := Lib.hid (HAT2.out.old F3)
      clear F3 HRI
      cases hok : nameOk L with
      | false =>
        have HK := Lib.hid hok
        clear hok
        go_wp2_with fail
        refine bodyPost_ret (v := .tuple #[.slice none 0 0, .int .i64 1]) (by simp [results, Tryz.results23, go_sem]) rfl ⟨?_, HG3.out⟩
        unfold AddOut
        rw [if_neg (by rw [HK.out]; simp)]
      | true =>
        have HK := Lib.hid hok
        clear hok
        go_wp2_with fail
        refine bodyPost_ret (v := .tuple #[.slice a3 L.length c3, .int .i64 0]) (by simp [results, Tryz.results23, go_sem]) rfl ⟨?_, HG3.out⟩
        unfold AddOut
        rw [if_pos HK.out]
        exact ⟨_, _, rfl, HAT3.out⟩
end Go.Proofs.YtgffhiopbnkjbaaGreatDoor

namespace Go.Q
open Go Go.RowKit
theorem cmpS_drop {a b : List UInt8} {j : Nat} {x y : UInt8} (hx : a[j]? = some x) (hy : b[j]? = some y) : cmpS (a.drop j) (b.drop j) = if x.toNat < y.toNat then -1 else if y.toNat < x.toNat then 1 else cmpS (a.drop (j + 1)) (b.drop (j + 1)) := by
  have h1 : a.drop j = x :: a.drop (j + 1) := by
    obtain ⟨h, rfl⟩ := List.getElem?_eq_some_iff.1 hx
    exact List.drop_eq_getElem_cons h
  have h2 : b.drop j = y :: b.drop (j + 1) := by
    obtain ⟨h, rfl⟩ := List.getElem?_eq_some_iff.1 hy
    exact List.drop_eq_getElem_cons h
  rw [h1, h2]
  simp only [cmpS]
  by_cases h : x = y
  · subst h; simp
  · rw [if_neg h]
    by_cases h3 : x.toNat < y.toNat
    · rw [if_pos h3, if_pos h3]
    · rw [if_neg h3, if_neg h3, if_pos]
      rcases Nat.lt_or_ge y.toNat x.toNat with h4 | h4
      · exact h4
      · exact absurd (UInt8.toNat_inj.1 (by omega)) h
theorem cmpS_zero : ∀ (s t : List UInt8), cmpS s t = 0 ↔ s = t
  | [], [] => by simp [cmpS]
  | [], _ :: _ => by simp [cmpS]
  | _ :: _, [] => by simp [cmpS]
  | x :: s, y :: t => by
    have ih := cmpS_zero s t
    unfold cmpS
    split
    · rename_i h; subst h; rw [ih]; simp
    · rename_i h
      split <;> simp [h]
end Go.Q
namespace Go.Proofs.YtgffhiopbnkjbaaGreatDoor
open Go Go.RowKit Go.Q

set_option maxRecDepth 20000 in
set_option maxHeartbeats 1000000 in
theorem r01Compare_any (v u : Value) (o p : List UInt8) (w : World) (h : Bytes w v o) (hu : Bytes w u p) :
    Calls Tryz.prog 69 #[v, u] w fun e w' => e = .returned (.int .i64 (cmpS o p)) ∧ Fr (fun _ => False) w w' := by
  obtain ⟨a, cap, rfl, hc1, hm1, hx⟩ := Vals.form h
  obtain ⟨b, cbp, rfl, hc2, hm2, hy⟩ := Vals.form hu
  have HX := Lib.hid hx
  have HY := Lib.hid hy
  unfold maxLen at hm1 hm2
  clear h hu hx hy
  go_enter Tryz.func69, Tryz.ntmps69
  go_wp2_with fail
  go_loopg [5] (o.length + p.length) (fun g i wr => ∃ j : Nat, g = o.length + p.length - j ∧ j ≤ o.length ∧ j ≤ p.length ∧ i = .int .i64 j ∧ cmpS o p = cmpS (o.drop j) (p.drop j) ∧ Fr (fun _ => False) w wr)
  case atStart => exact ⟨0, rfl, Nat.zero_le _, Nat.zero_le _, rfl, rfl, Fr.refl _⟩
  case round =>
    obtain ⟨j, hg, hj, hjp, rfl, hE, F⟩ := hrel
    have HG := Lib.hid hg
    have HE := Lib.hid hE
    have HF := Lib.hid F
    clear hg hE
    by_cases hjl : j < o.length
    · obtain ⟨ba, oa, rfl, ha⟩ := HX.out (by omega)
      obtain ⟨x, hxj⟩ : ∃ x, o[j]? = some x := ⟨_, List.getElem?_eq_getElem hjl⟩
      have e1 := F.cell (ha j x hxj) (fun h => h)
      have r1 : (0 : Int) ≤ (j : Int) := by omega
      have r2 : (j : Int) < (o.length : Int) := by omega
      have r5 : decide ((o.length : Int) ≤ (j : Int)) = false := decide_eq_false (by omega)
      have r5N : decide (o.length ≤ j) = false := decide_eq_false (by omega)
      have r5' : decide ((j : Int) < (o.length : Int)) = true := decide_eq_true (by omega)
      have r5'N : decide (j < o.length) = true := decide_eq_true (by omega)
      by_cases hjl2 : j < p.length
      · obtain ⟨bb, ob, rfl, hb⟩ := HY.out (by omega)
        obtain ⟨y, hyj⟩ : ∃ y, p[j]? = some y := ⟨_, List.getElem?_eq_getElem hjl2⟩
        have e2 := F.cell (hb j y hyj) (fun h => h)
        have r4 : (j : Int) < (p.length : Int) := by omega
        have r3 : decide ((p.length : Int) ≤ (j : Int)) = false := decide_eq_false (by omega)
        have r3N : decide (p.length ≤ j) = false := decide_eq_false (by omega)
        have r4' : decide ((j : Int) < (p.length : Int)) = true := decide_eq_true (by omega)
        have r4'N : decide (j < p.length) = true := decide_eq_true (by omega)
        have hcd := Lib.hid (cmpS_drop hxj hyj)
        clear ha hb hxj hyj F
        generalize x.toNat = x at *
        generalize y.toNat = y at *
        by_cases h1 : x < y
        · have hres : cmpS o p = -1 := by rw [HE.out, hcd.out, if_pos h1]
          have HRES := Lib.hid hres
          have q1 : decide ((x : Int) < (y : Int)) = true := decide_eq_true (by omega)
          have q1N : decide (x < y) = true := decide_eq_true h1
          clear hres
          go_wp2_with fail
          go_quiet (fail)
          go_wp2_with fail
          go_ret
          refine ⟨by rw [HRES.out]; rfl, ?_⟩; (first | with_reducible exact HF.out | with_reducible exact Fr.drewN HF.out _ | with_reducible exact Fr.drewN (Fr.drewN HF.out _) _ | with_reducible exact Fr.drewN (Fr.drewN (Fr.drewN HF.out _) _) _)
        · have q1 : decide ((x : Int) < (y : Int)) = false := decide_eq_false (by omega)
          have q1N : decide (x < y) = false := decide_eq_false h1
          by_cases h2 : y < x
          · have hres : cmpS o p = 1 := by rw [HE.out, hcd.out, if_neg h1, if_pos h2]
            have HRES := Lib.hid hres
            have q2 : decide ((y : Int) < (x : Int)) = true := decide_eq_true (by omega)
            have q2N : decide (y < x) = true := decide_eq_true h2
            clear hres
            go_wp2_with fail
            go_quiet (fail)
            go_wp2_with fail
            go_quiet (fail)
            go_wp2_with fail
            go_ret
            refine ⟨by rw [HRES.out]; rfl, ?_⟩; (first | with_reducible exact HF.out | with_reducible exact Fr.drewN HF.out _ | with_reducible exact Fr.drewN (Fr.drewN HF.out _) _ | with_reducible exact Fr.drewN (Fr.drewN (Fr.drewN HF.out _) _) _)
          · have hres : cmpS o p = cmpS (o.drop (j + 1)) (p.drop (j + 1)) := by rw [HE.out, hcd.out, if_neg h1, if_neg h2]
            have HRES := Lib.hid hres
            have q2 : decide ((y : Int) < (x : Int)) = false := decide_eq_false (by omega)
            have q2N : decide (y < x) = false := decide_eq_false h2
            clear hres
            go_wp2_with fail
            go_quiet (fail)
            go_wp2_with fail
            go_quiet (fail)
            go_wp2_with fail
            go_roundg (o.length + p.length - (j + 1))
            case measure => rw [HG.out]; omega
            case rel => refine ⟨j + 1, rfl, by omega, by omega, by go_num, HRES.out, ?_⟩; (first | with_reducible exact HF.out | with_reducible exact Fr.drewN HF.out _ | with_reducible exact Fr.drewN (Fr.drewN HF.out _) _ | with_reducible exact Fr.drewN (Fr.drewN (Fr.drewN HF.out _) _) _)
      · have r3 : decide ((p.length : Int) ≤ (j : Int)) = true := decide_eq_true (by omega)
        have r3N : decide (p.length ≤ j) = true := decide_eq_true (by omega)
        have r4 : decide ((j : Int) < (p.length : Int)) = false := decide_eq_false (by omega)
        have r4N : decide (j < p.length) = false := decide_eq_false (by omega)
        have hres : cmpS o p = 1 := by
          have h1 : o.drop j = x :: o.drop (j + 1) := by
            obtain ⟨h, rfl⟩ := List.getElem?_eq_some_iff.1 hxj
            exact List.drop_eq_getElem_cons h
          have h2 : p.drop j = [] := List.drop_eq_nil_of_le (by omega)
          rw [HE.out, h1, h2]
          rfl
        have HRES := Lib.hid hres
        clear hres ha hxj F
        go_wp2_with fail
        go_quiet (fail)
        go_wp2_with fail
        go_quiet (fail)
        go_wp2_with fail
        go_ret
        refine ⟨by rw [HRES.out]; rfl, ?_⟩; (first | with_reducible exact HF.out | with_reducible exact Fr.drewN HF.out _ | with_reducible exact Fr.drewN (Fr.drewN HF.out _) _ | with_reducible exact Fr.drewN (Fr.drewN (Fr.drewN HF.out _) _) _)
    · obtain rfl : j = o.length := by omega
      have h1 : o.drop o.length = [] := List.drop_length
      have r5 : decide ((o.length : Int) ≤ (o.length : Int)) = true := decide_eq_true (by omega)
      have r5N : decide (o.length ≤ o.length) = true := decide_eq_true (by omega)
      by_cases hlt : o.length < p.length
      · have r3 : (o.length : Int) < (p.length : Int) := by omega
        have r3N : decide (o.length < p.length) = true := decide_eq_true hlt
        have hres : cmpS o p = -1 := by
          rw [HE.out, h1]
          have : p.drop o.length ≠ [] := fun e => by have := drop_nil e; omega
          cases hd : p.drop o.length with
          | nil => exact absurd hd this
          | cons y t => rfl
        have HRES := Lib.hid hres
        clear hres h1 F
        go_wp2_with fail
        go_quiet (fail)
        go_wp2_with fail
        go_ret
        refine ⟨by rw [HRES.out]; rfl, ?_⟩; (first | with_reducible exact HF.out | with_reducible exact Fr.drewN HF.out _ | with_reducible exact Fr.drewN (Fr.drewN HF.out _) _ | with_reducible exact Fr.drewN (Fr.drewN (Fr.drewN HF.out _) _) _)
      · have r3 : ¬ (o.length : Int) < (p.length : Int) := by omega
        have r3N : decide (o.length < p.length) = false := decide_eq_false hlt
        have hres : cmpS o p = 0 := by
          have h2 : p.drop o.length = [] := List.drop_eq_nil_of_le (by omega)
          rw [HE.out, h1, h2]
          rfl
        have HRES := Lib.hid hres
        clear hres h1
        go_wp2_with fail
        go_ret
        exact ⟨by rw [HRES.out]; rfl, F⟩

theorem r01Same_any (v u : Value) (o p : List UInt8) (w : World) (h : Bytes w v o) (hu : Bytes w u p) :
    Calls Tryz.prog 43 #[v, u] w fun e w' => e = .returned (.bool (decide (o = p))) ∧ Fr (fun _ => False) w w' := by
  have H := Lib.hid (r01Compare_any v u o p w h hu)
  clear h hu
  have hq : (cmpS o p == 0) = decide (o = p) := by
    rw [Bool.eq_iff_iff]
    simp [cmpS_zero]
  have HQ := Lib.hid hq
  clear hq
  generalize cmpS o p = c at *
  go_enter Tryz.func43, Tryz.ntmps43
  go_wp2_with fail
  refine H.out.mono ?_
  rintro e w' ⟨rfl, F⟩
  go_wp2_with fail
  go_ret
  exact ⟨by rw [← HQ.out]; rfl, F⟩
end Go.Proofs.YtgffhiopbnkjbaaGreatDoor

namespace Go.Proofs.YtgffhiopbnkjbaaGreatDoor
open Go Go.RowKit Go.Q

set_option maxRecDepth 20000 in
set_option maxHeartbeats 1000000 in
theorem r04Right_any (v : Value) (o : List Int) (w : World) (h : Ints w v o) :
    Calls Tryz.prog 11 #[v] w fun e w' => e = .returned (.bool (oidOk o)) ∧ w = w' := by
  obtain ⟨a, cap, rfl, hc, hm, hx⟩ := Ints.form h
  have HX := Lib.hid hx
  clear h hx
  rcases Classical.em (2 ≤ o.length ∧ o.length ≤ 32) with hl | hl
  · obtain ⟨hl1, hl2⟩ := hl
    have q1 : decide ((o.length : Int) < 2) = false := decide_eq_false (by omega)
    have q2 : decide ((32 : Int) < (o.length : Int)) = false := decide_eq_false (by omega)
    go_enter Tryz.func11, Tryz.ntmps11
    go_wp2_with fail
    go_loopg [3] o.length (fun g i wr => ∃ j : Nat, g = o.length - j ∧ j ≤ o.length ∧ i = .int .i64 j ∧ (o.take j).all arcOk = true ∧ wr = w)
    case atStart => exact ⟨0, rfl, by omega, rfl, rfl, rfl⟩
    case round =>
      obtain ⟨j, hg, hj, rfl, hall, rfl⟩ := hrel
      have HG := Lib.hid hg
      have HA := Lib.hid hall
      clear hg hall
      obtain ⟨b, off, rfl, hy⟩ := HX.out (by omega)
      by_cases hjl : j < o.length
      · obtain ⟨x, hxj⟩ : ∃ x, o[j]? = some x := ⟨_, List.getElem?_eq_getElem hjl⟩
        have ex := hy j x hxj
        have hat : (o.take (j + 1)).all arcOk = ((o.take j).all arcOk && arcOk x) := by
          rw [List.take_add_one, hxj]
          simp
        have HAT := Lib.hid hat
        have q3 : (0 : Int) ≤ (j : Int) := by omega
        have q4 : (j : Int) < (o.length : Int) := by omega
        have hbad : arcOk x = false → oidOk o = false := fun hb => by
          have : o.all arcOk = false := by
            rw [List.all_eq_false]
            exact ⟨x, List.mem_of_getElem? hxj, by simp [hb]⟩
          simp [oidOk, this]
        have HB := Lib.hid hbad
        clear hy hxj hat hbad
        rcases Classical.em (x < 0) with h0 | h0
        · have q5 : decide (x < 0) = true := decide_eq_true h0
          go_wp2_with fail
          go_ret
          exact ⟨by rw [HB.out (by simp [arcOk]; omega)]; rfl, rfl⟩
        · have q5 : decide (x < 0) = false := decide_eq_false h0
          rcases Classical.em ((2147483647 : Int) < x) with h1 | h1
          · have q6 : decide ((2147483647 : Int) < x) = true := decide_eq_true h1
            go_wp2_with fail
            go_ret
            exact ⟨by rw [HB.out (by simp [arcOk]; omega)]; rfl, rfl⟩
          · have q6 : decide ((2147483647 : Int) < x) = false := decide_eq_false h1
            go_wp2_with fail
            go_roundg (o.length - (j + 1))
            case measure => rw [HG.out]; omega
            case rel => exact ⟨j + 1, rfl, by omega, by go_num, by rw [HAT.out, HA.out]; simp [arcOk]; omega, rfl⟩
      · have hall : o.all arcOk = true := by
          have := HA.out
          rwa [List.take_of_length_le (by omega)] at this
        obtain ⟨x0, hx0⟩ : ∃ x, o[0]? = some x := ⟨_, List.getElem?_eq_getElem (by omega)⟩
        obtain ⟨x1, hx1⟩ : ∃ x, o[1]? = some x := ⟨_, List.getElem?_eq_getElem (by omega)⟩
        have e0 := hy 0 x0 hx0
        have e1 := hy 1 x1 hx1
        have hE : oidOk o = twoOk x0 x1 := by
          simp [oidOk, hall, hl1, hl2, List.getD, hx0, hx1]
        have hp0 : 0 ≤ x0 := by
          have := List.all_eq_true.1 hall x0 (List.mem_of_getElem? hx0)
          simp only [arcOk, decide_eq_true_eq] at this
          exact this.1
        have HE := Lib.hid hE
        have z1 : (1 : Int) < (o.length : Int) := by omega
        have z0 : (0 : Int) < (o.length : Int) := by omega
        simp only [Nat.add_zero] at e0
        clear hy hx0 hx1 hall hE HA HX
        by_cases h2 : x0 < 2
        · by_cases h40 : x1 < 40
          · have hv : twoOk x0 x1 = true := by unfold twoOk; rw [decide_eq_true (show x0 = 0 ∨ x0 = 1 by omega), decide_eq_true h40]; rfl
            have HV := Lib.hid hv
            clear hv
            go_wp2_with fail
            go_ret
            exact ⟨by rw [HE.out, HV.out]; rfl, rfl⟩
          · have hv : twoOk x0 x1 = false := by unfold twoOk; rw [decide_eq_false h40, decide_eq_false (show ¬ x0 = 2 by omega), Bool.and_false]; rfl
            have HV := Lib.hid hv
            have p2 : (x0 == 2) = false := beq_eq_false_iff_ne.2 (by omega)
            clear hv
            go_wp2_with fail
            go_ret
            exact ⟨by rw [HE.out, HV.out]; rfl, rfl⟩
        · by_cases h22 : x0 = 2
          · subst h22
            by_cases hm1 : x1 ≤ 2147483567
            · have hv : twoOk 2 x1 = true := by unfold twoOk; rw [decide_eq_true hm1]; simp
              have HV := Lib.hid hv
              clear hv
              go_wp2_with fail
              go_ret
              exact ⟨by rw [HE.out, HV.out]; rfl, rfl⟩
            · have hv : twoOk 2 x1 = false := by unfold twoOk; rw [decide_eq_false hm1]; simp
              have HV := Lib.hid hv
              clear hv
              go_wp2_with fail
              go_ret
              exact ⟨by rw [HE.out, HV.out]; rfl, rfl⟩
          · have hv : twoOk x0 x1 = false := by unfold twoOk; rw [decide_eq_false h22, decide_eq_false (show ¬ (x0 = 0 ∨ x0 = 1) by omega)]; rfl
            have HV := Lib.hid hv
            have p2 : (x0 == 2) = false := beq_eq_false_iff_ne.2 h22
            clear hv
            go_wp2_with fail
            go_ret
            exact ⟨by rw [HE.out, HV.out]; rfl, rfl⟩
  · have hE : oidOk o = false := by simp [oidOk]; omega
    have HE := Lib.hid hE
    rcases Classical.em (o.length < 2) with h2 | h2
    case' inl => have q1 : decide ((o.length : Int) < 2) = true := decide_eq_true (by omega)
    case' inr =>
      have q1 : decide ((o.length : Int) < 2) = false := decide_eq_false (by omega)
      have q2 : decide ((32 : Int) < (o.length : Int)) = true := decide_eq_true (by omega)
    all_goals
      clear hE
      go_enter Tryz.func11, Tryz.ntmps11
      go_wp2_with fail
      go_ret
      exact ⟨by rw [HE.out]; rfl, rfl⟩

set_option maxRecDepth 20000 in
set_option maxHeartbeats 1000000 in
theorem r04Compare_any (v u : Value) (o p : List Int) (w : World) (h : Ints w v o) (hu : Ints w u p) :
    Calls Tryz.prog 52 #[v, u] w fun e w' => e = .returned (.int .i64 (cmpI o p)) ∧ Fr (fun _ => False) w w' := by
  obtain ⟨a, cap, rfl, hc1, hm1, hx⟩ := Ints.form h
  obtain ⟨b, cbp, rfl, hc2, hm2, hy⟩ := Ints.form hu
  have HX := Lib.hid hx
  have HY := Lib.hid hy
  unfold maxLen at hm1 hm2
  clear h hu hx hy
  go_enter Tryz.func52, Tryz.ntmps52
  go_wp2_with fail
  go_loopg [5] (o.length + p.length) (fun g i wr => ∃ j : Nat, g = o.length + p.length - j ∧ j ≤ o.length ∧ j ≤ p.length ∧ i = .int .i64 j ∧ cmpI o p = cmpI (o.drop j) (p.drop j) ∧ Fr (fun _ => False) w wr)
  case atStart => exact ⟨0, rfl, Nat.zero_le _, Nat.zero_le _, rfl, rfl, Fr.refl _⟩
  case round =>
    obtain ⟨j, hg, hj, hjp, rfl, hE, F⟩ := hrel
    have HG := Lib.hid hg
    have HE := Lib.hid hE
    have HF := Lib.hid F
    clear hg hE
    by_cases hjl : j < o.length
    · obtain ⟨ba, oa, rfl, ha⟩ := HX.out (by omega)
      obtain ⟨x, hxj⟩ : ∃ x, o[j]? = some x := ⟨_, List.getElem?_eq_getElem hjl⟩
      have e1 := F.cell (ha j x hxj) (fun h => h)
      have r1 : (0 : Int) ≤ (j : Int) := by omega
      have r2 : (j : Int) < (o.length : Int) := by omega
      have r5 : decide ((o.length : Int) ≤ (j : Int)) = false := decide_eq_false (by omega)
      have r5N : decide (o.length ≤ j) = false := decide_eq_false (by omega)
      have r5' : decide ((j : Int) < (o.length : Int)) = true := decide_eq_true (by omega)
      have r5'N : decide (j < o.length) = true := decide_eq_true (by omega)
      by_cases hjl2 : j < p.length
      · obtain ⟨bb, ob, rfl, hb⟩ := HY.out (by omega)
        obtain ⟨y, hyj⟩ : ∃ y, p[j]? = some y := ⟨_, List.getElem?_eq_getElem hjl2⟩
        have e2 := F.cell (hb j y hyj) (fun h => h)
        have r4 : (j : Int) < (p.length : Int) := by omega
        have r3 : decide ((p.length : Int) ≤ (j : Int)) = false := decide_eq_false (by omega)
        have r3N : decide (p.length ≤ j) = false := decide_eq_false (by omega)
        have r4' : decide ((j : Int) < (p.length : Int)) = true := decide_eq_true (by omega)
        have r4'N : decide (j < p.length) = true := decide_eq_true (by omega)
        have hcd := Lib.hid (cmpI_drop hxj hyj)
        clear ha hb hxj hyj F
        by_cases h1 : x < y
        · have hres : cmpI o p = -1 := by rw [HE.out, hcd.out, if_pos h1]
          have HRES := Lib.hid hres
          have q1 : decide (x < y) = true := decide_eq_true h1
          clear hres
          go_wp2_with fail
          go_quiet (fail)
          go_wp2_with fail
          go_ret
          refine ⟨by rw [HRES.out]; rfl, ?_⟩; (first | with_reducible exact HF.out | with_reducible exact Fr.drewN HF.out _ | with_reducible exact Fr.drewN (Fr.drewN HF.out _) _ | with_reducible exact Fr.drewN (Fr.drewN (Fr.drewN HF.out _) _) _)
        · have q1 : decide (x < y) = false := decide_eq_false h1
          by_cases h2 : y < x
          · have hres : cmpI o p = 1 := by rw [HE.out, hcd.out, if_neg h1, if_pos h2]
            have HRES := Lib.hid hres
            have q2 : decide (y < x) = true := decide_eq_true h2
            clear hres
            go_wp2_with fail
            go_quiet (fail)
            go_wp2_with fail
            go_quiet (fail)
            go_wp2_with fail
            go_ret
            refine ⟨by rw [HRES.out]; rfl, ?_⟩; (first | with_reducible exact HF.out | with_reducible exact Fr.drewN HF.out _ | with_reducible exact Fr.drewN (Fr.drewN HF.out _) _ | with_reducible exact Fr.drewN (Fr.drewN (Fr.drewN HF.out _) _) _)
          · have hres : cmpI o p = cmpI (o.drop (j + 1)) (p.drop (j + 1)) := by rw [HE.out, hcd.out, if_neg h1, if_neg h2]
            have HRES := Lib.hid hres
            have q2 : decide (y < x) = false := decide_eq_false h2
            clear hres
            go_wp2_with fail
            go_quiet (fail)
            go_wp2_with fail
            go_quiet (fail)
            go_wp2_with fail
            go_roundg (o.length + p.length - (j + 1))
            case measure => rw [HG.out]; omega
            case rel => refine ⟨j + 1, rfl, by omega, by omega, by go_num, HRES.out, ?_⟩; (first | with_reducible exact HF.out | with_reducible exact Fr.drewN HF.out _ | with_reducible exact Fr.drewN (Fr.drewN HF.out _) _ | with_reducible exact Fr.drewN (Fr.drewN (Fr.drewN HF.out _) _) _)
      · have r3 : decide ((p.length : Int) ≤ (j : Int)) = true := decide_eq_true (by omega)
        have r3N : decide (p.length ≤ j) = true := decide_eq_true (by omega)
        have r4 : decide ((j : Int) < (p.length : Int)) = false := decide_eq_false (by omega)
        have r4N : decide (j < p.length) = false := decide_eq_false (by omega)
        have hres : cmpI o p = 1 := by
          have h1 : o.drop j = x :: o.drop (j + 1) := by
            obtain ⟨h, rfl⟩ := List.getElem?_eq_some_iff.1 hxj
            exact List.drop_eq_getElem_cons h
          have h2 : p.drop j = [] := List.drop_eq_nil_of_le (by omega)
          rw [HE.out, h1, h2]
          rfl
        have HRES := Lib.hid hres
        clear hres ha hxj F
        go_wp2_with fail
        go_quiet (fail)
        go_wp2_with fail
        go_quiet (fail)
        go_wp2_with fail
        go_ret
        refine ⟨by rw [HRES.out]; rfl, ?_⟩; (first | with_reducible exact HF.out | with_reducible exact Fr.drewN HF.out _ | with_reducible exact Fr.drewN (Fr.drewN HF.out _) _ | with_reducible exact Fr.drewN (Fr.drewN (Fr.drewN HF.out _) _) _)
    · obtain rfl : j = o.length := by omega
      have h1 : o.drop o.length = [] := List.drop_length
      have r5 : decide ((o.length : Int) ≤ (o.length : Int)) = true := decide_eq_true (by omega)
      have r5N : decide (o.length ≤ o.length) = true := decide_eq_true (by omega)
      by_cases hlt : o.length < p.length
      · have r3 : (o.length : Int) < (p.length : Int) := by omega
        have r3N : decide (o.length < p.length) = true := decide_eq_true hlt
        have hres : cmpI o p = -1 := by
          rw [HE.out, h1]
          have : p.drop o.length ≠ [] := fun e => by have := drop_nil e; omega
          cases hd : p.drop o.length with
          | nil => exact absurd hd this
          | cons y t => rfl
        have HRES := Lib.hid hres
        clear hres h1 F
        go_wp2_with fail
        go_quiet (fail)
        go_wp2_with fail
        go_ret
        refine ⟨by rw [HRES.out]; rfl, ?_⟩; (first | with_reducible exact HF.out | with_reducible exact Fr.drewN HF.out _ | with_reducible exact Fr.drewN (Fr.drewN HF.out _) _ | with_reducible exact Fr.drewN (Fr.drewN (Fr.drewN HF.out _) _) _)
      · have r3 : ¬ (o.length : Int) < (p.length : Int) := by omega
        have r3N : decide (o.length < p.length) = false := decide_eq_false hlt
        have hres : cmpI o p = 0 := by
          have h2 : p.drop o.length = [] := List.drop_eq_nil_of_le (by omega)
          rw [HE.out, h1, h2]
          rfl
        have HRES := Lib.hid hres
        clear hres h1
        go_wp2_with fail
        go_ret
        exact ⟨by rw [HRES.out]; rfl, F⟩

theorem r04Same_any (v u : Value) (o p : List Int) (w : World) (h : Ints w v o) (hu : Ints w u p) :
    Calls Tryz.prog 17 #[v, u] w fun e w' => e = .returned (.bool (decide (o = p))) ∧ Fr (fun _ => False) w w' := by
  have H := Lib.hid (r04Compare_any v u o p w h hu)
  clear h hu
  have hq : (cmpI o p == 0) = decide (o = p) := by
    rw [Bool.eq_iff_iff]
    simp [cmpI_zero]
  have HQ := Lib.hid hq
  clear hq
  generalize cmpI o p = c at *
  go_enter Tryz.func17, Tryz.ntmps17
  go_wp2_with fail
  refine H.out.mono ?_
  rintro e w' ⟨rfl, F⟩
  go_wp2_with fail
  go_ret
  exact ⟨by rw [← HQ.out]; rfl, F⟩
end Go.Proofs.YtgffhiopbnkjbaaGreatDoor

namespace Go.Q
theorem held_z {α : Type} {o : α} {l : List α} : (o :: l)[0]? = some o := rfl
theorem held_s {α : Type} {a o : α} {l : List α} {i : Nat} (h : l[i]? = some o) : (a :: l)[i + 1]? = some o := h
theorem held_at {α : Type} {o : α} {l : List α} {i : Nat} (h : l[i]? = some o) : l.toArray[i]? = some o := by simpa using h
end Go.Q

namespace Go.Q
open Go Go.RowKit
instance : DecidableEq Part := fun p q => if h : p.o = q.o ∧ p.b = q.b then isTrue (by cases p; cases q; simp_all) else isFalse (fun e => h (by rw [e]; exact ⟨rfl, rfl⟩))
theorem Part.ext2 {p q : Part} (h1 : p.o = q.o) (h2 : p.b = q.b) : p = q := by cases p; cases q; simp_all
theorem take_next {α : Type} {l m : List α} {i : Nat} {x : α} (h : l.take i = m.take i) (h1 : l[i]? = some x) (h2 : m[i]? = some x) : l.take (i + 1) = m.take (i + 1) := by
  rw [List.take_add_one, List.take_add_one, h, h1, h2]
theorem ne_at {α : Type} {l m : List α} {i : Nat} {x y : α} (h1 : l[i]? = some x) (h2 : m[i]? = some y) (h : x ≠ y) : l ≠ m := fun e => by
  subst e
  rw [h1] at h2
  exact h (Option.some.inj h2)
theorem eq_of_take {α : Type} {l m : List α} (h : l.length = m.length) (h1 : l.take l.length = m.take l.length) : l = m := by
  rw [List.take_length] at h1
  rw [h1, h, List.take_length]
end Go.Q
namespace Go.Proofs.YtgffhiopbnkjbaaGreatDoor
open Go Go.RowKit Go.Q
set_option linter.unusedSimpArgs false

set_option maxRecDepth 20000 in
set_option maxHeartbeats 8000000 in
theorem r14Like_any (v u : Value) (n m : List (List Part)) (w : World) (h : NameAt w v n) (hu : NameAt w u m) :
    Calls Tryz.prog 24 #[v, u] w fun e w' => e = .returned (.bool (decide (n = m))) ∧ Fr (fun _ => False) w w' := by
  have H := Lib.hid h
  have HU := Lib.hid hu
  obtain ⟨a, cap, rfl, hc, hm, -⟩ := h
  obtain ⟨a', cap', rfl, hc', hm', -⟩ := hu
  have hcm : cap ≤ 9223372036854775807 := by unfold maxLen at hm; omega
  have hcm' : cap' ≤ 9223372036854775807 := by unfold maxLen at hm'; omega
  clear hm hm'
  by_cases hlen : n.length = m.length
  · have q1 : ((n.length : Int) != (m.length : Int)) = false := by simp [hlen]
    have q2 : (n.length != m.length) = false := by simp [hlen]
    have q3 : ((n.length : Int) == (m.length : Int)) = true := by simp [hlen]
    have q4 : (n.length == m.length) = true := by simp [hlen]
    have HLEN := Lib.hid hlen
    clear hlen
    go_enter Tryz.func24, Tryz.ntmps24
    go_wp2_with fail
    clear q1 q2 q3 q4
    go_loopg [5] n.length (fun g ii wr => ∃ i : Nat, g = n.length - i ∧ i ≤ n.length ∧ ii = .int .i64 i ∧ n.take i = m.take i ∧ Fr (fun _ => False) w wr)
    case atStart => exact ⟨0, rfl, Nat.zero_le _, rfl, rfl, Fr.refl _⟩
    case round =>
      obtain ⟨i, hg, hi, rfl, ht, F⟩ := hrel
      have HG := Lib.hid hg
      have HT := Lib.hid ht
      have HF := Lib.hid F
      clear hg ht
      by_cases hil : i < n.length
      · have him : i < m.length := by have := HLEN.out; omega
        obtain ⟨a0, cap0, he, _, _, hx⟩ := H.out
        simp only [Value.slice.injEq, true_and] at he
        obtain ⟨rfl, rfl⟩ := he
        obtain ⟨b, off, rfl, hy⟩ := hx (by omega)
        obtain ⟨r, hr⟩ : ∃ r, n[i]? = some r := ⟨_, List.getElem?_eq_getElem hil⟩
        obtain ⟨x, e0, hA⟩ := hy i r hr
        clear hx hy
        obtain ⟨a0, cap0, he, _, _, hx⟩ := HU.out
        simp only [Value.slice.injEq, true_and] at he
        obtain ⟨rfl, rfl⟩ := he
        obtain ⟨b', off', rfl, hy⟩ := hx (by omega)
        obtain ⟨s, hs⟩ : ∃ s, m[i]? = some s := ⟨_, List.getElem?_eq_getElem him⟩
        obtain ⟨y, e0', hA'⟩ := hy i s hs
        clear hx hy
        have HRI := Lib.hid hr
        have HSI := Lib.hid hs
        have HA := Lib.hid hA
        have HA' := Lib.hid hA'
        obtain ⟨ar, cr, rfl, hcr, hmr, -⟩ := hA
        obtain ⟨a2, cs, rfl, hcs, hms, -⟩ := hA'
        have hcr2 : cr ≤ 9223372036854775807 := by unfold maxLen at hmr; omega
        have hcs2 : cs ≤ 9223372036854775807 := by unfold maxLen at hms; omega
        have HE0 := Lib.hid e0
        have HE0' := Lib.hid e0'
        have e0w := F.cell e0 (fun h => h)
        have e0w' := F.cell e0' (fun h => h)
        have r1 : (0 : Int) ≤ (i : Int) := by omega
        have r2 : (i : Int) < (n.length : Int) := by omega
        have r3 : (i : Int) < (m.length : Int) := by omega
        clear hr hs F hmr hms e0 e0'
        by_cases hl2 : r.length = s.length
        · have q1 : ((r.length : Int) != (s.length : Int)) = false := by simp [hl2]
          have q2 : (r.length != s.length) = false := by simp [hl2]
          have q3 : ((r.length : Int) == (s.length : Int)) = true := by simp [hl2]
          have q4 : (r.length == s.length) = true := by simp [hl2]
          have HL2 := Lib.hid hl2
          clear hl2
          go_upto_region 6 with fail
          go_quiet (fail)
          have HF1 := Lib.hid (HF.out.drewN nq)
          generalize (wr.drewN nq) = w1 at *
          go_wp2_with fail
          clear q1 q2 q3 q4 e0w e0w'
          go_loopg [6] r.length (fun g kk wr => ∃ k : Nat, g = r.length - k ∧ k ≤ r.length ∧ kk = .int .i64 k ∧ r.take k = s.take k ∧ Fr (fun _ => False) w wr)
          case atStart => exact ⟨0, rfl, Nat.zero_le _, rfl, rfl, HF1.out⟩
          case round =>
            obtain ⟨k, hg, hk, rfl, ht, F⟩ := hrel
            have HG2 := Lib.hid hg
            have HT2 := Lib.hid ht
            have HF2 := Lib.hid F
            have e0w := F.cell HE0.out (fun h => h)
            have e0w' := F.cell HE0'.out (fun h => h)
            clear hg ht
            by_cases hkl : k < r.length
            · have hks : k < s.length := by have := HL2.out; omega
              obtain ⟨a0, cap0, he, _, _, hx⟩ := HA.out
              simp only [Value.slice.injEq, true_and] at he
              obtain ⟨rfl, rfl⟩ := he
              obtain ⟨b1, o1, rfl, hy⟩ := hx (by omega)
              obtain ⟨p, hp⟩ : ∃ p, r[k]? = some p := ⟨_, List.getElem?_eq_getElem hkl⟩
              obtain ⟨x, y, e1, e2, hpx, hpy⟩ := hy k p hp
              clear hx hy
              obtain ⟨a0, cap0, he, _, _, hx⟩ := HA'.out
              simp only [Value.slice.injEq, true_and] at he
              obtain ⟨rfl, rfl⟩ := he
              obtain ⟨b2, o2, rfl, hy⟩ := hx (by omega)
              obtain ⟨q, hq⟩ : ∃ q, s[k]? = some q := ⟨_, List.getElem?_eq_getElem hks⟩
              obtain ⟨x', y', e1', e2', hqx, hqy⟩ := hy k q hq
              clear hx hy
              rw [Nat.mul_comm] at e1 e2 e1' e2'
              obtain ⟨ax, cx, rfl, -⟩ := Ints.form hpx
              obtain ⟨ay, cy, rfl, -⟩ := Vals.form hpy
              obtain ⟨ax', cx', rfl, -⟩ := Ints.form hqx
              obtain ⟨ay', cy', rfl, -⟩ := Vals.form hqy
              have hS : ∀ w', Fr (fun _ => False) w w' → w'.cell? ⟨b, off + i, none⟩ = some (.slice (some ⟨b1, o1, none⟩) r.length cr) ∧ w'.cell? ⟨b', off' + i, none⟩ = some (.slice (some ⟨b2, o2, none⟩) s.length cs) ∧ w'.cell? ⟨b1, o1 + k * 2, none⟩ = some (.slice ax p.o.length cx) ∧ w'.cell? ⟨b1, o1 + k * 2 + 1, none⟩ = some (.slice ay p.b.length cy) ∧ w'.cell? ⟨b2, o2 + k * 2, none⟩ = some (.slice ax' q.o.length cx') ∧ w'.cell? ⟨b2, o2 + k * 2 + 1, none⟩ = some (.slice ay' q.b.length cy') := fun w' f => ⟨f.cell HE0.out (fun h => h), f.cell HE0'.out (fun h => h), f.cell e1 (fun h => h), f.cell e2 (fun h => h), f.cell e1' (fun h => h), f.cell e2' (fun h => h)⟩
              have HS := Lib.hid hS
              obtain ⟨d1, hd1⟩ : ∃ d1, decide (p.o = q.o) = d1 := ⟨_, rfl⟩
              obtain ⟨d2, hd2⟩ : ∃ d2, decide (p.b = q.b) = d2 := ⟨_, rfl⟩
              have hc1 : ∀ W, Fr (fun _ => False) w W → Calls Tryz.prog 17 #[.slice ax p.o.length cx, .slice ax' q.o.length cx'] W fun e w' => e = .returned (.bool d1) ∧ Fr (fun _ => False) W w' := fun W f => by
                have := r04Same_any _ _ p.o q.o W (hpx.old f) (hqx.old f)
                rw [hd1] at this
                exact this
              have hc2 : ∀ W, Fr (fun _ => False) w W → Calls Tryz.prog 43 #[.slice ay p.b.length cy, .slice ay' q.b.length cy'] W fun e w' => e = .returned (.bool d2) ∧ Fr (fun _ => False) W w' := fun W f => by
                have := r01Same_any _ _ p.b q.b W (hpy.old f) (hqy.old f)
                rw [hd2] at this
                exact this
              have HC1 := Lib.hid hc1
              have HC2 := Lib.hid hc2
              have HD1 := Lib.hid hd1
              have HD2 := Lib.hid hd2
              have HPI := Lib.hid hp
              have HQI := Lib.hid hq
              have s1 : (0 : Int) ≤ (k : Int) := by omega
              have s2 : (k : Int) < (r.length : Int) := by omega
              have s3 : (k : Int) < (s.length : Int) := by omega
              clear hp hq e1 e2 e1' e2' hpx hpy hqx hqy hS hc1 hc2 hd1 hd2
              go_upto_region 11 with fail
              clear e0w e0w'
              have G : Fr (fun _ => False) w wr.drew := F.drew
              clear F
              cases d1 with
              | false =>
                have hne : n ≠ m := ne_at HRI.out HSI.out (ne_at HPI.out HQI.out (fun e => by have := of_decide_eq_false HD1.out; rw [e] at this; exact this rfl))
                have HNE := Lib.hid (decide_eq_false hne)
                clear hne
                refine wp_region_held_drew (S := (fun w' => w'.cell? ⟨b, off + i, none⟩ = some (.slice (some ⟨b1, o1, none⟩) r.length cr) ∧ w'.cell? ⟨b', off' + i, none⟩ = some (.slice (some ⟨b2, o2, none⟩) s.length cs) ∧ w'.cell? ⟨b1, o1 + k * 2, none⟩ = some (.slice ax p.o.length cx) ∧ w'.cell? ⟨b1, o1 + k * 2 + 1, none⟩ = some (.slice ay p.b.length cy) ∧ w'.cell? ⟨b2, o2 + k * 2, none⟩ = some (.slice ax' q.o.length cx') ∧ w'.cell? ⟨b2, o2 + k * 2 + 1, none⟩ = some (.slice ay' q.b.length cy'))) (by kernel_rfl) ?_ (fun hHeld => ?_)
                · exact HS.out _ G
                refine wpAnyH_take (i := 0) (v := ?vr0) (held_at held_z) (by kernel_rfl) (by kernel_rfl) (by kernel_rfl) (fun _ _ _ h => h) (Or.inl ⟨by rfl, ?hyr0⟩) (by assumption) ?restr0
                case hyr0 => intro w9 hSw; (try dsimp only at hSw); go_simp; all_goals with_reducible rfl
                try simp only [Act.put, List.setIfInBounds_toArray, List.set_cons_zero, List.set_cons_succ]
                refine wpAnyH_take (i := 1) (v := ?vr1) (held_at (held_s held_z)) (by kernel_rfl) (by kernel_rfl) (by kernel_rfl) (fun _ _ _ h => h) (Or.inl ⟨by rfl, ?hyr1⟩) (by assumption) ?restr1
                case hyr1 => intro w9 hSw; (try dsimp only at hSw); go_simp; all_goals with_reducible rfl
                try simp only [Act.put, List.setIfInBounds_toArray, List.set_cons_zero, List.set_cons_succ]
                refine wpAnyH_take (i := 2) (v := ?vr2) (held_at (held_s (held_s held_z))) (by kernel_rfl) (by kernel_rfl) (by kernel_rfl) (fun _ _ _ h => h) (Or.inl ⟨by rfl, ?hyr2⟩) (by assumption) ?restr2
                case hyr2 => intro w9 hSw; (try dsimp only at hSw); go_simp; all_goals with_reducible rfl
                try simp only [Act.put, List.setIfInBounds_toArray, List.set_cons_zero, List.set_cons_succ]
                refine wpAnyH_take (i := 3) (v := ?vr3) (held_at (held_s (held_s (held_s held_z)))) (by kernel_rfl) (by kernel_rfl) (by kernel_rfl) (fun _ _ _ h => h) (Or.inl ⟨by rfl, ?hyr3⟩) (by assumption) ?restr3
                case hyr3 => intro w9 hSw; (try dsimp only at hSw); go_simp; all_goals with_reducible rfl
                try simp only [Act.put, List.setIfInBounds_toArray, List.set_cons_zero, List.set_cons_succ]
                refine wpAnyH_take (i := 4) (v := ?vr4) (held_at (held_s (held_s (held_s (held_s held_z))))) (by kernel_rfl) (by kernel_rfl) (by kernel_rfl) (fun _ _ _ h => h) (Or.inl ⟨by rfl, ?hyr4⟩) (by assumption) ?restr4
                case hyr4 => intro w9 hSw; (try dsimp only at hSw); go_simp; all_goals with_reducible rfl
                try simp only [Act.put, List.setIfInBounds_toArray, List.set_cons_zero, List.set_cons_succ]
                refine wpAnyH_take (i := 5) (v := ?vr5) (held_at (held_s (held_s (held_s (held_s (held_s held_z)))))) (by kernel_rfl) (by kernel_rfl) (by kernel_rfl) (fun _ _ _ h => h) (Or.inl ⟨by rfl, ?hyr5⟩) (by assumption) ?restr5
                case hyr5 => intro w9 hSw; (try dsimp only at hSw); go_simp; all_goals with_reducible rfl
                try simp only [Act.put, List.setIfInBounds_toArray, List.set_cons_zero, List.set_cons_succ]
                refine wpAnyH_take (i := 6) (v := ?vr6) (held_at (held_s (held_s (held_s (held_s (held_s (held_s held_z))))))) (by kernel_rfl) (by kernel_rfl) (by kernel_rfl) (fun _ _ _ h => h) (Or.inl ⟨by rfl, ?hyr6⟩) (by assumption) ?restr6
                case hyr6 => intro w9 hSw; (try dsimp only at hSw); go_simp; all_goals with_reducible rfl
                try simp only [Act.put, List.setIfInBounds_toArray, List.set_cons_zero, List.set_cons_succ]
                refine wpAnyH_take (i := 7) (v := ?vr7) (held_at (held_s (held_s (held_s (held_s (held_s (held_s (held_s held_z)))))))) (by kernel_rfl) (by kernel_rfl) (by kernel_rfl) (fun _ _ _ h => h) (Or.inl ⟨by rfl, ?hyr7⟩) (by assumption) ?restr7
                case hyr7 => intro w9 hSw; (try dsimp only at hSw); go_simp; all_goals with_reducible rfl
                try simp only [Act.put, List.setIfInBounds_toArray, List.set_cons_zero, List.set_cons_succ]
                refine wpAnyH_take (i := 8) (v := ?vr8) (held_at (held_s (held_s (held_s (held_s (held_s (held_s (held_s (held_s held_z))))))))) (by kernel_rfl) (by kernel_rfl) (by kernel_rfl) (fun _ _ _ h => h) (Or.inl ⟨by rfl, ?hyr8⟩) (by assumption) ?restr8
                case hyr8 => intro w9 hSw; (try dsimp only at hSw); go_simp; all_goals with_reducible rfl
                try simp only [Act.put, List.setIfInBounds_toArray, List.set_cons_zero, List.set_cons_succ]
                refine wpAnyH_take (i := 9) (v := ?vr9) (held_at (held_s (held_s (held_s (held_s (held_s (held_s (held_s (held_s (held_s held_z)))))))))) (by kernel_rfl) (by kernel_rfl) (by kernel_rfl) (fun _ _ _ h => h) (Or.inl ⟨by rfl, ?hyr9⟩) (by assumption) ?restr9
                case hyr9 => intro w9 hSw; (try dsimp only at hSw); go_simp; all_goals with_reducible rfl
                try simp only [Act.put, List.setIfInBounds_toArray, List.set_cons_zero, List.set_cons_succ]
                refine wpAnyH_take (i := 10) (v := ?vr10) (held_at (held_s (held_s (held_s (held_s (held_s (held_s (held_s (held_s (held_s (held_s held_z))))))))))) (by kernel_rfl) (by kernel_rfl) (by kernel_rfl) (fun _ _ _ h => h) (Or.inl ⟨by rfl, ?hyr10⟩) (by assumption) ?restr10
                case hyr10 => intro w9 hSw; (try dsimp only at hSw); go_simp; all_goals with_reducible rfl
                try simp only [Act.put, List.setIfInBounds_toArray, List.set_cons_zero, List.set_cons_succ]
                refine wpAnyH_take (i := 11) (v := ?vr11) (held_at (held_s (held_s (held_s (held_s (held_s (held_s (held_s (held_s (held_s (held_s (held_s held_z)))))))))))) (by kernel_rfl) (by kernel_rfl) (by kernel_rfl) (fun _ _ _ h => h) (Or.inl ⟨by rfl, ?hyr11⟩) (by assumption) ?restr11
                case hyr11 => intro w9 hSw; (try dsimp only at hSw); go_simp; all_goals with_reducible rfl
                try simp only [Act.put, List.setIfInBounds_toArray, List.set_cons_zero, List.set_cons_succ]
                refine wpAnyH_take (i := 12) (v := ?vr12) (held_at (held_s (held_s (held_s (held_s (held_s (held_s (held_s (held_s (held_s (held_s (held_s (held_s held_z))))))))))))) (by kernel_rfl) (by kernel_rfl) (by kernel_rfl) (fun _ _ _ h => h) (Or.inl ⟨by rfl, ?hyr12⟩) (by assumption) ?restr12
                case hyr12 => intro w9 hSw; (try dsimp only at hSw); go_simp; all_goals with_reducible rfl
                try simp only [Act.put, List.setIfInBounds_toArray, List.set_cons_zero, List.set_cons_succ]
                refine wpAnyH_take (i := 13) (v := ?vr13) (held_at (held_s (held_s (held_s (held_s (held_s (held_s (held_s (held_s (held_s (held_s (held_s (held_s (held_s held_z)))))))))))))) (by kernel_rfl) (by kernel_rfl) (by kernel_rfl) (fun _ _ _ h => h) (Or.inl ⟨by rfl, ?hyr13⟩) (by assumption) ?restr13
                case hyr13 => intro w9 hSw; (try dsimp only at hSw); go_simp; all_goals with_reducible rfl
                try simp only [Act.put, List.setIfInBounds_toArray, List.set_cons_zero, List.set_cons_succ]
                refine wpAnyH_take (i := 14) (v := ?vr14) (held_at (held_s (held_s (held_s (held_s (held_s (held_s (held_s (held_s (held_s (held_s (held_s (held_s (held_s (held_s held_z))))))))))))))) (by kernel_rfl) (by kernel_rfl) (by kernel_rfl) (fun _ _ _ h => h) (Or.inl ⟨by rfl, ?hyr14⟩) (by assumption) ?restr14
                case hyr14 => intro w9 hSw; (try dsimp only at hSw); go_simp; all_goals with_reducible rfl
                try simp only [Act.put, List.setIfInBounds_toArray, List.set_cons_zero, List.set_cons_succ]
                refine wpAnyH_take (i := 15) (v := ?vr15) (held_at (held_s (held_s (held_s (held_s (held_s (held_s (held_s (held_s (held_s (held_s (held_s (held_s (held_s (held_s (held_s held_z)))))))))))))))) (by kernel_rfl) (by kernel_rfl) (by kernel_rfl) (fun _ _ _ h => h) (Or.inl ⟨by rfl, ?hyr15⟩) (by assumption) ?restr15
                case hyr15 => intro w9 hSw; (try dsimp only at hSw); go_simp; all_goals with_reducible rfl
                try simp only [Act.put, List.setIfInBounds_toArray, List.set_cons_zero, List.set_cons_succ]
                refine wpAnyH_ready (rs := [16]) (by kernel_rfl) (by simp) ?_
                refine AllReadyH.cons (held_at (held_s (held_s (held_s (held_s (held_s (held_s (held_s (held_s (held_s (held_s (held_s (held_s (held_s (held_s (held_s (held_s held_z))))))))))))))))) (fun K hK => ?_) AllReadyH.nil
                go_simp
                go_at_call 17; (with_reducible refine (HC1.out _ G).mono ?_); rintro e w' ⟨rfl, F⟩; replace G := G.trans F
                try go_wp2_with fail
                refine hK.out _ _ ?_ (fun hHeld => ?_)
                · exact HS.out _ G
                clear hK K
                try simp only [Act.put, List.setIfInBounds_toArray, List.set_cons_zero, List.set_cons_succ]
                refine wpAnyH_take (i := 17) (v := ?vr17) (held_at (held_s (held_s (held_s (held_s (held_s (held_s (held_s (held_s (held_s (held_s (held_s (held_s (held_s (held_s (held_s (held_s (held_s held_z)))))))))))))))))) (by kernel_rfl) (by kernel_rfl) (by kernel_rfl) (fun _ _ _ h => h) (Or.inl ⟨by rfl, ?hyr17⟩) (by assumption) ?restr17
                case hyr17 => intro w9 hSw; (try dsimp only at hSw); go_simp; all_goals with_reducible rfl
                try simp only [Act.put, List.setIfInBounds_toArray, List.set_cons_zero, List.set_cons_succ]
                refine wpAnyH_take (i := 18) (v := ?vr18) (held_at (held_s (held_s (held_s (held_s (held_s (held_s (held_s (held_s (held_s (held_s (held_s (held_s (held_s (held_s (held_s (held_s (held_s (held_s held_z))))))))))))))))))) (by kernel_rfl) (by kernel_rfl) (by kernel_rfl) (fun _ _ _ h => h) (Or.inl ⟨by rfl, ?hyr18⟩) (by assumption) ?restr18
                case hyr18 => intro w9 hSw; (try dsimp only at hSw); go_simp; all_goals with_reducible rfl
                try simp only [Act.put, List.setIfInBounds_toArray, List.set_cons_zero, List.set_cons_succ]
                refine wpAnyH_take (i := 19) (v := undef) (held_at (held_s (held_s (held_s (held_s (held_s (held_s (held_s (held_s (held_s (held_s (held_s (held_s (held_s (held_s (held_s (held_s (held_s (held_s (held_s held_z)))))))))))))))))))) (by kernel_rfl) (by kernel_rfl) (by kernel_rfl) (fun _ _ _ h => h) (Or.inr ⟨by rfl, rfl⟩) (by assumption) ?_
                try simp only [Act.put, List.setIfInBounds_toArray, List.set_cons_zero, List.set_cons_succ]
                refine wpAnyH_take (i := 20) (v := undef) (held_at (held_s (held_s (held_s (held_s (held_s (held_s (held_s (held_s (held_s (held_s (held_s (held_s (held_s (held_s (held_s (held_s (held_s (held_s (held_s (held_s held_z))))))))))))))))))))) (by kernel_rfl) (by kernel_rfl) (by kernel_rfl) (fun _ _ _ h => h) (Or.inr ⟨by rfl, rfl⟩) (by assumption) ?_
                try simp only [Act.put, List.setIfInBounds_toArray, List.set_cons_zero, List.set_cons_succ]
                refine wpAnyH_take (i := 21) (v := undef) (held_at (held_s (held_s (held_s (held_s (held_s (held_s (held_s (held_s (held_s (held_s (held_s (held_s (held_s (held_s (held_s (held_s (held_s (held_s (held_s (held_s (held_s held_z)))))))))))))))))))))) (by kernel_rfl) (by kernel_rfl) (by kernel_rfl) (fun _ _ _ h => h) (Or.inr ⟨by rfl, rfl⟩) (by assumption) ?_
                try simp only [Act.put, List.setIfInBounds_toArray, List.set_cons_zero, List.set_cons_succ]
                refine wpAnyH_take (i := 22) (v := undef) (held_at (held_s (held_s (held_s (held_s (held_s (held_s (held_s (held_s (held_s (held_s (held_s (held_s (held_s (held_s (held_s (held_s (held_s (held_s (held_s (held_s (held_s (held_s held_z))))))))))))))))))))))) (by kernel_rfl) (by kernel_rfl) (by kernel_rfl) (fun _ _ _ h => h) (Or.inr ⟨by rfl, rfl⟩) (by assumption) ?_
                try simp only [Act.put, List.setIfInBounds_toArray, List.set_cons_zero, List.set_cons_succ]
                refine wpAnyH_take (i := 23) (v := undef) (held_at (held_s (held_s (held_s (held_s (held_s (held_s (held_s (held_s (held_s (held_s (held_s (held_s (held_s (held_s (held_s (held_s (held_s (held_s (held_s (held_s (held_s (held_s (held_s held_z)))))))))))))))))))))))) (by kernel_rfl) (by kernel_rfl) (by kernel_rfl) (fun _ _ _ h => h) (Or.inr ⟨by rfl, rfl⟩) (by assumption) ?_
                try simp only [Act.put, List.setIfInBounds_toArray, List.set_cons_zero, List.set_cons_succ]
                refine wpAnyH_take (i := 24) (v := undef) (held_at (held_s (held_s (held_s (held_s (held_s (held_s (held_s (held_s (held_s (held_s (held_s (held_s (held_s (held_s (held_s (held_s (held_s (held_s (held_s (held_s (held_s (held_s (held_s (held_s held_z))))))))))))))))))))))))) (by kernel_rfl) (by kernel_rfl) (by kernel_rfl) (fun _ _ _ h => h) (Or.inr ⟨by rfl, rfl⟩) (by assumption) ?_
                try simp only [Act.put, List.setIfInBounds_toArray, List.set_cons_zero, List.set_cons_succ]
                refine wpAnyH_take (i := 25) (v := undef) (held_at (held_s (held_s (held_s (held_s (held_s (held_s (held_s (held_s (held_s (held_s (held_s (held_s (held_s (held_s (held_s (held_s (held_s (held_s (held_s (held_s (held_s (held_s (held_s (held_s (held_s held_z)))))))))))))))))))))))))) (by kernel_rfl) (by kernel_rfl) (by kernel_rfl) (fun _ _ _ h => h) (Or.inr ⟨by rfl, rfl⟩) (by assumption) ?_
                try simp only [Act.put, List.setIfInBounds_toArray, List.set_cons_zero, List.set_cons_succ]
                refine wpAnyH_take (i := 26) (v := undef) (held_at (held_s (held_s (held_s (held_s (held_s (held_s (held_s (held_s (held_s (held_s (held_s (held_s (held_s (held_s (held_s (held_s (held_s (held_s (held_s (held_s (held_s (held_s (held_s (held_s (held_s (held_s held_z))))))))))))))))))))))))))) (by kernel_rfl) (by kernel_rfl) (by kernel_rfl) (fun _ _ _ h => h) (Or.inr ⟨by rfl, rfl⟩) (by assumption) ?_
                try simp only [Act.put, List.setIfInBounds_toArray, List.set_cons_zero, List.set_cons_succ]
                refine wpAnyH_take (i := 27) (v := undef) (held_at (held_s (held_s (held_s (held_s (held_s (held_s (held_s (held_s (held_s (held_s (held_s (held_s (held_s (held_s (held_s (held_s (held_s (held_s (held_s (held_s (held_s (held_s (held_s (held_s (held_s (held_s (held_s held_z)))))))))))))))))))))))))))) (by kernel_rfl) (by kernel_rfl) (by kernel_rfl) (fun _ _ _ h => h) (Or.inr ⟨by rfl, rfl⟩) (by assumption) ?_
                try simp only [Act.put, List.setIfInBounds_toArray, List.set_cons_zero, List.set_cons_succ]
                refine wpAnyH_take (i := 28) (v := undef) (held_at (held_s (held_s (held_s (held_s (held_s (held_s (held_s (held_s (held_s (held_s (held_s (held_s (held_s (held_s (held_s (held_s (held_s (held_s (held_s (held_s (held_s (held_s (held_s (held_s (held_s (held_s (held_s (held_s held_z))))))))))))))))))))))))))))) (by kernel_rfl) (by kernel_rfl) (by kernel_rfl) (fun _ _ _ h => h) (Or.inr ⟨by rfl, rfl⟩) (by assumption) ?_
                try simp only [Act.put, List.setIfInBounds_toArray, List.set_cons_zero, List.set_cons_succ]
                refine wpAnyH_take (i := 29) (v := undef) (held_at (held_s (held_s (held_s (held_s (held_s (held_s (held_s (held_s (held_s (held_s (held_s (held_s (held_s (held_s (held_s (held_s (held_s (held_s (held_s (held_s (held_s (held_s (held_s (held_s (held_s (held_s (held_s (held_s (held_s held_z)))))))))))))))))))))))))))))) (by kernel_rfl) (by kernel_rfl) (by kernel_rfl) (fun _ _ _ h => h) (Or.inr ⟨by rfl, rfl⟩) (by assumption) ?_
                try simp only [Act.put, List.setIfInBounds_toArray, List.set_cons_zero, List.set_cons_succ]
                refine wpAnyH_take (i := 30) (v := undef) (held_at (held_s (held_s (held_s (held_s (held_s (held_s (held_s (held_s (held_s (held_s (held_s (held_s (held_s (held_s (held_s (held_s (held_s (held_s (held_s (held_s (held_s (held_s (held_s (held_s (held_s (held_s (held_s (held_s (held_s (held_s held_z))))))))))))))))))))))))))))))) (by kernel_rfl) (by kernel_rfl) (by kernel_rfl) (fun _ _ _ h => h) (Or.inr ⟨by rfl, rfl⟩) (by assumption) ?_
                try simp only [Act.put, List.setIfInBounds_toArray, List.set_cons_zero, List.set_cons_succ]
                refine wpAnyH_take (i := 31) (v := undef) (held_at (held_s (held_s (held_s (held_s (held_s (held_s (held_s (held_s (held_s (held_s (held_s (held_s (held_s (held_s (held_s (held_s (held_s (held_s (held_s (held_s (held_s (held_s (held_s (held_s (held_s (held_s (held_s (held_s (held_s (held_s (held_s held_z)))))))))))))))))))))))))))))))) (by kernel_rfl) (by kernel_rfl) (by kernel_rfl) (fun _ _ _ h => h) (Or.inr ⟨by rfl, rfl⟩) (by assumption) ?_
                try simp only [Act.put, List.setIfInBounds_toArray, List.set_cons_zero, List.set_cons_succ]
                refine wpAnyH_take (i := 32) (v := undef) (held_at (held_s (held_s (held_s (held_s (held_s (held_s (held_s (held_s (held_s (held_s (held_s (held_s (held_s (held_s (held_s (held_s (held_s (held_s (held_s (held_s (held_s (held_s (held_s (held_s (held_s (held_s (held_s (held_s (held_s (held_s (held_s (held_s held_z))))))))))))))))))))))))))))))))) (by kernel_rfl) (by kernel_rfl) (by kernel_rfl) (fun _ _ _ h => h) (Or.inr ⟨by rfl, rfl⟩) (by assumption) ?_
                try simp only [Act.put, List.setIfInBounds_toArray, List.set_cons_zero, List.set_cons_succ]
                refine wpAnyH_take (i := 33) (v := undef) (held_at (held_s (held_s (held_s (held_s (held_s (held_s (held_s (held_s (held_s (held_s (held_s (held_s (held_s (held_s (held_s (held_s (held_s (held_s (held_s (held_s (held_s (held_s (held_s (held_s (held_s (held_s (held_s (held_s (held_s (held_s (held_s (held_s (held_s held_z)))))))))))))))))))))))))))))))))) (by kernel_rfl) (by kernel_rfl) (by kernel_rfl) (fun _ _ _ h => h) (Or.inr ⟨by rfl, rfl⟩) (by assumption) ?_
                try simp only [Act.put, List.setIfInBounds_toArray, List.set_cons_zero, List.set_cons_succ]
                refine wpAnyH_take (i := 34) (v := undef) (held_at (held_s (held_s (held_s (held_s (held_s (held_s (held_s (held_s (held_s (held_s (held_s (held_s (held_s (held_s (held_s (held_s (held_s (held_s (held_s (held_s (held_s (held_s (held_s (held_s (held_s (held_s (held_s (held_s (held_s (held_s (held_s (held_s (held_s (held_s held_z))))))))))))))))))))))))))))))))))) (by kernel_rfl) (by kernel_rfl) (by kernel_rfl) (fun _ _ _ h => h) (Or.inr ⟨by rfl, rfl⟩) (by assumption) ?_
                try simp only [Act.put, List.setIfInBounds_toArray, List.set_cons_zero, List.set_cons_succ]
                refine wpAnyH_take (i := 35) (v := undef) (held_at (held_s (held_s (held_s (held_s (held_s (held_s (held_s (held_s (held_s (held_s (held_s (held_s (held_s (held_s (held_s (held_s (held_s (held_s (held_s (held_s (held_s (held_s (held_s (held_s (held_s (held_s (held_s (held_s (held_s (held_s (held_s (held_s (held_s (held_s (held_s held_z)))))))))))))))))))))))))))))))))))) (by kernel_rfl) (by kernel_rfl) (by kernel_rfl) (fun _ _ _ h => h) (Or.inr ⟨by rfl, rfl⟩) (by assumption) ?_
                try simp only [Act.put, List.setIfInBounds_toArray, List.set_cons_zero, List.set_cons_succ]
                refine wpAnyH_take (i := 36) (v := undef) (held_at (held_s (held_s (held_s (held_s (held_s (held_s (held_s (held_s (held_s (held_s (held_s (held_s (held_s (held_s (held_s (held_s (held_s (held_s (held_s (held_s (held_s (held_s (held_s (held_s (held_s (held_s (held_s (held_s (held_s (held_s (held_s (held_s (held_s (held_s (held_s (held_s held_z))))))))))))))))))))))))))))))))))))) (by kernel_rfl) (by kernel_rfl) (by kernel_rfl) (fun _ _ _ h => h) (Or.inr ⟨by rfl, rfl⟩) (by assumption) ?_
                try simp only [Act.put, List.setIfInBounds_toArray, List.set_cons_zero, List.set_cons_succ]
                refine wpAnyH_take (i := 37) (v := ?vr37) (held_at (held_s (held_s (held_s (held_s (held_s (held_s (held_s (held_s (held_s (held_s (held_s (held_s (held_s (held_s (held_s (held_s (held_s (held_s (held_s (held_s (held_s (held_s (held_s (held_s (held_s (held_s (held_s (held_s (held_s (held_s (held_s (held_s (held_s (held_s (held_s (held_s (held_s held_z)))))))))))))))))))))))))))))))))))))) (by kernel_rfl) (by kernel_rfl) (by kernel_rfl) (fun _ _ _ h => h) (Or.inl ⟨by rfl, ?hyr37⟩) (by assumption) ?restr37
                case hyr37 => intro w9 hSw; (try dsimp only at hSw); go_simp; all_goals with_reducible rfl
                try simp only [Act.put, List.setIfInBounds_toArray, List.set_cons_zero, List.set_cons_succ]
                refine wpAnyH_done (by kernel_rfl) ?_ _
                all_goals
                  go_wp2_with fail
                  go_ret
                  exact ⟨by rw [HNE.out]; rfl, G⟩
              | true =>
                cases d2 with
                | false =>
                  have hne : n ≠ m := ne_at HRI.out HSI.out (ne_at HPI.out HQI.out (fun e => by have := of_decide_eq_false HD2.out; rw [e] at this; exact this rfl))
                  have HNE := Lib.hid (decide_eq_false hne)
                  clear hne
                  go_region_held3 (fun w' => w'.cell? ⟨b, off + i, none⟩ = some (.slice (some ⟨b1, o1, none⟩) r.length cr) ∧ w'.cell? ⟨b', off' + i, none⟩ = some (.slice (some ⟨b2, o2, none⟩) s.length cs) ∧ w'.cell? ⟨b1, o1 + k * 2, none⟩ = some (.slice ax p.o.length cx) ∧ w'.cell? ⟨b1, o1 + k * 2 + 1, none⟩ = some (.slice ay p.b.length cy) ∧ w'.cell? ⟨b2, o2 + k * 2, none⟩ = some (.slice ax' q.o.length cx') ∧ w'.cell? ⟨b2, o2 + k * 2 + 1, none⟩ = some (.slice ay' q.b.length cy')) (exact HS.out _ G) (first
                    | (go_at_call 17; refine (HC1.out _ G).mono ?_; rintro e w' ⟨rfl, F⟩; replace G := G.trans F)
                    | (go_at_call 43; refine (HC2.out _ G).mono ?_; rintro e w' ⟨rfl, F⟩; replace G := G.trans F))
                  all_goals
                    go_wp2_with fail
                    go_ret
                    exact ⟨by rw [HNE.out]; rfl, G⟩
                | true =>
                  have hpq : p = q := Part.ext2 (of_decide_eq_true HD1.out) (of_decide_eq_true HD2.out)
                  have HNT := Lib.hid (take_next HT2.out HPI.out (by rw [hpq]; exact HQI.out))
                  clear hpq
                  go_region_held3 (fun w' => w'.cell? ⟨b, off + i, none⟩ = some (.slice (some ⟨b1, o1, none⟩) r.length cr) ∧ w'.cell? ⟨b', off' + i, none⟩ = some (.slice (some ⟨b2, o2, none⟩) s.length cs) ∧ w'.cell? ⟨b1, o1 + k * 2, none⟩ = some (.slice ax p.o.length cx) ∧ w'.cell? ⟨b1, o1 + k * 2 + 1, none⟩ = some (.slice ay p.b.length cy) ∧ w'.cell? ⟨b2, o2 + k * 2, none⟩ = some (.slice ax' q.o.length cx') ∧ w'.cell? ⟨b2, o2 + k * 2 + 1, none⟩ = some (.slice ay' q.b.length cy')) (exact HS.out _ G) (first
                    | (go_at_call 17; refine (HC1.out _ G).mono ?_; rintro e w' ⟨rfl, F⟩; replace G := G.trans F)
                    | (go_at_call 43; refine (HC2.out _ G).mono ?_; rintro e w' ⟨rfl, F⟩; replace G := G.trans F))
                  all_goals
                    go_wp2_with fail
                    go_roundg (r.length - (k + 1))
                    case measure => rw [HG2.out]; omega
                    case rel => exact ⟨k + 1, rfl, by omega, by go_num, HNT.out, G⟩
            · obtain rfl : k = r.length := by omega
              have hrs : r = s := eq_of_take HL2.out HT2.out
              have HNT := Lib.hid (take_next HT.out HRI.out (by rw [hrs]; exact HSI.out))
              clear hrs
              go_wp2_with fail
              go_roundg (n.length - (i + 1))
              case measure => rw [HG.out]; omega
              case rel => exact ⟨i + 1, rfl, by omega, by go_num, HNT.out, F⟩
        · have q1 : ((r.length : Int) != (s.length : Int)) = true := by simp; omega
          have q2 : (r.length != s.length) = true := by simpa using hl2
          have q3 : ((r.length : Int) == (s.length : Int)) = false := by simp; omega
          have q4 : (r.length == s.length) = false := by simpa using hl2
          have hne : n ≠ m := ne_at HRI.out HSI.out (fun e => hl2 (by rw [e]))
          have HNE := Lib.hid (decide_eq_false hne)
          clear hne hl2
          go_upto_region 6 with fail
          go_quiet (fail)
          have HF1 := Lib.hid (HF.out.drewN nq)
          generalize (wr.drewN nq) = w1 at *
          go_wp2_with fail
          go_ret
          exact ⟨by rw [HNE.out]; rfl, HF1.out⟩
      · obtain rfl : i = n.length := by omega
        have hnm : n = m := eq_of_take HLEN.out HT.out
        have HNM := Lib.hid (decide_eq_true hnm)
        clear hnm
        go_wp2_with fail
        go_ret
        exact ⟨by rw [HNM.out]; rfl, F⟩
  · have q1 : ((n.length : Int) != (m.length : Int)) = true := by simp; omega
    have q2 : (n.length != m.length) = true := by simpa using hlen
    have q3 : ((n.length : Int) == (m.length : Int)) = false := by simp; omega
    have q4 : (n.length == m.length) = false := by simpa using hlen
    have hne : n ≠ m := fun e => hlen (by rw [e])
    have HNE := Lib.hid (decide_eq_false hne)
    clear hne hlen
    go_enter Tryz.func24, Tryz.ntmps24
    go_wp2_with fail
    go_ret
    exact ⟨by rw [HNE.out]; rfl, Fr.refl _⟩
end Go.Proofs.YtgffhiopbnkjbaaGreatDoor

namespace Go.Q
open Go Go.RowKit
/-- The value, the place, the error of a reading. -/
def nmVal : Except Int (List (List Part) × Nat) → List (List Part) | .ok (n, _) => n | .error _ => []
def stVal : Except Int (List Part × Nat) → List Part | .ok (n, _) => n | .error _ => []
def psVal : Except Int (List (List Part)) → List (List Part) | .ok n => n | .error _ => []
def atOf {α : Type} : Except Int (α × Nat) → Nat | .ok (_, k) => k | .error _ => 0
def errOf {α : Type} : Except Int α → Int | .ok _ => 0 | .error x => x
theorem NameAt.nil0 (w : World) : NameAt w (.slice none 0 0) [] := ⟨none, 0, rfl, Nat.le_refl _, Nat.zero_le _, fun h => absurd h (Nat.lt_irrefl _)⟩
theorem Attrs.nil0 (w : World) : Attrs w (.slice none 0 0) [] := ⟨none, 0, rfl, Nat.le_refl _, Nat.zero_le _, fun h => absurd h (Nat.lt_irrefl _)⟩
/-- A name of one step in memory. -/
theorem NameAt.one {w : World} {g : Nat} {t : TypeId} {u : Value} {r : List Part} (B : Blk w g t #[u]) (h : Attrs w u r) : NameAt w (.slice (some ⟨g, 0, none⟩) 1 1) [r] :=
  ⟨_, 1, rfl, Nat.le_refl _, by unfold maxLen; omega, fun _ => ⟨g, 0, rfl, fun i q hq => by
    match i, hq with
    | 0, hq =>
      simp only [List.getElem?_cons_zero, Option.some.injEq] at hq
      subst hq
      exact ⟨u, B.cell 0, h⟩
    | i + 1, hq => simp at hq⟩⟩
end Go.Q
namespace Go.Proofs.YtgffhiopbnkjbaaGreatDoor
open Go Go.RowKit Go.Q
theorem like_self (v u : Value) (n : List (List Part)) (w : World) (h : NameAt w v n) (hu : NameAt w u n) :
    Calls Tryz.prog 24 #[v, u] w fun e w' => e = .returned (.bool true) ∧ Fr (fun _ => False) w w' := by
  have := r14Like_any v u n n w h hu
  rwa [decide_eq_true rfl] at this

end Go.Proofs.YtgffhiopbnkjbaaGreatDoor

namespace Go.Proofs.YtgffhiopbnkjbaaGreatDoor
open Go Go.RowKit Go.Q
theorem str_size (l : List UInt8) : (ByteArray.mk l.toArray).size = l.length := by simp [ByteArray.size]
theorem str_to (l : List UInt8) (c : Nat) (hc : c ≤ l.length) (w : World) : (Instr.slice 9 (str l) none (some (.int .i64 (c : Int))) none).run Tryz.prog w = .ok (str (l.take c)) w := by
  rw [run_slice_string_to_if w 9 _ .i64 _ Tryz.underlying9, if_pos ⟨by omega, by rw [str_size]; omega⟩, ByteArray.extract_mk]
  simp
theorem str_from (l : List UInt8) (c : Nat) (hc : c ≤ l.length) (w : World) : (Instr.slice 9 (str l) (some (.int .i64 (c : Int))) none none).run Tryz.prog w = .ok (str (l.drop c)) w := by
  rw [run_slice_string_from_if w 9 _ .i64 _ Tryz.underlying9, if_pos ⟨by omega, by rw [str_size]; omega⟩, ByteArray.extract_mk, str_size, Int.toNat_natCast, List.take_of_length_le (by rw [List.length_drop]; omega)]
theorem str_one {l : List UInt8} {c : Nat} {x : UInt8} (h : l[c]? = some x) (w : World) : (Instr.slice 9 (str l) (some (.int .i64 (c : Int))) (some (.int .i64 ((c : Int) + 1))) none).run Tryz.prog w = .ok (str [x]) w := by
  obtain ⟨hl, rfl⟩ := List.getElem?_eq_some_iff.1 h
  rw [run_slice_string w 9 _ .i64 .i64 _ _ Tryz.underlying9 (by omega) (by omega) (by rw [str_size]; omega), ByteArray.extract_mk]
  rw [show ((c : Int) + 1).toNat - ((c : Int)).toNat = 1 from by omega, Int.toNat_natCast, List.drop_eq_getElem_cons hl]
  rfl
theorem str_index {l : List UInt8} {c : Nat} {x : UInt8} (h : l[c]? = some x) (w : World) : (Instr.index 9 (str l) (.int .i64 (c : Int))).run Tryz.prog w = .ok (.int .u8 x.toNat) w := by
  obtain ⟨hl, rfl⟩ := List.getElem?_eq_some_iff.1 h
  rw [run_index_string w 9 _ .i64 _ Tryz.underlying9, dif_pos ⟨by omega, by rw [str_size]; omega⟩]
  simp
  rfl
end Go.Proofs.YtgffhiopbnkjbaaGreatDoor

namespace Go.Q
open Go Go.RowKit
/-- A text's numbers, sign by sign. -/
def fromGo (one : List UInt8) : List UInt8 → Option (List Int)
  | [] => match numTextS one with
    | none => none
    | some n => some [(n : Int)]
  | x :: t => if x = 46 then (match numTextS one with
      | none => none
      | some n => (fromGo [] t).map ((n : Int) :: ·)) else fromGo (one ++ [x]) t
theorem cutAt_ne (c : UInt8) (l : List UInt8) : ∃ h t, cutAt c l = h :: t := by
  cases l with
  | nil => exact ⟨[], [], rfl⟩
  | cons x t =>
    unfold cutAt
    split
    · exact ⟨_, _, rfl⟩
    · split
      · exact ⟨_, _, rfl⟩
      · exact ⟨_, _, rfl⟩
theorem fromGo_eq : ∀ (l one : List UInt8), fromGo one l = match cutAt 46 l with
    | [] => none
    | h :: t => numsOf ((one ++ h) :: t)
  | [], one => by
    unfold fromGo
    simp only [cutAt, List.append_nil, numsOf]
    cases numTextS one <;> rfl
  | x :: t, one => by
    unfold fromGo
    have ih := fromGo_eq t
    obtain ⟨h, r, hc⟩ := cutAt_ne 46 t
    by_cases hx : x = 46
    · subst hx
      have e : cutAt 46 (46 :: t) = [] :: cutAt 46 t := by rw [cutAt]; exact if_pos rfl
      rw [if_pos rfl, ih, e, hc]
      simp only [List.append_nil, numsOf, List.nil_append]
      cases numTextS one <;> rfl
    · have e : cutAt 46 (x :: t) = (x :: h) :: r := by rw [cutAt, if_neg hx, hc]
      rw [if_neg hx, ih, e, hc]
      simp
theorem fromText_go (l : List UInt8) : fromTextS l = match fromGo [] l with
    | none => .error 6
    | some o => if oidOk o = true then .ok o else .error 1 := by
  unfold fromTextS
  rw [fromGo_eq]
  obtain ⟨h, r, hc⟩ := cutAt_ne 46 l
  rw [hc]
  rfl
theorem fromGo_on {l one : List UInt8} {i : Nat} {x : UInt8} (h : l[i]? = some x) (hx : x ≠ 46) : fromGo one (l.drop i) = fromGo (one ++ [x]) (l.drop (i + 1)) := by
  obtain ⟨hl, rfl⟩ := List.getElem?_eq_some_iff.1 h
  rw [List.drop_eq_getElem_cons hl, fromGo, if_neg hx]
theorem fromGo_cut {l one : List UInt8} {i : Nat} {n : Nat} (h : l[i]? = some 46) (hn : numTextS one = some n) : fromGo one (l.drop i) = (fromGo [] (l.drop (i + 1))).map ((n : Int) :: ·) := by
  obtain ⟨hl, h46⟩ := List.getElem?_eq_some_iff.1 h
  rw [List.drop_eq_getElem_cons hl, fromGo, if_pos h46, hn]
theorem fromGo_bad {l one : List UInt8} {i : Nat} (h : l[i]? = some 46 ∨ i = l.length) (hn : numTextS one = none) : fromGo one (l.drop i) = none := by
  rcases h with h | h
  · obtain ⟨hl, h46⟩ := List.getElem?_eq_some_iff.1 h
    rw [List.drop_eq_getElem_cons hl, fromGo, if_pos h46, hn]
  · rw [h, List.drop_length, fromGo, hn]
theorem fromGo_end {l one : List UInt8} {n : Nat} (hn : numTextS one = some n) : fromGo one (l.drop l.length) = some [(n : Int)] := by
  rw [List.drop_length, fromGo, hn]
end Go.Q
namespace Go.Proofs.YtgffhiopbnkjbaaGreatDoor
open Go Go.RowKit Go.Q
set_option linter.unusedSimpArgs false

set_option maxRecDepth 20000 in
set_option maxHeartbeats 8000000 in
theorem r04FromText_any (l : List UInt8) (w : World) (hlim : l.length ≤ 1000000000) :
    Calls Tryz.prog 57 #[str l] w fun e w' => fromTextOut w w' l e ∧ Fr (fun _ => False) w w' := by
  have HFT := Lib.hid (fromText_go l)
  have hls := str_size l
  go_enter Tryz.func57, Tryz.ntmps57
  go_wp2_with fail
  go_loopg [4, 5, 6] (l.length + 1) (fun g oo on ii wr => ∃ (i : Nat) (os : List Int) (one : List UInt8) (a : Option Addr) (c : Nat), g = l.length + 1 - i ∧ i ≤ l.length + 1 ∧ oo = .slice a os.length c ∧ on = str one ∧ ii = .int .i64 i ∧ one.length ≤ i ∧ os.length ≤ i ∧ wr.ownsRow w.heap.size 3 1 (.slice a os.length c) os.length (intCells os) ∧ Fr (fun _ => False) w wr ∧ ((i ≤ l.length ∧ fromGo [] l = (fromGo one (l.drop i)).map (os ++ ·)) ∨ (i = l.length + 1 ∧ fromGo [] l = some os)))
  case atStart => exact ⟨0, [], [], none, 0, rfl, Nat.zero_le _, rfl, rfl, rfl, Nat.zero_le _, Nat.zero_le _, ⟨rfl, .inl ⟨rfl, rfl⟩⟩, Fr.refl _, .inl ⟨Nat.zero_le _, by simp⟩⟩
  case round =>
    obtain ⟨i, os, one, a, c, hg, hi, rfl, rfl, rfl, hone, hos, hown, F, hst⟩ := hrel
    have HG := Lib.hid hg
    have HOW := Lib.hid hown
    have HF := Lib.hid F
    have hbk := (Vals.of_own hown).2
    have HBK := Lib.hid hbk
    have hos1 := str_size one
    clear hg hown hbk
    rcases hst with ⟨hil, hgo⟩ | ⟨rfl, hgo⟩
    · have HGO := Lib.hid hgo
      have q1 : (i : Int) ≤ (l.length : Int) := by omega
      clear hgo hi
      by_cases hon : ∃ x, l[i]? = some x ∧ x ≠ 46
      · obtain ⟨x, hx, hx46⟩ := hon
        have hil2 : i < l.length := (List.getElem?_eq_some_iff.1 hx).1
        have q2 : (i : Int) < (l.length : Int) := by omega
        have hix := str_index hx
        have hsl := str_one hx
        have HNX := Lib.hid (fromGo_on (one := one) hx hx46)
        have hxn : x.toNat ≠ 46 := fun e => hx46 (UInt8.toNat_inj.1 e)
        have q3 : ((x.toNat : Int) != 46) = true := by simp; omega
        have q4 : ((x.toNat : Int) == 46) = false := beq_eq_false_iff_ne.2 (by omega)
        have q5 : (x.toNat == 46) = false := beq_eq_false_iff_ne.2 hxn
        have q6 : (x.toNat != 46) = true := by simpa using hxn
        have h1s : (ByteArray.mk [x].toArray).size = 1 := rfl
        clear hx hx46 hxn
        generalize x.toNat = y at *
        go_wp2_with fail
        go_roundg (l.length + 1 - (i + 1))
        case measure => rw [HG.out]; omega
        case rel => exact ⟨i + 1, os, one ++ [x], a, c, rfl, by omega, rfl, congrArg Value.string (ba_cat _ _), by go_num, by rw [List.length_append]; simp; omega, by omega, HOW.out, F, .inl ⟨by omega, by rw [HGO.out, HNX.out]⟩⟩
      · have hstop : l[i]? = some 46 ∨ i = l.length := by
          rcases Nat.lt_or_ge i l.length with h | h
          · obtain ⟨x, hx⟩ : ∃ x, l[i]? = some x := ⟨_, List.getElem?_eq_getElem h⟩
            by_cases h46 : x = 46
            · subst h46; exact .inl hx
            · exact absurd ⟨x, hx, h46⟩ hon
          · exact .inr (by omega)
        have HST := Lib.hid hstop
        clear hon
        rcases hstop with hx | hend
        case' inl =>
          have hil2 : i < l.length := (List.getElem?_eq_some_iff.1 hx).1
          have q2 : (i : Int) < (l.length : Int) := by omega
          have hix := str_index hx
          clear hx
          go_upto_region 8 with fail
          clear hix q2 hil2
        case' inr =>
          have q2 : ¬ (i : Int) < (l.length : Int) := by omega
          clear hend
          go_upto_region 8 with fail
          clear q2
        all_goals
          by_cases hbad : one.length = 0 ∨ 10 < one.length ∨ (one.head? = some 48 ∧ 1 < one.length)
          · have hN : numTextS one = none := by unfold numTextS; rw [if_pos hbad]
            have hres : fromTextS l = .error 6 := by rw [HFT.out, HGO.out, fromGo_bad HST.out hN]; rfl
            have HRES := Lib.hid hres
            clear hN hres
            by_cases h0 : one.length = 0
            · have q3 : (one.length : Int) < 1 := by omega
              clear hbad h0
              go_wp2_with fail
              refine bodyPost_ret (v := .tuple #[.slice none 0 0, .int .i64 6]) (by simp [results, Tryz.results57, go_sem]) rfl ⟨?_, HF.out⟩
              unfold fromTextOut
              rw [HRES.out]
              exact ⟨rfl, by decide⟩
            · have q3 : ¬ (one.length : Int) < 1 := by omega
              by_cases h10 : 10 < one.length
              · have q4 : (10 : Int) < (one.length : Int) := by omega
                clear hbad h0
                go_wp2_with fail
                refine bodyPost_ret (v := .tuple #[.slice none 0 0, .int .i64 6]) (by simp [results, Tryz.results57, go_sem]) rfl ⟨?_, HF.out⟩
                unfold fromTextOut
                rw [HRES.out]
                exact ⟨rfl, by decide⟩
              · have q4 : ¬ (10 : Int) < (one.length : Int) := by omega
                have h48 : one[0]? = some 48 ∧ 1 < one.length := by
                  rcases hbad with h | h | h
                  · exact absurd h h0
                  · exact absurd h h10
                  · exact ⟨by rw [← List.head?_eq_getElem?]; exact h.1, h.2⟩
                obtain ⟨h48, h1⟩ := h48
                have q5 : (1 : Int) < (one.length : Int) := by omega
                have hix : ∀ w, (Instr.index 9 (str one) (.int .i64 0)).run Tryz.prog w = .ok (.int .u8 48) w := fun w => str_index h48 w
                clear hbad h0 h48 h10
                go_wp2_with fail
                refine bodyPost_ret (v := .tuple #[.slice none 0 0, .int .i64 6]) (by simp [results, Tryz.results57, go_sem]) rfl ⟨?_, HF.out⟩
                unfold fromTextOut
                rw [HRES.out]
                exact ⟨rfl, by decide⟩
          · have hN : numTextS one = if one.all digB = true then some (numVal one) else none := by unfold numTextS; rw [if_neg hbad]
            have HN := Lib.hid hN
            have h0 : one.length ≠ 0 := fun h => hbad (.inl h)
            have h10 : one.length ≤ 10 := by
              rcases Nat.lt_or_ge 10 one.length with h | h
              · exact absurd (.inr (.inl h)) hbad
              · exact h
            have q3 : ¬ (one.length : Int) < 1 := by omega
            have q4 : ¬ (10 : Int) < (one.length : Int) := by omega
            obtain ⟨x0, hx0⟩ : ∃ x, one[0]? = some x := ⟨_, List.getElem?_eq_getElem (by omega)⟩
            have hix : ∀ w, (Instr.index 9 (str one) (.int .i64 0)).run Tryz.prog w = .ok (.int .u8 x0.toNat) w := fun w => str_index hx0 w
            have hcase : (((x0.toNat : Int) == 48) = false ∧ (x0.toNat == 48) = false) ∨ (((x0.toNat : Int) == 48) = true ∧ (x0.toNat == 48) = true ∧ ¬ (1 : Int) < (one.length : Int)) := by
              by_cases h : x0 = 48
              · subst h
                refine .inr ⟨rfl, rfl, fun h1 => hbad (.inr (.inr ⟨by rw [List.head?_eq_getElem?]; exact hx0, by omega⟩))⟩
              · have hne : x0.toNat ≠ 48 := fun e => h (UInt8.toNat_inj.1 e)
                exact .inl ⟨beq_eq_false_iff_ne.2 (by omega), beq_eq_false_iff_ne.2 hne⟩
            clear hbad hN hx0 h0
            generalize x0.toNat = y0 at *
            obtain ⟨wo, hwo⟩ : ∃ wo : World, wo = wr := ⟨_, rfl⟩
            obtain rfl := hwo
            rcases hcase with ⟨h48, h48'⟩ | ⟨h48, h48', h1⟩
            all_goals
              go_upto_region 10 with fail
              clear hix h48 h48'
              go_wp2_with fail
              go_loopg [7, 8] one.length (fun g nn kk wr => ∃ k : Nat, g = one.length - k ∧ k ≤ one.length ∧ nn = .int .i64 (numVal (one.take k)) ∧ kk = .int .i64 k ∧ (one.take k).all digB = true ∧ wr = wo)
              case atStart => exact ⟨0, rfl, Nat.zero_le _, rfl, rfl, rfl, rfl⟩
              case round =>
                obtain ⟨k, hg, hk, rfl, rfl, had, rfl⟩ := hrel
                have HG2 := Lib.hid hg
                have HAD := Lib.hid had
                have hv0 := numVal_small had (by rw [List.length_take]; omega)
                clear hg had
                by_cases hkl : k < one.length
                · obtain ⟨x, hx⟩ : ∃ x, one[k]? = some x := ⟨_, List.getElem?_eq_getElem hkl⟩
                  have hix2 := str_index hx
                  have HNT := Lib.hid (numVal_take hx)
                  have hall : (one.take (k + 1)).all digB = digB x := by
                    rw [List.take_add_one, hx]
                    simp [HAD.out]
                  have HALL := Lib.hid hall
                  have hdx : digB x = decide (48 ≤ x.toNat ∧ x.toNat ≤ 57) := rfl
                  have HM := Lib.hid (List.mem_of_getElem? hx)
                  have hxl := x.toNat_lt
                  obtain ⟨y, hye⟩ : ∃ y : Nat, y = x.toNat := ⟨_, rfl⟩
                  rw [← hye] at hix2 HNT hdx hxl
                  have hyl : y < 256 := hxl
                  have HDX := Lib.hid hdx
                  have q5 : (k : Int) < (one.length : Int) := by omega
                  clear hx hall hdx hye hxl
                  generalize numVal (one.take k) = v0 at *
                  by_cases hd : 48 ≤ y ∧ y ≤ 57
                  · have d1 : ¬ (y : Int) < 48 := by omega
                    have d2 : ¬ (57 : Int) < (y : Int) := by omega
                    have HOK := Lib.hid (show digB x = true from by rw [HDX.out]; exact decide_eq_true hd)
                    go_wp2_with fail
                    go_roundg (one.length - (k + 1))
                    case measure => rw [HG2.out]; omega
                    case rel => exact ⟨k + 1, rfl, by omega, by rw [HNT.out]; congr 1; omega, by go_num, by rw [HALL.out, HOK.out], rfl⟩
                  · have hno : numTextS one = none := by
                      rw [HN.out, if_neg]
                      intro h
                      have := List.all_eq_true.1 h x HM.out
                      rw [HDX.out] at this
                      exact hd (of_decide_eq_true this)
                    have hres : fromTextS l = .error 6 := by rw [HFT.out, HGO.out, fromGo_bad HST.out hno]; rfl
                    have HRES := Lib.hid hres
                    clear hno hres
                    by_cases hd1 : y < 48
                    · have d1 : (y : Int) < 48 := by omega
                      go_wp2_with fail
                      refine bodyPost_ret (v := .tuple #[.slice none 0 0, .int .i64 6]) (by simp [results, Tryz.results57, go_sem]) rfl ⟨?_, HF.out⟩
                      unfold fromTextOut
                      rw [HRES.out]
                      exact ⟨rfl, by decide⟩
                    · have d1 : ¬ (y : Int) < 48 := by omega
                      have d2 : (57 : Int) < (y : Int) := by omega
                      go_wp2_with fail
                      refine bodyPost_ret (v := .tuple #[.slice none 0 0, .int .i64 6]) (by simp [results, Tryz.results57, go_sem]) rfl ⟨?_, HF.out⟩
                      unfold fromTextOut
                      rw [HRES.out]
                      exact ⟨rfl, by decide⟩
                · have hall : one.take k = one := List.take_of_length_le (by omega)
                  have hn : numTextS one = some (numVal one) := by rw [HN.out, if_pos (by have := HAD.out; rwa [hall] at this)]
                  rw [hall]
                  have HNN := Lib.hid hn
                  clear hall hn hv0
                  generalize numVal one = v1 at *
                  obtain ⟨a7, c7, w7, hrun, hown7, F7, -⟩ := add_gen Tryz.underlying22 info3 rfl (by decide) (by decide) HOW.out HF.out.size ((Fr.refl wr).alloc (.cells #[.int .i64 v1] 3)) wr.heap.size [.int .i64 v1] rfl (Blk.new wr 3 #[.int .i64 v1]) (by simp [Value.oneCell']) (by omega)
                  have HF7 := Lib.hid (HF.out.trans' F7 (fun i hi e => absurd hi (by have := (HBK.out i e).1; omega)))
                  have HRUN := Lib.hid hrun
                  have HOW7 := Lib.hid hown7
                  clear hrun hown7 F7
                  go_wp2_with (at_builtin; refine wpList_append_run (by rfl) (.tmp 74) (.tmp 76) 22 (by rfl) _ w7 (by exact HRUN.out) ?_)
                  go_roundg (l.length + 1 - (i + 1))
                  case measure => rw [HG.out]; omega
                  case rel =>
                    refine ⟨i + 1, os ++ [(v1 : Int)], [], a7, c7, rfl, by omega, by rw [List.length_append]; rfl, rfl, by go_num, by simp, by rw [List.length_append]; simp; omega, ?_, HF7.out, ?_⟩
                    · rw [List.length_append, show intCells (os ++ [(v1 : Int)]) = intCells os ++ [.int .i64 v1] from by simp [intCells]]
                      exact HOW7.out
                    · rcases HST.out with h46 | hend
                      · refine .inl ⟨by have := (List.getElem?_eq_some_iff.1 h46).1; omega, ?_⟩
                        rw [HGO.out, fromGo_cut h46 HNN.out, Option.map_map]
                        congr 1
                        funext z
                        simp
                      · refine .inr ⟨by omega, ?_⟩
                        rw [HGO.out, hend, fromGo_end HNN.out]
                        rfl
    · have HGO := Lib.hid hgo
      have q1 : ¬ ((l.length + 1 : Nat) : Int) ≤ (l.length : Int) := by omega
      have HRI := Lib.hid (r04Right_any _ os wr (Vals.of_own HOW.out).1)
      clear hgo
      go_wp2_with fail
      refine HRI.out.mono ?_
      rintro e w2 ⟨rfl, rfl⟩
      cases hok : oidOk os with
      | false =>
        have hres : fromTextS l = .error 1 := by rw [HFT.out, HGO.out]; exact if_neg (by rw [hok]; simp)
        have HRES := Lib.hid hres
        clear hok hres
        go_wp2_with fail
        refine bodyPost_ret (v := .tuple #[.slice none 0 0, .int .i64 1]) (by simp [results, Tryz.results57, go_sem]) rfl ⟨?_, HF.out⟩
        unfold fromTextOut
        rw [HRES.out]
        exact ⟨rfl, by decide⟩
      | true =>
        have hres : fromTextS l = .ok os := by rw [HFT.out, HGO.out]; exact if_pos hok
        have HRES := Lib.hid hres
        clear hok hres
        go_wp2_with fail
        refine bodyPost_ret (v := .tuple #[.slice a os.length c, .int .i64 0]) (by simp [results, Tryz.results57, go_sem]) rfl ⟨?_, HF.out⟩
        unfold fromTextOut
        rw [HRES.out]
        exact ⟨_, rfl, HOW.out⟩
end Go.Proofs.YtgffhiopbnkjbaaGreatDoor

namespace Go.Q
open Go Go.RowKit
def amongB (n : Int) (l : List UInt8) : Bool := l.any fun x => (x.toNat : Int) == n
theorem among_take {n : Int} {l : List UInt8} {j : Nat} {x : UInt8} (h : l[j]? = some x) : amongB n (l.take (j + 1)) = (amongB n (l.take j) || ((x.toNat : Int) == n)) := by
  unfold amongB
  rw [List.take_add_one, h]
  simp
theorem among_mem {n : Int} {l : List UInt8} {j : Nat} {x : UInt8} (h : l[j]? = some x) (hx : ((x.toNat : Int) == n) = true) : amongB n l = true :=
  List.any_eq_true.2 ⟨x, List.mem_of_getElem? h, hx⟩
abbrev printL : List UInt8 := [97, 98, 99, 100, 101, 102, 103, 104, 105, 106, 107, 108, 109, 110, 111, 112, 113, 114, 115, 116, 117, 118, 119, 120, 121, 122, 65, 66, 67, 68, 69, 70, 71, 72, 73, 74, 75, 76, 77, 78, 79, 80, 81, 82, 83, 84, 85, 86, 87, 88, 89, 90, 48, 49, 50, 51, 52, 53, 54, 55, 56, 57, 32, 39, 40, 41, 43, 44, 45, 46, 47, 58, 61, 63]
set_option maxRecDepth 100000 in
theorem among_small : ∀ m : Fin 256, amongB (m.val : Int) printL = printables.contains (UInt8.ofNat m.val) := by decide +kernel
theorem among_may (n : Int) : amongB n printL = mayS 19 n := by
  simp only [mayS, show ¬ ((19 : Int) = 12) from by decide, if_false, if_true]
  by_cases h : 0 ≤ n ∧ n < 256
  · obtain ⟨m, rfl⟩ : ∃ m : Nat, n = m := ⟨n.toNat, by omega⟩
    have := among_small ⟨m, by omega⟩
    simp only at this
    rw [this, decide_eq_true h, Bool.true_and, Int.toNat_natCast]
  · rw [decide_eq_false h, Bool.false_and, amongB, List.any_eq_false]
    intro x _
    have := x.toNat_lt
    simp only [beq_iff_eq]
    omega
end Go.Q
namespace Go.Proofs.YtgffhiopbnkjbaaGreatDoor
open Go Go.RowKit Go.Q

set_option maxRecDepth 20000 in
theorem r06Kind_any (k : Int) (w : World) :
    Calls Tryz.prog 47 #[.int .i64 k] w fun e w' => e = .returned (.bool (Go.Q.kindOk k)) ∧ w = w' := by
  by_cases h1 : k = 12
  · subst h1
    go_enter Tryz.func47, Tryz.ntmps47
    go_wp2_with fail
    go_ret
    exact ⟨rfl, rfl⟩
  by_cases h2 : k = 19
  · subst h2
    go_enter Tryz.func47, Tryz.ntmps47
    go_wp2_with fail
    go_ret
    exact ⟨rfl, rfl⟩
  by_cases h3 : k = 20
  · subst h3
    go_enter Tryz.func47, Tryz.ntmps47
    go_wp2_with fail
    go_ret
    exact ⟨rfl, rfl⟩
  by_cases h4 : k = 22
  · subst h4
    go_enter Tryz.func47, Tryz.ntmps47
    go_wp2_with fail
    go_ret
    exact ⟨rfl, rfl⟩
  by_cases h5 : k = 26
  · subst h5
    go_enter Tryz.func47, Tryz.ntmps47
    go_wp2_with fail
    go_ret
    exact ⟨rfl, rfl⟩
  have hk : Go.Q.kindOk k = (k == 30) := by
    unfold Go.Q.kindOk
    rw [Bool.eq_iff_iff, decide_eq_true_eq, beq_iff_eq]
    omega
  have HK := Lib.hid hk
  have q1 : (k == 12) = false := beq_eq_false_iff_ne.2 h1
  have q2 : (k == 19) = false := beq_eq_false_iff_ne.2 h2
  have q3 : (k == 20) = false := beq_eq_false_iff_ne.2 h3
  have q4 : (k == 22) = false := beq_eq_false_iff_ne.2 h4
  have q5 : (k == 26) = false := beq_eq_false_iff_ne.2 h5
  clear hk
  go_enter Tryz.func47, Tryz.ntmps47
  go_wp2_with fail
  go_ret
  exact ⟨by rw [HK.out]; rfl, rfl⟩

set_option maxRecDepth 20000 in
theorem r06among_any (n : Int) (l : List UInt8) (w : World) (hl : l.length ≤ 1099511627776) :
    Calls Tryz.prog 84 #[.int .i64 n, str l] w fun e w' => e = .returned (.bool (amongB n l)) ∧ w = w' := by
  have hsz : (ByteArray.mk l.toArray).size = l.length := by simp [ByteArray.size]
  go_enter Tryz.func84, Tryz.ntmps84
  go_wp2_with fail
  go_loopg [5] l.length (fun g i wr => ∃ j : Nat, g = l.length - j ∧ j ≤ l.length ∧ i = .int .i64 j ∧ amongB n (l.take j) = false ∧ wr = w)
  case atStart => exact ⟨0, rfl, Nat.zero_le _, rfl, rfl, rfl⟩
  case round =>
    obtain ⟨j, hg, hj, rfl, hall, rfl⟩ := hrel
    have HG := Lib.hid hg
    have HA := Lib.hid hall
    clear hg hall
    by_cases hjl : j < l.length
    · obtain ⟨x, hxj⟩ : ∃ x, l[j]? = some x := ⟨_, List.getElem?_eq_getElem hjl⟩
      have hix : ∀ w, (Instr.index 9 (str l) (.int .i64 j)).run Tryz.prog w = .ok (.int .u8 x.toNat) w := fun w => by
        rw [run_index_string w 9 _ .i64 j Tryz.underlying9, dif_pos ⟨by omega, by rw [hsz]; omega⟩]
        obtain ⟨h, rfl⟩ := List.getElem?_eq_some_iff.1 hxj
        simp [ByteArray.getElem_eq_getElem_data]
      have q2 : (j : Int) < (l.length : Int) := by omega
      have HT := Lib.hid (among_take (n := n) hxj)
      have HM := Lib.hid (fun h => among_mem (n := n) hxj h)
      clear hxj
      have hy0 : (0 : Int) ≤ (x.toNat : Int) := by omega
      have hy1 : (x.toNat : Int) < 256 := by have := x.toNat_lt; omega
      have hyw : wrap64 (x.toNat : Int) = (x.toNat : Int) := by unfold wrap64; omega
      generalize (x.toNat : Int) = y at *
      rcases Bool.eq_false_or_eq_true (y == n) with h | h
      · go_wp2_with fail
        go_ret
        exact ⟨by rw [HM.out h]; rfl, rfl⟩
      · go_wp2_with fail
        go_roundg (l.length - (j + 1))
        case measure => rw [HG.out]; omega
        case rel => exact ⟨j + 1, rfl, by omega, by go_num, by rw [HT.out, HA.out, h]; rfl, rfl⟩
    · have q2 : ¬ (j : Int) < (l.length : Int) := by omega
      have hA : amongB n l = false := by
        have := HA.out
        rwa [List.take_of_length_le (by omega)] at this
      have HAA := Lib.hid hA
      clear hA
      go_wp2_with fail
      go_ret
      exact ⟨by rw [HAA.out]; rfl, rfl⟩

set_option maxRecDepth 20000 in
theorem r06May_any (k n : Int) (w : World) :
    Calls Tryz.prog 49 #[.int .i64 k, .int .i64 n] w fun e w' => e = .returned (.bool (mayS k n)) ∧ w = w' := by
  by_cases h1 : n < 0
  · have hm : mayS k n = false := by
      unfold mayS
      rw [decide_eq_false (by omega : ¬ (0 ≤ n ∧ n ≤ 1114111)), decide_eq_false (by omega : ¬ (0 ≤ n ∧ n < 256)), decide_eq_false (by omega : ¬ (0 ≤ n ∧ n ≤ 255)), decide_eq_false (by omega : ¬ (0 ≤ n ∧ n < 128)), decide_eq_false (by omega : ¬ (32 ≤ n ∧ n ≤ 126)), decide_eq_false (by omega : ¬ (0 ≤ n ∧ n ≤ 65535))]
      simp
    have HM := Lib.hid hm
    have q : decide (n < 0) = true := decide_eq_true h1
    clear hm
    go_enter Tryz.func49, Tryz.ntmps49
    go_wp2_with fail
    go_ret
    exact ⟨by rw [HM.out]; rfl, rfl⟩
  have q1 : decide (n < 0) = false := decide_eq_false h1
  by_cases h2 : (1114111 : Int) < n
  · have hm : mayS k n = false := by
      unfold mayS
      rw [decide_eq_false (by omega : ¬ (0 ≤ n ∧ n ≤ 1114111)), decide_eq_false (by omega : ¬ (0 ≤ n ∧ n < 256)), decide_eq_false (by omega : ¬ (0 ≤ n ∧ n ≤ 255)), decide_eq_false (by omega : ¬ (0 ≤ n ∧ n < 128)), decide_eq_false (by omega : ¬ (32 ≤ n ∧ n ≤ 126)), decide_eq_false (by omega : ¬ (0 ≤ n ∧ n ≤ 65535))]
      simp
    have HM := Lib.hid hm
    have q : decide ((1114111 : Int) < n) = true := decide_eq_true h2
    clear hm
    go_enter Tryz.func49, Tryz.ntmps49
    go_wp2_with fail
    go_ret
    exact ⟨by rw [HM.out]; rfl, rfl⟩
  have q2 : decide ((1114111 : Int) < n) = false := decide_eq_false h2
  by_cases h3 : 55296 ≤ n ∧ n ≤ 57343
  · have hm : mayS k n = false := by
      unfold mayS surr
      rw [decide_eq_true h3, decide_eq_false (by omega : ¬ (0 ≤ n ∧ n < 256)), decide_eq_false (by omega : ¬ (0 ≤ n ∧ n ≤ 255)), decide_eq_false (by omega : ¬ (0 ≤ n ∧ n < 128)), decide_eq_false (by omega : ¬ (32 ≤ n ∧ n ≤ 126))]
      simp
    have HM := Lib.hid hm
    have q3 : decide ((55296 : Int) ≤ n) = true := decide_eq_true h3.1
    have q4 : decide (n ≤ 57343) = true := decide_eq_true h3.2
    clear hm
    go_enter Tryz.func49, Tryz.ntmps49
    go_wp2_with fail
    go_ret
    exact ⟨by rw [HM.out]; rfl, rfl⟩
  have hs : surr n = false := decide_eq_false h3
  have hN : (decide ((55296 : Int) ≤ n) = false) ∨ (decide ((55296 : Int) ≤ n) = true ∧ decide (n ≤ 57343) = false) := by
    by_cases h : (55296 : Int) ≤ n
    · exact .inr ⟨decide_eq_true h, decide_eq_false (by omega)⟩
    · exact .inl (decide_eq_false h)
  by_cases k12 : k = 12
  · subst k12
    have hm : mayS 12 n = true := by
      simp only [mayS, if_true, hs]
      rw [decide_eq_true (by omega)]
      rfl
    have HM := Lib.hid hm
    clear hm hs
    rcases hN with q3 | ⟨q3, q4⟩
    all_goals
      go_enter Tryz.func49, Tryz.ntmps49
      go_wp2_with fail
      go_ret
      exact ⟨by rw [HM.out]; rfl, rfl⟩
  have p1 : (k == 12) = false := beq_eq_false_iff_ne.2 k12
  by_cases k19 : k = 19
  · subst k19
    have H := Lib.hid (r06among_any n printL)
    have hm := among_may n
    have HM := Lib.hid hm
    clear hm hs
    rcases hN with q3 | ⟨q3, q4⟩
    all_goals
      go_enter Tryz.func49, Tryz.ntmps49
      go_wp2_with fail
      refine (H.out _ (by decide)).mono ?_
      rintro e w' ⟨rfl, rfl⟩
      go_wp2_with fail
      go_ret
      exact ⟨by rw [← HM.out]; rfl, rfl⟩
  have p2 : (k == 19) = false := beq_eq_false_iff_ne.2 k19
  by_cases k20 : k = 20
  · subst k20
    have hm : mayS 20 n = decide (n < 256) := by
      simp only [mayS, show ¬ ((20 : Int) = 12) from by decide, show ¬ ((20 : Int) = 19) from by decide, if_false, if_true]
      rw [decide_eq_decide]
      omega
    have HM := Lib.hid hm
    clear hm hs
    rcases hN with q3 | ⟨q3, q4⟩
    all_goals
      go_enter Tryz.func49, Tryz.ntmps49
      go_wp2_with fail
      go_ret
      exact ⟨by rw [HM.out]; rfl, rfl⟩
  have p3 : (k == 20) = false := beq_eq_false_iff_ne.2 k20
  by_cases k22 : k = 22
  · subst k22
    have hm : mayS 22 n = decide (n < 128) := by
      simp only [mayS, show ¬ ((22 : Int) = 12) from by decide, show ¬ ((22 : Int) = 19) from by decide, show ¬ ((22 : Int) = 20) from by decide, if_false, if_true]
      rw [decide_eq_decide]
      omega
    have HM := Lib.hid hm
    clear hm hs
    rcases hN with q3 | ⟨q3, q4⟩
    all_goals
      go_enter Tryz.func49, Tryz.ntmps49
      go_wp2_with fail
      go_ret
      exact ⟨by rw [HM.out]; rfl, rfl⟩
  have p4 : (k == 22) = false := beq_eq_false_iff_ne.2 k22
  by_cases k26 : k = 26
  · subst k26
    have hm : mayS 26 n = (decide ((31 : Int) < n) && decide (n < 127)) := by
      simp only [mayS, show ¬ ((26 : Int) = 12) from by decide, show ¬ ((26 : Int) = 19) from by decide, show ¬ ((26 : Int) = 20) from by decide, show ¬ ((26 : Int) = 22) from by decide, if_false, if_true]
      rw [← Bool.decide_and, decide_eq_decide]
      omega
    have HM := Lib.hid hm
    clear hm hs
    by_cases h31 : (31 : Int) < n
    · have p31 : decide ((31 : Int) < n) = true := decide_eq_true h31
      rcases hN with q3 | ⟨q3, q4⟩
      all_goals
        go_enter Tryz.func49, Tryz.ntmps49
        go_wp2_with fail
        go_ret
        exact ⟨by rw [HM.out, p31]; rfl, rfl⟩
    · have p31 : decide ((31 : Int) < n) = false := decide_eq_false h31
      rcases hN with q3 | ⟨q3, q4⟩
      all_goals
        go_enter Tryz.func49, Tryz.ntmps49
        go_wp2_with fail
        go_ret
        exact ⟨by rw [HM.out, p31]; rfl, rfl⟩
  have p5 : (k == 26) = false := beq_eq_false_iff_ne.2 k26
  by_cases k30 : k = 30
  · subst k30
    have hm : mayS 30 n = decide (n < 65536) := by
      simp only [mayS, show ¬ ((30 : Int) = 12) from by decide, show ¬ ((30 : Int) = 19) from by decide, show ¬ ((30 : Int) = 20) from by decide, show ¬ ((30 : Int) = 22) from by decide, show ¬ ((30 : Int) = 26) from by decide, if_false, if_true, hs]
      rw [Bool.not_false, Bool.and_true, decide_eq_decide]
      omega
    have HM := Lib.hid hm
    clear hm hs
    rcases hN with q3 | ⟨q3, q4⟩
    all_goals
      go_enter Tryz.func49, Tryz.ntmps49
      go_wp2_with fail
      go_ret
      exact ⟨by rw [HM.out]; rfl, rfl⟩
  have p6 : (k == 30) = false := beq_eq_false_iff_ne.2 k30
  have hm : mayS k n = false := by
    simp only [mayS, if_neg k12, if_neg k19, if_neg k20, if_neg k22, if_neg k26, if_neg k30]
  have HM := Lib.hid hm
  clear hm hs
  rcases hN with q3 | ⟨q3, q4⟩
  all_goals
    go_enter Tryz.func49, Tryz.ntmps49
    go_wp2_with fail
    go_ret
    exact ⟨by rw [HM.out]; rfl, rfl⟩
end Go.Proofs.YtgffhiopbnkjbaaGreatDoor

namespace Go.Q
open Go Go.RowKit
abbrev natInts (ns : List Nat) : List Int := ns.map fun (n : Nat) => (n : Int)
theorem enc4_le (n : Nat) : (enc n).length ≤ 4 := by unfold enc; split; simp; split; simp; split <;> simp
theorem encAll_le : ∀ (l : List Nat), (encAll l).length ≤ 4 * l.length
  | [] => by simp [encAll]
  | n :: l => by
    have := encAll_le l
    have := enc4_le n
    simp only [encAll, List.flatMap_cons, List.length_append, List.length_cons] at *
    omega
theorem encAll_take {ns : List Nat} {j n : Nat} (h : ns[j]? = some n) : encAll (ns.take (j + 1)) = encAll (ns.take j) ++ enc n := by
  unfold encAll
  rw [List.take_add_one, h]
  simp
theorem encAll_take_le (ns : List Nat) (j : Nat) : (encAll (ns.take j)).length ≤ 4 * ns.length := by
  have := encAll_le (ns.take j)
  rw [List.length_take] at this
  omega
end Go.Q
namespace Go.Proofs.YtgffhiopbnkjbaaGreatDoor
open Go Go.RowKit Go.Q

/-- Some bytes more, out of a new block. -/
theorem add_bytes {w : World} {base n : Nat} {v : Value} {xs : List UInt8} (hown : w.ownsRow base 5 1 v n (Lib.byteCells xs)) (l : List UInt8) (cs : Array Value) (hcs : (Lib.byteCells l).toArray = cs) (k : Nat) (hk : l.length = k) (hsz : n + k ≤ 1099511627776) (hb : base ≤ w.heap.size) :
    ∃ a c w', (Builtin.append_ #[23, 23] 23 #[v, .slice (some ⟨w.heap.size, 0, none⟩) k k]).run Tryz.prog (w.alloc (.cells cs 5)) = .ok (.slice a (n + k) c) w' ∧ w'.ownsRow base 5 1 (.slice a (n + k) c) (n + k) (Lib.byteCells (xs ++ l)) ∧ Fr (fun k => v.ownBlock = some k) w w' := by
  subst hcs hk
  have BX := Blk.new w 5 (Lib.byteCells l).toArray
  have F1 : Fr (fun _ => False) w (w.alloc (.cells (Lib.byteCells l).toArray 5)) := (Fr.refl w).alloc _
  have hsrc : Bytes (w.alloc (.cells (Lib.byteCells l).toArray 5)) (.slice (some ⟨w.heap.size, 0, none⟩) l.length l.length) l := by
    have h := Vals.of_block BX (by unfold maxLen; simp [byteCells_len]; omega)
    simpa [byteCells_len] using h
  obtain ⟨v', w2, hrun, h1, F2, _⟩ := append_bytes (ownsRow_fr hown F1 (fun _ _ h => h)) (some ⟨w.heap.size, 0, none⟩) l.length l.length l hsrc (by omega) (Nat.le_trans hb F1.size)
  obtain ⟨a, m', c, rfl, rfl⟩ := own_shape h1
  exact ⟨a, c, w2, hrun, h1, (F1.mono (T := fun k => v.ownBlock = some k) (fun _ _ h => h.elim)).trans F2⟩

set_option maxRecDepth 20000 in
set_option maxHeartbeats 2000000 in
theorem r06Utf8_any (v : Value) (ns : List Nat) (w : World) (h : Ints w v (natInts ns)) (hn : ∀ n ∈ ns, n < 1114112) (hlim : ns.length ≤ 100000000) :
    Calls Tryz.prog 28 #[v] w fun e w' => ∃ v', e = .returned v' ∧ w'.ownsRow w.heap.size 5 1 v' (encAll ns).length (Lib.byteCells (encAll ns)) ∧ Fr (fun _ => False) w w' := by
  obtain ⟨a, cap, rfl, hc, hm, hx⟩ := h.form
  rw [List.length_map] at hc hx ⊢
  have HX := Lib.hid hx
  have HN := Lib.hid hn
  clear h hx hn hc hm
  go_enter Tryz.func28, Tryz.ntmps28
  go_wp2_with fail
  go_loopg [3, 4] ns.length (fun g b i wr => ∃ (j : Nat) (a6 : Option Addr) (n6 c6 : Nat), g = ns.length - j ∧ j ≤ ns.length ∧ b = .slice a6 n6 c6 ∧ i = .int .i64 j ∧ wr.ownsRow w.heap.size 5 1 (.slice a6 n6 c6) (encAll (ns.take j)).length (Lib.byteCells (encAll (ns.take j))) ∧ Fr (fun _ => False) w wr)
  case atStart => exact ⟨0, none, 0, 0, rfl, Nat.zero_le _, rfl, rfl, ⟨rfl, .inl ⟨rfl, rfl⟩⟩, Fr.refl _⟩
  case round =>
    obtain ⟨j, a6, n6, c6, hg, hj, rfl, rfl, ho6, G6⟩ := hrel
    have HG := Lib.hid hg
    clear hg
    by_cases hjl : j < ns.length
    · obtain ⟨b, o, rfl, hy⟩ := HX.out (by omega)
      obtain ⟨n, hnj⟩ : ∃ n, ns[j]? = some n := ⟨_, List.getElem?_eq_getElem hjl⟩
      have ec := G6.cell (hy j n (by rw [List.getElem?_map, hnj]; rfl)) (fun h => h)
      have hb0 : w.heap.size ≤ wr.heap.size := G6.size
      have hlt := HN.out n (List.mem_of_getElem? hnj)
      have htl := encAll_take_le ns j
      have hvb := (Vals.of_own ho6).2
      have q1 : (0 : Int) ≤ (j : Int) := by omega
      have q2 : (j : Int) < (ns.length : Int) := by omega
      have HT := Lib.hid (encAll_take hnj)
      have HHY := Lib.hid hy
      clear hy hnj
      by_cases n1 : n < 128
      · have r1 : (n : Int) < 128 := by omega
        have hw1 : IntKind.u8.wrap (n : Int) = (n : Int) := by simp [IntKind.wrap, IntKind.signed, IntKind.bits]; omega
        have he : enc n = [UInt8.ofNat n] := by unfold enc; rw [if_pos n1]
        obtain ⟨a7, c7, w7, hr7, ho7, F7⟩ := add_bytes ho6 [UInt8.ofNat n] #[.int .u8 n] (by simp only [Lib.byteCells, List.map_cons, List.map_nil, Go.Q.u8 n (by omega)]) 1 rfl (by omega) hb0
        have G7 := G6.trans' F7 (fun i hi e => absurd hi (by have := hvb i e; omega))
        rw [← he, ← HT.out] at ho7
        have hL := congrArg List.length HT.out
        rw [List.length_append, he] at hL
        have HL := Lib.hid hL
        have HO7 := Lib.hid ho7
        have HG7 := Lib.hid G7
        have HRUN := Lib.hid hr7
        clear ho6 ho7 F7 hvb G6 G7 hr7 hL he htl
        generalize (encAll (ns.take j)).length = L at *
        go_wp2_with (at_builtin; refine wpList_append_run (by rfl) (.tmp 40) (.tmp 43) 23 (by rfl) _ w7 (by exact HRUN.out) ?_)
        go_roundg (ns.length - (j + 1))
        case measure => rw [HG.out]; omega
        case rel => exact ⟨j + 1, a7, L + 1, c7, rfl, by omega, rfl, by go_num, by rw [HL.out]; exact HO7.out, HG7.out⟩
      have r1 : ¬ (n : Int) < 128 := by omega
      by_cases n2 : n < 2048
      · have r2 : (n : Int) < 2048 := by omega
        obtain ⟨y1, hy1⟩ : ∃ y, y = 192 + n / 64 := ⟨_, rfl⟩
        obtain ⟨y2, hy2⟩ : ∃ y, y = 128 + n % 64 := ⟨_, rfl⟩
        have hw1 : IntKind.u8.wrap (192 + (n : Int) / 64) = (y1 : Int) := by rw [hy1]; simp [IntKind.wrap, IntKind.signed, IntKind.bits]; omega
        have hw2 : IntKind.u8.wrap (128 + (n : Int) % 64) = (y2 : Int) := by rw [hy2]; simp [IntKind.wrap, IntKind.signed, IntKind.bits]; omega
        have he : enc n = [UInt8.ofNat y1, UInt8.ofNat y2] := by unfold enc; rw [if_neg n1, if_pos n2, hy1, hy2]
        obtain ⟨a7, c7, w7, hr7, ho7, F7⟩ := add_bytes ho6 [UInt8.ofNat y1, UInt8.ofNat y2] #[.int .u8 y1, .int .u8 y2] (by simp only [Lib.byteCells, List.map_cons, List.map_nil, Go.Q.u8 y1 (by omega), Go.Q.u8 y2 (by omega)]) 2 rfl (by omega) hb0
        have G7 := G6.trans' F7 (fun i hi e => absurd hi (by have := hvb i e; omega))
        rw [← he, ← HT.out] at ho7
        have hL := congrArg List.length HT.out
        rw [List.length_append, he] at hL
        have HL := Lib.hid hL
        have HO7 := Lib.hid ho7
        have HG7 := Lib.hid G7
        have HRUN := Lib.hid hr7
        clear ho6 ho7 F7 hvb G6 G7 hr7 hL he htl hy1 hy2
        generalize (encAll (ns.take j)).length = L at *
        go_wp2_with (at_builtin; refine wpList_append_run (by rfl) (.tmp 48) (.tmp 57) 23 (by rfl) _ w7 (by exact HRUN.out) ?_)
        go_roundg (ns.length - (j + 1))
        case measure => rw [HG.out]; omega
        case rel => exact ⟨j + 1, a7, L + 2, c7, rfl, by omega, rfl, by go_num, by rw [HL.out]; exact HO7.out, HG7.out⟩
      have r2 : ¬ (n : Int) < 2048 := by omega
      by_cases n3 : n < 65536
      · have r3 : (n : Int) < 65536 := by omega
        obtain ⟨y1, hy1⟩ : ∃ y, y = 224 + n / 4096 := ⟨_, rfl⟩
        obtain ⟨y2, hy2⟩ : ∃ y, y = 128 + n / 64 % 64 := ⟨_, rfl⟩
        obtain ⟨y3, hy3⟩ : ∃ y, y = 128 + n % 64 := ⟨_, rfl⟩
        have hw1 : IntKind.u8.wrap (224 + (n : Int) / 4096) = (y1 : Int) := by rw [hy1]; simp [IntKind.wrap, IntKind.signed, IntKind.bits]; omega
        have hw2 : IntKind.u8.wrap (128 + (n : Int) / 64 % 64) = (y2 : Int) := by rw [hy2]; simp [IntKind.wrap, IntKind.signed, IntKind.bits]; omega
        have hw3 : IntKind.u8.wrap (128 + (n : Int) % 64) = (y3 : Int) := by rw [hy3]; simp [IntKind.wrap, IntKind.signed, IntKind.bits]; omega
        have he : enc n = [UInt8.ofNat y1, UInt8.ofNat y2, UInt8.ofNat y3] := by unfold enc; rw [if_neg n1, if_neg n2, if_pos n3, hy1, hy2, hy3]
        obtain ⟨a7, c7, w7, hr7, ho7, F7⟩ := add_bytes ho6 [UInt8.ofNat y1, UInt8.ofNat y2, UInt8.ofNat y3] #[.int .u8 y1, .int .u8 y2, .int .u8 y3] (by simp only [Lib.byteCells, List.map_cons, List.map_nil, Go.Q.u8 y1 (by omega), Go.Q.u8 y2 (by omega), Go.Q.u8 y3 (by omega)]) 3 rfl (by omega) hb0
        have G7 := G6.trans' F7 (fun i hi e => absurd hi (by have := hvb i e; omega))
        rw [← he, ← HT.out] at ho7
        have hL := congrArg List.length HT.out
        rw [List.length_append, he] at hL
        have HL := Lib.hid hL
        have HO7 := Lib.hid ho7
        have HG7 := Lib.hid G7
        have HRUN := Lib.hid hr7
        clear ho6 ho7 F7 hvb G6 G7 hr7 hL he htl hy1 hy2 hy3
        generalize (encAll (ns.take j)).length = L at *
        go_wp2_with (at_builtin; refine wpList_append_run (by rfl) (.tmp 62) (.tmp 76) 23 (by rfl) _ w7 (by exact HRUN.out) ?_)
        go_roundg (ns.length - (j + 1))
        case measure => rw [HG.out]; omega
        case rel => exact ⟨j + 1, a7, L + 3, c7, rfl, by omega, rfl, by go_num, by rw [HL.out]; exact HO7.out, HG7.out⟩
      have r3 : ¬ (n : Int) < 65536 := by omega
      · obtain ⟨y0, hy0⟩ : ∃ y, y = 240 + n / 262144 := ⟨_, rfl⟩
        obtain ⟨y1, hy1⟩ : ∃ y, y = 128 + n / 4096 % 64 := ⟨_, rfl⟩
        obtain ⟨y2, hy2⟩ : ∃ y, y = 128 + n / 64 % 64 := ⟨_, rfl⟩
        obtain ⟨y3, hy3⟩ : ∃ y, y = 128 + n % 64 := ⟨_, rfl⟩
        have hw0 : IntKind.u8.wrap (240 + (n : Int) / 262144) = (y0 : Int) := by rw [hy0]; simp [IntKind.wrap, IntKind.signed, IntKind.bits]; omega
        have hw1 : IntKind.u8.wrap (128 + (n : Int) / 4096 % 64) = (y1 : Int) := by rw [hy1]; simp [IntKind.wrap, IntKind.signed, IntKind.bits]; omega
        have hw2 : IntKind.u8.wrap (128 + (n : Int) / 64 % 64) = (y2 : Int) := by rw [hy2]; simp [IntKind.wrap, IntKind.signed, IntKind.bits]; omega
        have hw3 : IntKind.u8.wrap (128 + (n : Int) % 64) = (y3 : Int) := by rw [hy3]; simp [IntKind.wrap, IntKind.signed, IntKind.bits]; omega
        have he : enc n = [UInt8.ofNat y0, UInt8.ofNat y1, UInt8.ofNat y2, UInt8.ofNat y3] := by unfold enc; rw [if_neg n1, if_neg n2, if_neg n3, hy0, hy1, hy2, hy3]
        obtain ⟨a7, c7, w7, hr7, ho7, F7⟩ := add_bytes ho6 [UInt8.ofNat y0, UInt8.ofNat y1, UInt8.ofNat y2, UInt8.ofNat y3] #[.int .u8 y0, .int .u8 y1, .int .u8 y2, .int .u8 y3] (by simp only [Lib.byteCells, List.map_cons, List.map_nil, Go.Q.u8 y0 (by omega), Go.Q.u8 y1 (by omega), Go.Q.u8 y2 (by omega), Go.Q.u8 y3 (by omega)]) 4 rfl (by omega) hb0
        have G7 := G6.trans' F7 (fun i hi e => absurd hi (by have := hvb i e; omega))
        rw [← he, ← HT.out] at ho7
        have hL := congrArg List.length HT.out
        rw [List.length_append, he] at hL
        have HL := Lib.hid hL
        have HO7 := Lib.hid ho7
        have HG7 := Lib.hid G7
        have HRUN := Lib.hid hr7
        clear ho6 ho7 F7 hvb G6 G7 hr7 hL he htl hy0 hy1 hy2 hy3
        generalize (encAll (ns.take j)).length = L at *
        go_wp2_with (at_builtin; refine wpList_append_run (by rfl) (.tmp 16) (.tmp 35) 23 (by rfl) _ w7 (by exact HRUN.out) ?_)
        go_roundg (ns.length - (j + 1))
        case measure => rw [HG.out]; omega
        case rel => exact ⟨j + 1, a7, L + 4, c7, rfl, by omega, rfl, by go_num, by rw [HL.out]; exact HO7.out, HG7.out⟩
    · have hj' : encAll (ns.take j) = encAll ns := by rw [List.take_of_length_le (by omega)]
      rw [hj'] at ho6
      have HO6 := Lib.hid ho6
      have HG6 := Lib.hid G6
      have q2 : ¬ (j : Int) < (ns.length : Int) := by omega
      clear ho6 G6 hj'
      go_wp2_with fail
      go_ret
      exact ⟨_, rfl, HO6.out, HG6.out⟩
end Go.Proofs.YtgffhiopbnkjbaaGreatDoor

namespace Go.Q
open Go Go.RowKit
/-- A sign's first part, and how many bytes it has behind. -/
def looseHead (c : Nat) : Nat × Nat := if 240 ≤ c then (c - 240, 3) else if 224 ≤ c then (c - 224, 2) else if 192 ≤ c then (c - 192, 1) else (c, 0)
def looseAcc (n0 : Nat) (l : List UInt8) : Nat := l.foldl (fun n y => 64 * n + y.toNat % 64) n0
def looseS : Nat → List UInt8 → Option (List Nat)
  | _, [] => some []
  | 0, _ :: _ => none
  | f + 1, x :: t => if 1114111 < looseAcc (looseHead x.toNat).1 (t.take (looseHead x.toNat).2) then none else (looseS f (t.drop (looseHead x.toNat).2)).map (looseAcc (looseHead x.toNat).1 (t.take (looseHead x.toNat).2) :: ·)
theorem loose_fuel : ∀ (f g : Nat) (l : List UInt8), l.length ≤ f → l.length ≤ g → looseS f l = looseS g l
  | f, g, [], _, _ => by cases f <;> cases g <;> rfl
  | 0, _, _ :: _, h, _ => by simp at h
  | _ + 1, 0, _ :: _, _, h => by simp at h
  | f + 1, g + 1, x :: t, hf, hg => by
    simp only [List.length_cons] at hf hg
    simp only [looseS]
    rw [loose_fuel f g (t.drop (looseHead x.toNat).2) (by rw [List.length_drop]; omega) (by rw [List.length_drop]; omega)]
def looseL (l : List UInt8) : Option (List Nat) := looseS l.length l
theorem looseL_nil : looseL [] = some [] := rfl
theorem looseL_cons {x : UInt8} {t : List UInt8} {n0 more : Nat} (h : looseHead x.toNat = (n0, more)) : looseL (x :: t) = if 1114111 < looseAcc n0 (t.take more) then none else (looseL (t.drop more)).map (looseAcc n0 (t.take more) :: ·) := by
  simp only [looseL, List.length_cons, looseS, h]
  rw [loose_fuel t.length (t.drop more).length (t.drop more) (by rw [List.length_drop]; omega) (Nat.le_refl _)]
theorem acc_lt : ∀ (l : List UInt8) (n0 : Nat), looseAcc n0 l < (n0 + 1) * 64 ^ l.length
  | [], n0 => by simp [looseAcc]
  | y :: t, n0 => by
    have := acc_lt t (64 * n0 + y.toNat % 64)
    have h2 : (64 * n0 + y.toNat % 64 + 1) ≤ (n0 + 1) * 64 := by omega
    have h3 := Nat.mul_le_mul_right (64 ^ t.length) h2
    rw [Nat.mul_assoc] at h3
    have h4 : 64 * 64 ^ t.length = 64 ^ (y :: t).length := by rw [List.length_cons, Nat.pow_succ, Nat.mul_comm]
    rw [h4] at h3
    exact Nat.lt_of_lt_of_le this h3
theorem acc_take {n0 k : Nat} {t : List UInt8} {y : UInt8} (h : t[k]? = some y) : looseAcc n0 (t.take (k + 1)) = 64 * looseAcc n0 (t.take k) + y.toNat % 64 := by
  unfold looseAcc
  rw [List.take_add_one, h]
  simp [List.foldl_append]
theorem acc_small {c n0 more : Nat} (h : looseHead c = (n0, more)) (hc : c < 256) (t : List UInt8) (k : Nat) (hk : k ≤ more) : looseAcc n0 (t.take k) < 8388608 ∧ more ≤ 3 := by
  have h1 := acc_lt (t.take k) n0
  have h2 : (t.take k).length ≤ k := by rw [List.length_take]; omega
  have h3 : (64 : Nat) ^ (t.take k).length ≤ 64 ^ k := Nat.pow_le_pow_right (by decide) h2
  have h4 := Nat.mul_le_mul_left (n0 + 1) h3
  have hm : (n0 < 32 ∧ more ≤ 3) ∨ (n0 < 192 ∧ more = 0) := by
    unfold looseHead at h
    split at h
    · simp only [Prod.mk.injEq] at h; omega
    split at h
    · simp only [Prod.mk.injEq] at h; omega
    split at h
    · simp only [Prod.mk.injEq] at h; omega
    · simp only [Prod.mk.injEq] at h; omega
  rcases hm with ⟨a, b⟩ | ⟨a, rfl⟩
  · have h5 : (64 : Nat) ^ k ≤ 64 ^ 3 := Nat.pow_le_pow_right (by decide) (by omega)
    have h6 := Nat.mul_le_mul (show n0 + 1 ≤ 32 from by omega) h5
    exact ⟨by omega, b⟩
  · obtain rfl : k = 0 := by omega
    simp only [Nat.pow_zero, Nat.mul_one] at h4
    exact ⟨by omega, by omega⟩
/-- The signs of UTF-8, as the reference reads them. -/
def wideR (b : List UInt8) : Option (List Nat) :=
  match looseL b with
  | none => none
  | some ns => if (natInts ns).all (mayS 12) = true ∧ encAll ns = b then some ns else none
theorem wideR_none {b : List UInt8} (h : looseL b = none) : wideR b = none := by unfold wideR; rw [h]
theorem wideR_some {b : List UInt8} {ns : List Nat} (h : looseL b = some ns) : wideR b = if (natInts ns).all (mayS 12) = true ∧ encAll ns = b then some ns else none := by unfold wideR; rw [h]
/-- What it reads is right. -/
theorem wideR_ok {b : List UInt8} {ns : List Nat} (h : wideR b = some ns) : encAll ns = b ∧ (natInts ns).all (mayS 12) = true ∧ signsS 12 b = natInts ns ∧ rightS 12 b = true := by
  unfold wideR at h
  split at h
  · cases h
  · split at h
    · rename_i hh
      obtain ⟨ha, hb⟩ := hh
      simp only [Option.some.injEq] at h
      rw [h] at ha hb
      have hs : signsS 12 b = natInts ns := by
        have := signs_of (k := 12) (l := natInts ns) (by decide) (fun n hn => List.all_eq_true.1 ha n hn)
        rw [← this]
        congr 1
        rw [← hb]
        simp only [ofS, encAll, natInts, List.flatMap_map]
        rfl
      refine ⟨hb, ha, hs, ?_⟩
      unfold rightS
      rw [hs, ha]
      rfl
    · cases h
end Go.Q

namespace Go.Proofs.YtgffhiopbnkjbaaGreatDoor
open Go Go.RowKit Go.Q

def WideOut (w w' : World) (b : List UInt8) (e : Ending) : Prop :=
  ∃ v, e = .returned (.tuple #[v, .bool (wideR b).isSome]) ∧ Ints w' v (natInts ((wideR b).getD [])) ∧ Fr (fun _ => False) w w'
theorem wideOut_no {w w' : World} {b : List UInt8} (h : wideR b = none) (F : Fr (fun _ => False) w w') : WideOut w w' b (.returned (.tuple #[.slice none 0 0, .bool false])) := by
  refine ⟨_, by rw [h]; rfl, ?_, F⟩
  rw [h]
  exact ⟨none, 0, rfl, Nat.zero_le _, by unfold maxLen; omega, fun h => absurd h (by decide)⟩
theorem le_snoc {xs : List Nat} {A : Nat} (h : ∀ x ∈ xs, x ≤ 1114111) (hA : ¬ 1114111 < A) : ∀ x ∈ xs ++ [A], x ≤ 1114111 := by
  intro x hx
  rcases List.mem_append.1 hx with h' | h'
  · exact h x h'
  · rw [List.mem_singleton.1 h']
    omega

set_option maxRecDepth 20000 in
set_option maxHeartbeats 8000000 in
theorem r06wide_any (v : Value) (b : List UInt8) (w : World) (h : Bytes w v b) (hlim : b.length ≤ 16777216) :
    Calls Tryz.prog 48 #[v] w fun e w' => WideOut w w' b e := by
  obtain ⟨a, cap, rfl, -, -, hx⟩ := h.form
  have HB := Lib.hid h
  have HX := Lib.hid hx
  clear h hx
  go_enter Tryz.func48, Tryz.ntmps48
  go_wp2_with fail
  go_loopg [4, 5] (b.length + 4) (fun g l i wr => ∃ (xs : List Nat) (j : Nat) (a6 : Option Addr) (n6 c6 : Nat), g = b.length + 4 - j ∧ j ≤ b.length + 3 ∧ l = .slice a6 n6 c6 ∧ i = .int .i64 j ∧ wr.ownsRow w.heap.size 3 1 (.slice a6 n6 c6) xs.length (intCells (natInts xs)) ∧ looseL b = (looseL (b.drop j)).map (xs ++ ·) ∧ (∀ x ∈ xs, x ≤ 1114111) ∧ xs.length ≤ j ∧ Fr (fun _ => False) w wr)
  case atStart => exact ⟨[], 0, none, 0, 0, rfl, Nat.zero_le _, rfl, rfl, ⟨rfl, .inl ⟨rfl, rfl⟩⟩, by simp, by simp, Nat.zero_le _, Fr.refl _⟩
  case round =>
    obtain ⟨xs, j, a6, n6, c6, hg, hj, rfl, rfl, ho6, hL, hxs, hxl, G6⟩ := hrel
    have HG := Lib.hid hg
    have HL := Lib.hid hL
    have HXS := Lib.hid hxs
    have HO6 := Lib.hid ho6
    have HG6 := Lib.hid G6
    clear hg hL hxs ho6 G6
    by_cases hjl : j < b.length
    · obtain ⟨bb, oo, rfl, hy⟩ := HX.out (by omega)
      obtain ⟨x, hxj⟩ : ∃ x, b[j]? = some x := ⟨_, List.getElem?_eq_getElem hjl⟩
      have hd : b.drop j = x :: b.drop (j + 1) := by
        obtain ⟨h, rfl⟩ := List.getElem?_eq_some_iff.1 hxj
        exact List.drop_eq_getElem_cons h
      have ec := HG6.out.cell (hy j x hxj) (fun h => h)
      have HY := Lib.hid hy
      have q1 : (0 : Int) ≤ (j : Int) := by omega
      have q2 : (j : Int) < (b.length : Int) := by omega
      obtain ⟨⟨n0, more⟩, hh⟩ : ∃ p, looseHead x.toNat = p := ⟨_, rfl⟩
      have hLc := looseL_cons (t := b.drop (j + 1)) hh
      have hxlt := x.toNat_lt
      have hsm := fun k hk => acc_small hh hxlt (b.drop (j + 1)) k hk
      obtain ⟨c, hc⟩ : ∃ c, c = x.toNat := ⟨_, rfl⟩
      rw [← hc] at hxlt hh ec
      have hcw : wrap64 (c : Int) = (c : Int) := by unfold wrap64; omega
      have HD := Lib.hid hd
      have HLC := Lib.hid hLc
      have HSM := Lib.hid hsm
      have hcases : ((240 ≤ c ∧ (c : Int) - 240 = (n0 : Int) ∧ more = 3) ∨ (¬ 240 ≤ c ∧ 224 ≤ c ∧ (c : Int) - 224 = (n0 : Int) ∧ more = 2) ∨ (¬ 240 ≤ c ∧ ¬ 224 ≤ c ∧ 192 ≤ c ∧ (c : Int) - 192 = (n0 : Int) ∧ more = 1) ∨ (¬ 240 ≤ c ∧ ¬ 224 ≤ c ∧ ¬ 192 ≤ c ∧ (c : Int) = (n0 : Int) ∧ more = 0)) := by
        unfold looseHead at hh
        split at hh
        · simp only [Prod.mk.injEq] at hh; omega
        split at hh
        · simp only [Prod.mk.injEq] at hh; omega
        split at hh
        · simp only [Prod.mk.injEq] at hh; omega
        · simp only [Prod.mk.injEq] at hh; omega
      clear hy hxj hd hLc hsm hc hh
      have hn0 : n0 < 256 := by omega
      rcases hcases with ⟨d1, d4, rfl⟩ | ⟨d1, d2, d4, rfl⟩ | ⟨d1, d2, d3, d4, rfl⟩ | ⟨d1, d2, d3, d4, rfl⟩
      · have p1 : (240 : Int) ≤ (c : Int) := by omega
        go_wp2_with fail
        obtain ⟨wo, hwo⟩ : ∃ wo : World, wo = wr := ⟨_, rfl⟩
        obtain rfl := hwo
        go_loopg [7, 9] (3 + 1) (fun g n k wi => ∃ k1 : Nat, g = 3 + 2 - k1 ∧ 0 < k1 ∧ k1 ≤ 3 + 1 ∧ n = .int .i64 (looseAcc n0 ((b.drop (j + 1)).take (k1 - 1))) ∧ k = .int .i64 k1 ∧ wi = wo)
        case atStart => exact ⟨1, rfl, by omega, by omega, rfl, rfl, rfl⟩
        case round =>
          obtain ⟨k1, hg, hk0, hk, rfl, rfl, rfl⟩ := hrel
          have HG2 := Lib.hid hg
          clear hg
          have hA : looseAcc n0 ((b.drop (j + 1)).take (k1 - 1)) < 8388608 := (HSM.out (k1 - 1) (by omega)).1
          by_cases hst : k1 ≤ 3 ∧ j + k1 < b.length
          · obtain ⟨hs1, hs2⟩ := hst
            obtain ⟨y, hyj⟩ : ∃ y, b[j + k1]? = some y := ⟨_, List.getElem?_eq_getElem hs2⟩
            have ey := HG6.out.cell (HY.out (j + k1) y hyj) (fun h => h)
            have hty : (b.drop (j + 1))[k1 - 1]? = some y := by rw [List.getElem?_drop, show j + 1 + (k1 - 1) = j + k1 from by omega]; exact hyj
            have hT := acc_take (n0 := n0) hty
            rw [show k1 - 1 + 1 = k1 from by omega] at hT
            have hylt := y.toNat_lt
            have hyw : wrap64 (y.toNat : Int) = (y.toNat : Int) := by unfold wrap64; omega
            generalize y.toNat = yy at *
            generalize looseAcc n0 ((b.drop (j + 1)).take (k1 - 1)) = A at *
            have HT := Lib.hid hT
            have r1 : (k1 : Int) ≤ 3 := by omega
            have r2 : (j : Int) + (k1 : Int) < (b.length : Int) := by omega
            have r3 : (0 : Int) ≤ (j : Int) + (k1 : Int) := by omega
            clear hyj hty hT
            go_wp2_with fail
            go_roundg (3 + 2 - (k1 + 1))
            case measure => rw [HG2.out]; omega
            case rel => exact ⟨k1 + 1, rfl, by omega, by omega, by rw [Nat.add_sub_cancel, HT.out]; go_num, by go_num, rfl⟩
          · have hAM : looseAcc n0 ((b.drop (j + 1)).take (k1 - 1)) = looseAcc n0 ((b.drop (j + 1)).take 3) := by
              by_cases hk1 : k1 ≤ 3
              · have hlen : (b.drop (j + 1)).length ≤ k1 - 1 := by rw [List.length_drop]; omega
                rw [List.take_of_length_le hlen, List.take_of_length_le (by omega)]
              · rw [show k1 - 1 = 3 from by omega]
            have hout : ((k1 : Int) ≤ 3 ∧ ¬ (j : Int) + (k1 : Int) < (b.length : Int)) ∨ ¬ (k1 : Int) ≤ 3 := by omega
            have hLC := HLC.out
            rw [hAM] at *
            generalize looseAcc n0 ((b.drop (j + 1)).take 3) = A at *
            have HLC2 := Lib.hid hLC
            clear hAM hLC HLC HSM
            by_cases hbig : 1114111 < A
            · have r4 : (1114111 : Int) < (A : Int) := by omega
              have hnone : wideR b = none := wideR_none (by rw [HL.out, HD.out, HLC2.out, if_pos hbig]; rfl)
              have HNO := Lib.hid hnone
              clear hnone
              rcases hout with ⟨r1, r2⟩ | r1
              all_goals
                go_wp2_with fail
                exact bodyPost_ret (v := .tuple #[.slice none 0 0, .bool false]) (by simp [results, Tryz.results48, go_sem]) rfl (wideOut_no HNO.out HG6.out)
            · have r4 : ¬ (1114111 : Int) < (A : Int) := by omega
              have hb0 : w.heap.size ≤ wr.heap.size := HG6.out.size
              have hvb := (Vals.of_own HO6.out).2
              obtain ⟨a7, c7, w7, hr7, ho7, F7, -⟩ := add_int HO6.out hb0 (by omega) (A : Int) wr.heap.size ((Fr.refl (S := fun _ => False) wr).alloc (.cells #[.int .i64 (A : Int)] 3)) (Blk.new wr 3 #[.int .i64 (A : Int)])
              have G7 := HG6.out.trans' F7 (fun i hi e => absurd hi (by have := hvb i e; omega))
              have HO7 := Lib.hid ho7
              have HG7 := Lib.hid G7
              have HRUN := Lib.hid hr7
              have hl2 : looseL b = (looseL (b.drop (j + 3 + 1))).map ((xs ++ [A]) ++ ·) := by
                rw [HL.out, HD.out, HLC2.out, if_neg hbig, List.drop_drop, Option.map_map, show j + 1 + 3 = j + 3 + 1 from by omega]
                congr 1
                funext l
                simp
              have HL2 := Lib.hid hl2
              have HBIG := Lib.hid hbig
              clear ho7 G7 hr7 hl2 F7 hvb hbig
              rcases hout with ⟨r1, r2⟩ | r1
              all_goals
                go_wp2_with (at_builtin; refine wpList_append_run (by rfl) (.tmp 59) (.tmp 61) 22 (by rfl) _ w7 (by exact HRUN.out) ?_)
                go_roundg (b.length + 4 - (j + 3 + 1))
                case measure => rw [HG.out]; omega
                case rel => exact ⟨xs ++ [A], j + 3 + 1, a7, xs.length + 1, c7, rfl, by omega, rfl, by go_num, (by have := HO7.out; rw [List.length_append, List.length_singleton]; simpa [natInts] using this), HL2.out, le_snoc HXS.out HBIG.out, (by rw [List.length_append, List.length_singleton]; omega), HG7.out⟩
      · have p1 : ¬ (240 : Int) ≤ (c : Int) := by omega
        have p2 : (224 : Int) ≤ (c : Int) := by omega
        go_wp2_with fail
        obtain ⟨wo, hwo⟩ : ∃ wo : World, wo = wr := ⟨_, rfl⟩
        obtain rfl := hwo
        go_loopg [7, 9] (2 + 1) (fun g n k wi => ∃ k1 : Nat, g = 2 + 2 - k1 ∧ 0 < k1 ∧ k1 ≤ 2 + 1 ∧ n = .int .i64 (looseAcc n0 ((b.drop (j + 1)).take (k1 - 1))) ∧ k = .int .i64 k1 ∧ wi = wo)
        case atStart => exact ⟨1, rfl, by omega, by omega, rfl, rfl, rfl⟩
        case round =>
          obtain ⟨k1, hg, hk0, hk, rfl, rfl, rfl⟩ := hrel
          have HG2 := Lib.hid hg
          clear hg
          have hA : looseAcc n0 ((b.drop (j + 1)).take (k1 - 1)) < 8388608 := (HSM.out (k1 - 1) (by omega)).1
          by_cases hst : k1 ≤ 2 ∧ j + k1 < b.length
          · obtain ⟨hs1, hs2⟩ := hst
            obtain ⟨y, hyj⟩ : ∃ y, b[j + k1]? = some y := ⟨_, List.getElem?_eq_getElem hs2⟩
            have ey := HG6.out.cell (HY.out (j + k1) y hyj) (fun h => h)
            have hty : (b.drop (j + 1))[k1 - 1]? = some y := by rw [List.getElem?_drop, show j + 1 + (k1 - 1) = j + k1 from by omega]; exact hyj
            have hT := acc_take (n0 := n0) hty
            rw [show k1 - 1 + 1 = k1 from by omega] at hT
            have hylt := y.toNat_lt
            have hyw : wrap64 (y.toNat : Int) = (y.toNat : Int) := by unfold wrap64; omega
            generalize y.toNat = yy at *
            generalize looseAcc n0 ((b.drop (j + 1)).take (k1 - 1)) = A at *
            have HT := Lib.hid hT
            have r1 : (k1 : Int) ≤ 2 := by omega
            have r2 : (j : Int) + (k1 : Int) < (b.length : Int) := by omega
            have r3 : (0 : Int) ≤ (j : Int) + (k1 : Int) := by omega
            clear hyj hty hT
            go_wp2_with fail
            go_roundg (2 + 2 - (k1 + 1))
            case measure => rw [HG2.out]; omega
            case rel => exact ⟨k1 + 1, rfl, by omega, by omega, by rw [Nat.add_sub_cancel, HT.out]; go_num, by go_num, rfl⟩
          · have hAM : looseAcc n0 ((b.drop (j + 1)).take (k1 - 1)) = looseAcc n0 ((b.drop (j + 1)).take 2) := by
              by_cases hk1 : k1 ≤ 2
              · have hlen : (b.drop (j + 1)).length ≤ k1 - 1 := by rw [List.length_drop]; omega
                rw [List.take_of_length_le hlen, List.take_of_length_le (by omega)]
              · rw [show k1 - 1 = 2 from by omega]
            have hout : ((k1 : Int) ≤ 2 ∧ ¬ (j : Int) + (k1 : Int) < (b.length : Int)) ∨ ¬ (k1 : Int) ≤ 2 := by omega
            have hLC := HLC.out
            rw [hAM] at *
            generalize looseAcc n0 ((b.drop (j + 1)).take 2) = A at *
            have HLC2 := Lib.hid hLC
            clear hAM hLC HLC HSM
            by_cases hbig : 1114111 < A
            · have r4 : (1114111 : Int) < (A : Int) := by omega
              have hnone : wideR b = none := wideR_none (by rw [HL.out, HD.out, HLC2.out, if_pos hbig]; rfl)
              have HNO := Lib.hid hnone
              clear hnone
              rcases hout with ⟨r1, r2⟩ | r1
              all_goals
                go_wp2_with fail
                exact bodyPost_ret (v := .tuple #[.slice none 0 0, .bool false]) (by simp [results, Tryz.results48, go_sem]) rfl (wideOut_no HNO.out HG6.out)
            · have r4 : ¬ (1114111 : Int) < (A : Int) := by omega
              have hb0 : w.heap.size ≤ wr.heap.size := HG6.out.size
              have hvb := (Vals.of_own HO6.out).2
              obtain ⟨a7, c7, w7, hr7, ho7, F7, -⟩ := add_int HO6.out hb0 (by omega) (A : Int) wr.heap.size ((Fr.refl (S := fun _ => False) wr).alloc (.cells #[.int .i64 (A : Int)] 3)) (Blk.new wr 3 #[.int .i64 (A : Int)])
              have G7 := HG6.out.trans' F7 (fun i hi e => absurd hi (by have := hvb i e; omega))
              have HO7 := Lib.hid ho7
              have HG7 := Lib.hid G7
              have HRUN := Lib.hid hr7
              have hl2 : looseL b = (looseL (b.drop (j + 2 + 1))).map ((xs ++ [A]) ++ ·) := by
                rw [HL.out, HD.out, HLC2.out, if_neg hbig, List.drop_drop, Option.map_map, show j + 1 + 2 = j + 2 + 1 from by omega]
                congr 1
                funext l
                simp
              have HL2 := Lib.hid hl2
              have HBIG := Lib.hid hbig
              clear ho7 G7 hr7 hl2 F7 hvb hbig
              rcases hout with ⟨r1, r2⟩ | r1
              all_goals
                go_wp2_with (at_builtin; refine wpList_append_run (by rfl) (.tmp 59) (.tmp 61) 22 (by rfl) _ w7 (by exact HRUN.out) ?_)
                go_roundg (b.length + 4 - (j + 2 + 1))
                case measure => rw [HG.out]; omega
                case rel => exact ⟨xs ++ [A], j + 2 + 1, a7, xs.length + 1, c7, rfl, by omega, rfl, by go_num, (by have := HO7.out; rw [List.length_append, List.length_singleton]; simpa [natInts] using this), HL2.out, le_snoc HXS.out HBIG.out, (by rw [List.length_append, List.length_singleton]; omega), HG7.out⟩
      · have p1 : ¬ (240 : Int) ≤ (c : Int) := by omega
        have p2 : ¬ (224 : Int) ≤ (c : Int) := by omega
        have p3 : (192 : Int) ≤ (c : Int) := by omega
        go_wp2_with fail
        obtain ⟨wo, hwo⟩ : ∃ wo : World, wo = wr := ⟨_, rfl⟩
        obtain rfl := hwo
        go_loopg [7, 9] (1 + 1) (fun g n k wi => ∃ k1 : Nat, g = 1 + 2 - k1 ∧ 0 < k1 ∧ k1 ≤ 1 + 1 ∧ n = .int .i64 (looseAcc n0 ((b.drop (j + 1)).take (k1 - 1))) ∧ k = .int .i64 k1 ∧ wi = wo)
        case atStart => exact ⟨1, rfl, by omega, by omega, rfl, rfl, rfl⟩
        case round =>
          obtain ⟨k1, hg, hk0, hk, rfl, rfl, rfl⟩ := hrel
          have HG2 := Lib.hid hg
          clear hg
          have hA : looseAcc n0 ((b.drop (j + 1)).take (k1 - 1)) < 8388608 := (HSM.out (k1 - 1) (by omega)).1
          by_cases hst : k1 ≤ 1 ∧ j + k1 < b.length
          · obtain ⟨hs1, hs2⟩ := hst
            obtain ⟨y, hyj⟩ : ∃ y, b[j + k1]? = some y := ⟨_, List.getElem?_eq_getElem hs2⟩
            have ey := HG6.out.cell (HY.out (j + k1) y hyj) (fun h => h)
            have hty : (b.drop (j + 1))[k1 - 1]? = some y := by rw [List.getElem?_drop, show j + 1 + (k1 - 1) = j + k1 from by omega]; exact hyj
            have hT := acc_take (n0 := n0) hty
            rw [show k1 - 1 + 1 = k1 from by omega] at hT
            have hylt := y.toNat_lt
            have hyw : wrap64 (y.toNat : Int) = (y.toNat : Int) := by unfold wrap64; omega
            generalize y.toNat = yy at *
            generalize looseAcc n0 ((b.drop (j + 1)).take (k1 - 1)) = A at *
            have HT := Lib.hid hT
            have r1 : (k1 : Int) ≤ 1 := by omega
            have r2 : (j : Int) + (k1 : Int) < (b.length : Int) := by omega
            have r3 : (0 : Int) ≤ (j : Int) + (k1 : Int) := by omega
            clear hyj hty hT
            go_wp2_with fail
            go_roundg (1 + 2 - (k1 + 1))
            case measure => rw [HG2.out]; omega
            case rel => exact ⟨k1 + 1, rfl, by omega, by omega, by rw [Nat.add_sub_cancel, HT.out]; go_num, by go_num, rfl⟩
          · have hAM : looseAcc n0 ((b.drop (j + 1)).take (k1 - 1)) = looseAcc n0 ((b.drop (j + 1)).take 1) := by
              by_cases hk1 : k1 ≤ 1
              · have hlen : (b.drop (j + 1)).length ≤ k1 - 1 := by rw [List.length_drop]; omega
                rw [List.take_of_length_le hlen, List.take_of_length_le (by omega)]
              · rw [show k1 - 1 = 1 from by omega]
            have hout : ((k1 : Int) ≤ 1 ∧ ¬ (j : Int) + (k1 : Int) < (b.length : Int)) ∨ ¬ (k1 : Int) ≤ 1 := by omega
            have hLC := HLC.out
            rw [hAM] at *
            generalize looseAcc n0 ((b.drop (j + 1)).take 1) = A at *
            have HLC2 := Lib.hid hLC
            clear hAM hLC HLC HSM
            by_cases hbig : 1114111 < A
            · have r4 : (1114111 : Int) < (A : Int) := by omega
              have hnone : wideR b = none := wideR_none (by rw [HL.out, HD.out, HLC2.out, if_pos hbig]; rfl)
              have HNO := Lib.hid hnone
              clear hnone
              rcases hout with ⟨r1, r2⟩ | r1
              all_goals
                go_wp2_with fail
                exact bodyPost_ret (v := .tuple #[.slice none 0 0, .bool false]) (by simp [results, Tryz.results48, go_sem]) rfl (wideOut_no HNO.out HG6.out)
            · have r4 : ¬ (1114111 : Int) < (A : Int) := by omega
              have hb0 : w.heap.size ≤ wr.heap.size := HG6.out.size
              have hvb := (Vals.of_own HO6.out).2
              obtain ⟨a7, c7, w7, hr7, ho7, F7, -⟩ := add_int HO6.out hb0 (by omega) (A : Int) wr.heap.size ((Fr.refl (S := fun _ => False) wr).alloc (.cells #[.int .i64 (A : Int)] 3)) (Blk.new wr 3 #[.int .i64 (A : Int)])
              have G7 := HG6.out.trans' F7 (fun i hi e => absurd hi (by have := hvb i e; omega))
              have HO7 := Lib.hid ho7
              have HG7 := Lib.hid G7
              have HRUN := Lib.hid hr7
              have hl2 : looseL b = (looseL (b.drop (j + 1 + 1))).map ((xs ++ [A]) ++ ·) := by
                rw [HL.out, HD.out, HLC2.out, if_neg hbig, List.drop_drop, Option.map_map, show j + 1 + 1 = j + 1 + 1 from by omega]
                congr 1
                funext l
                simp
              have HL2 := Lib.hid hl2
              have HBIG := Lib.hid hbig
              clear ho7 G7 hr7 hl2 F7 hvb hbig
              rcases hout with ⟨r1, r2⟩ | r1
              all_goals
                go_wp2_with (at_builtin; refine wpList_append_run (by rfl) (.tmp 59) (.tmp 61) 22 (by rfl) _ w7 (by exact HRUN.out) ?_)
                go_roundg (b.length + 4 - (j + 1 + 1))
                case measure => rw [HG.out]; omega
                case rel => exact ⟨xs ++ [A], j + 1 + 1, a7, xs.length + 1, c7, rfl, by omega, rfl, by go_num, (by have := HO7.out; rw [List.length_append, List.length_singleton]; simpa [natInts] using this), HL2.out, le_snoc HXS.out HBIG.out, (by rw [List.length_append, List.length_singleton]; omega), HG7.out⟩
      · have p1 : ¬ (240 : Int) ≤ (c : Int) := by omega
        have p2 : ¬ (224 : Int) ≤ (c : Int) := by omega
        have p3 : ¬ (192 : Int) ≤ (c : Int) := by omega
        obtain rfl : c = n0 := by omega
        clear d4
        go_wp2_with fail
        obtain ⟨wo, hwo⟩ : ∃ wo : World, wo = wr := ⟨_, rfl⟩
        obtain rfl := hwo
        go_loopg [7, 9] (0 + 1) (fun g n k wi => ∃ k1 : Nat, g = 0 + 2 - k1 ∧ 0 < k1 ∧ k1 ≤ 0 + 1 ∧ n = .int .i64 (looseAcc c ((b.drop (j + 1)).take (k1 - 1))) ∧ k = .int .i64 k1 ∧ wi = wo)
        case atStart => exact ⟨1, rfl, by omega, by omega, rfl, rfl, rfl⟩
        case round =>
          obtain ⟨k1, hg, hk0, hk, rfl, rfl, rfl⟩ := hrel
          have HG2 := Lib.hid hg
          clear hg
          have hA : looseAcc c ((b.drop (j + 1)).take (k1 - 1)) < 8388608 := (HSM.out (k1 - 1) (by omega)).1
          by_cases hst : k1 ≤ 0 ∧ j + k1 < b.length
          · exact absurd hst.1 (by omega)
          · have hAM : looseAcc c ((b.drop (j + 1)).take (k1 - 1)) = looseAcc c ((b.drop (j + 1)).take 0) := by
              by_cases hk1 : k1 ≤ 0
              · have hlen : (b.drop (j + 1)).length ≤ k1 - 1 := by rw [List.length_drop]; omega
                rw [List.take_of_length_le hlen, List.take_of_length_le (by omega)]
              · rw [show k1 - 1 = 0 from by omega]
            have r1 : ¬ (k1 : Int) ≤ 0 := by omega
            have hLC := HLC.out
            rw [hAM] at *
            generalize looseAcc c ((b.drop (j + 1)).take 0) = A at *
            have HLC2 := Lib.hid hLC
            clear hAM hLC HLC HSM
            by_cases hbig : 1114111 < A
            · have r4 : (1114111 : Int) < (A : Int) := by omega
              have hnone : wideR b = none := wideR_none (by rw [HL.out, HD.out, HLC2.out, if_pos hbig]; rfl)
              have HNO := Lib.hid hnone
              clear hnone
              all_goals
                go_wp2_with fail
                exact bodyPost_ret (v := .tuple #[.slice none 0 0, .bool false]) (by simp [results, Tryz.results48, go_sem]) rfl (wideOut_no HNO.out HG6.out)
            · have r4 : ¬ (1114111 : Int) < (A : Int) := by omega
              have hb0 : w.heap.size ≤ wr.heap.size := HG6.out.size
              have hvb := (Vals.of_own HO6.out).2
              obtain ⟨a7, c7, w7, hr7, ho7, F7, -⟩ := add_int HO6.out hb0 (by omega) (A : Int) wr.heap.size ((Fr.refl (S := fun _ => False) wr).alloc (.cells #[.int .i64 (A : Int)] 3)) (Blk.new wr 3 #[.int .i64 (A : Int)])
              have G7 := HG6.out.trans' F7 (fun i hi e => absurd hi (by have := hvb i e; omega))
              have HO7 := Lib.hid ho7
              have HG7 := Lib.hid G7
              have HRUN := Lib.hid hr7
              have hl2 : looseL b = (looseL (b.drop (j + 0 + 1))).map ((xs ++ [A]) ++ ·) := by
                rw [HL.out, HD.out, HLC2.out, if_neg hbig, List.drop_drop, Option.map_map, show j + 1 + 0 = j + 0 + 1 from by omega]
                congr 1
                funext l
                simp
              have HL2 := Lib.hid hl2
              have HBIG := Lib.hid hbig
              clear ho7 G7 hr7 hl2 F7 hvb hbig
              all_goals
                go_wp2_with (at_builtin; refine wpList_append_run (by rfl) (.tmp 59) (.tmp 61) 22 (by rfl) _ w7 (by exact HRUN.out) ?_)
                go_roundg (b.length + 4 - (j + 0 + 1))
                case measure => rw [HG.out]; omega
                case rel => exact ⟨xs ++ [A], j + 0 + 1, a7, xs.length + 1, c7, rfl, by omega, rfl, by go_num, (by have := HO7.out; rw [List.length_append, List.length_singleton]; simpa [natInts] using this), HL2.out, le_snoc HXS.out HBIG.out, (by rw [List.length_append, List.length_singleton]; omega), HG7.out⟩
    · have q2 : ¬ (j : Int) < (b.length : Int) := by omega
      have hLb : looseL b = some xs := by rw [HL.out, List.drop_of_length_le (by omega), looseL_nil]; simp
      have hW := wideR_some hLb
      have HW := Lib.hid hW
      have hv6 := (Vals.of_own HO6.out).1
      obtain ⟨a', cap', he, -, -, hz⟩ := Ints.form hv6
      rw [List.length_map] at he hz
      simp only [Value.slice.injEq] at he
      obtain ⟨rfl, rfl, rfl⟩ := he
      have HV6 := Lib.hid hv6
      have HZ := Lib.hid hz
      clear hLb hW hv6 hz HL
      go_wp2_with fail
      obtain ⟨wo, hwo⟩ : ∃ wo : World, wo = wr := ⟨_, rfl⟩
      obtain rfl := hwo
      go_loopg [10] xs.length (fun g k wi => ∃ k1 : Nat, g = xs.length - k1 ∧ k1 ≤ xs.length ∧ k = .int .i64 k1 ∧ (natInts (xs.take k1)).all (mayS 12) = true ∧ wi = wo)
      case atStart => exact ⟨0, rfl, Nat.zero_le _, rfl, rfl, rfl⟩
      case round =>
        obtain ⟨k1, hg, hk, rfl, hall, rfl⟩ := hrel
        have HG2 := Lib.hid hg
        have HALL := Lib.hid hall
        clear hg hall
        by_cases hkl : k1 < xs.length
        · obtain ⟨b8, o8, rfl, hy8⟩ := HZ.out (by omega)
          obtain ⟨n, hn⟩ : ∃ n, xs[k1]? = some n := ⟨_, List.getElem?_eq_getElem hkl⟩
          have en := hy8 k1 n (by rw [List.getElem?_map, hn]; rfl)
          have hat : (natInts (xs.take (k1 + 1))).all (mayS 12) = ((natInts (xs.take k1)).all (mayS 12) && mayS 12 (n : Int)) := by
            rw [List.take_add_one, hn]
            simp [natInts]
          have hno : mayS 12 (n : Int) = false → (natInts xs).all (mayS 12) = false := fun h => by
            rw [List.all_eq_false]
            exact ⟨(n : Int), List.mem_map.2 ⟨n, List.mem_of_getElem? hn, rfl⟩, by simp [h]⟩
          have HAT := Lib.hid hat
          have HNO := Lib.hid hno
          have r1 : (0 : Int) ≤ (k1 : Int) := by omega
          have r2 : (k1 : Int) < (xs.length : Int) := by omega
          clear hy8 hn hat hno
          rcases Bool.eq_false_or_eq_true (mayS 12 (n : Int)) with hm | hm
          · have HM := Lib.hid hm
            have HC := Lib.hid (r06May_any 12 (n : Int))
            clear hm
            go_wp2_with (first | (go_at_call 49; refine (HC.out _).mono ?_; rintro e w' ⟨rfl, rfl⟩; rw [HM.out]))
            go_roundg (xs.length - (k1 + 1))
            case measure => rw [HG2.out]; omega
            case rel => exact ⟨k1 + 1, rfl, by omega, by go_num, by rw [HAT.out, HALL.out, HM.out]; rfl, rfl⟩
          · have HM := Lib.hid hm
            have HC := Lib.hid (r06May_any 12 (n : Int))
            have hnone : wideR b = none := by rw [HW.out, if_neg]; intro h; rw [HNO.out hm] at h; exact absurd h.1 (by decide)
            have HNONE := Lib.hid hnone
            clear hm hnone
            go_wp2_with (first | (go_at_call 49; refine (HC.out _).mono ?_; rintro e w' ⟨rfl, rfl⟩; rw [HM.out]))
            exact bodyPost_ret (v := .tuple #[.slice none 0 0, .bool false]) (by simp [results, Tryz.results48, go_sem]) rfl (wideOut_no HNONE.out HG6.out)
        · have r2 : ¬ (k1 : Int) < (xs.length : Int) := by omega
          have hall : (natInts xs).all (mayS 12) = true := by
            have := HALL.out
            rwa [List.take_of_length_le (by omega)] at this
          have HU := Lib.hid (r06Utf8_any (.slice a6 xs.length c6) xs · · (fun n hn => by have := HXS.out n hn; omega) (by omega))
          have HW2 : wideR b = if encAll xs = b then some xs else none := by rw [HW.out, hall]; simp
          have HWW := Lib.hid HW2
          have hb1 : Bytes wr.drew (.slice a b.length cap) b := (HB.out.old HG6.out).old ((Fr.refl wr).drew)
          have hv1 : Ints wr.drew (.slice a6 xs.length c6) (natInts xs) := HV6.out.old ((Fr.refl wr).drew)
          have G1 : Fr (fun _ => False) w wr.drew := HG6.out.drew
          have S := str_of hb1
          have HB1 := Lib.hid hb1
          have HV1 := Lib.hid hv1
          have HG1 := Lib.hid G1
          clear hall HW2 hb1 hv1 G1 HW HB HV6 HG6 HO6 HX HZ HXS HALL HG HG2
          go_upto_region 25 with fail
          have hF0 : ∀ w5, Fr (fun _ => False) wr.drew w5 → (Go.convert 23 9 (.slice a b.length cap)).run Tryz.prog w5 = .ok (str b) w5 := fun w5 F5 => str_of (HB1.out.old F5)
          have HF0 := Lib.hid hF0
          clear hF0
          by_cases hq : encAll xs = b
          · have z1 : (encAll xs == b) = true := beq_iff_eq.2 hq
            have z2 : (encAll xs != b) = false := by rw [bne, z1]; rfl
            have HR := Lib.hid (show wideR b = some xs by rw [HWW.out, if_pos hq])
            clear hq
            go_region_with (first
              | (go_at_call 28; refine (HU.out _ HV1.out).mono ?_; rintro e w5 ⟨v5, rfl, ho5, F5⟩; obtain ⟨a5, m5, c5, rfl, rfl⟩ := own_shape ho5; have S5 := HF0.out _ F5; have C5 := str_of (Vals.of_own ho5).1))
            all_goals
              have hvv : Ints w5 (.slice a6 xs.length c6) (natInts xs) := HV1.out.old F5
              have HVV := Lib.hid hvv
              have HG5 := Lib.hid (HG1.out.trans F5)
              clear hvv F5 ho5 S S5 C5
              go_wp2_with fail
              refine bodyPost_ret (v := .tuple #[.slice a6 xs.length c6, .bool true]) (by simp [results, Tryz.results48, go_sem]) rfl ⟨_, by rw [HR.out]; rfl, by rw [HR.out]; exact HVV.out, HG5.out⟩
          · have z1 : (encAll xs == b) = false := beq_eq_false_iff_ne.2 hq
            have z2 : (encAll xs != b) = true := by rw [bne, z1]; rfl
            have HR := Lib.hid (show wideR b = none by rw [HWW.out, if_neg hq])
            clear hq
            go_region_with (first
              | (go_at_call 28; refine (HU.out _ HV1.out).mono ?_; rintro e w5 ⟨v5, rfl, ho5, F5⟩; obtain ⟨a5, m5, c5, rfl, rfl⟩ := own_shape ho5; have S5 := HF0.out _ F5; have C5 := str_of (Vals.of_own ho5).1))
            all_goals
              have HG5 := Lib.hid (HG1.out.trans F5)
              clear F5 ho5 S S5 C5
              go_wp2_with fail
              exact bodyPost_ret (v := .tuple #[.slice none 0 0, .bool false]) (by simp [results, Tryz.results48, go_sem]) rfl (wideOut_no HR.out HG5.out)
end Go.Proofs.YtgffhiopbnkjbaaGreatDoor

namespace Go.Q
open Go Go.RowKit
/-- A text's signs, as the reference reads them. -/
def sigR (k : Int) (b : List UInt8) : Option (List Int) :=
  if kindOk k = true then
    (if k = 12 then (wideR b).map natInts else
      if k = 30 ∧ b.length % 2 = 1 then none else if (signsS k b).all (mayS k) = true then some (signsS k b) else none)
  else none
theorem sigR_ok {k : Int} {b : List UInt8} {l : List Int} (h : sigR k b = some l) : rightS k b = true ∧ signsS k b = l := by
  unfold sigR at h
  split at h
  · rename_i hk
    split at h
    · rename_i h12
      subst h12
      cases hw : wideR b with
      | none => rw [hw] at h; cases h
      | some ns =>
        rw [hw] at h
        simp only [Option.map_some, Option.some.injEq] at h
        have := wideR_ok hw
        exact ⟨this.2.2.2, this.2.2.1.trans h⟩
    · split at h
      · cases h
      · split at h
        · rename_i ha
          simp only [Option.some.injEq] at h
          exact ⟨by unfold rightS; rw [hk, ha]; rfl, h⟩
        · cases h
  · cases h
theorem pairs_snoc (x y : UInt8) : ∀ (l : List UInt8), l.length % 2 = 0 → pairsS (l ++ [x, y]) = pairsS l ++ [((x.toNat * 256 + y.toNat : Nat) : Int)]
  | [], _ => rfl
  | [_], h => by simp at h
  | a :: b :: t, h => by
    have := pairs_snoc x y t (by simp at h; omega)
    simp only [List.cons_append, pairsS, this]
theorem pairs_take {b : List UInt8} {m : Nat} {x y : UInt8} (hx : b[2 * m]? = some x) (hy : b[2 * m + 1]? = some y) : pairsS (b.take (2 * (m + 1))) = pairsS (b.take (2 * m)) ++ [((x.toNat * 256 + y.toNat : Nat) : Int)] := by
  have h1 : b.take (2 * m + 1) = b.take (2 * m) ++ [x] := by rw [List.take_add_one, hx]; rfl
  have h2 : b.take (2 * m + 2) = b.take (2 * m + 1) ++ [y] := by rw [show 2 * m + 2 = 2 * m + 1 + 1 from rfl, List.take_add_one, hy]; rfl
  rw [show 2 * (m + 1) = 2 * m + 2 from by omega, h2, h1, List.append_assoc]
  refine pairs_snoc x y _ ?_
  have := (List.getElem?_eq_some_iff.1 hx).1
  rw [List.length_take]
  omega
theorem pairs_len (b : List UInt8) (h : b.length % 2 = 0) : ∀ m, 2 * m ≤ b.length → (pairsS (b.take (2 * m))).length = m
  | 0, _ => rfl
  | m + 1, hm => by
    have hx : b[2 * m]? = some b[2 * m] := List.getElem?_eq_getElem (by omega)
    have hy : b[2 * m + 1]? = some b[2 * m + 1] := List.getElem?_eq_getElem (by omega)
    rw [pairs_take hx hy, List.length_append, pairs_len b h m (by omega)]
    rfl
end Go.Q
namespace Go.Proofs.YtgffhiopbnkjbaaGreatDoor
open Go Go.RowKit Go.Q

def RSigOut (w w' : World) (k : Int) (b : List UInt8) (e : Ending) : Prop :=
  ∃ v, e = .returned (.tuple #[v, .bool (sigR k b).isSome]) ∧ Ints w' v ((sigR k b).getD []) ∧ Fr (fun _ => False) w w'
theorem sigOut_no {w w' : World} {k : Int} {b : List UInt8} (h : sigR k b = none) (F : Fr (fun _ => False) w w') : RSigOut w w' k b (.returned (.tuple #[.slice none 0 0, .bool false])) := by
  refine ⟨_, by rw [h]; rfl, ?_, F⟩
  rw [h]
  exact Vals.nil w'

set_option maxRecDepth 20000 in
set_option maxHeartbeats 4000000 in
theorem r06Signs_12 (v : Value) (b : List UInt8) (w : World) (h : Bytes w v b) (hlim : b.length ≤ 16777216) :
    Calls Tryz.prog 9 #[.agg #[.int .i64 12, v]] w fun e w' => RSigOut w w' 12 b e := by
  obtain ⟨a, cap, rfl, -, -, hx⟩ := h.form
  have HB := Lib.hid h
  have HX := Lib.hid hx
  obtain ⟨z, hz⟩ : ∃ z, z = w.heap.size := ⟨_, rfl⟩
  have B := Blk.new w 25 #[.int .i64 12, .slice a b.length cap]
  have F0 : Fr (fun _ => False) w (w.alloc (.cells #[.int .i64 12, .slice a b.length cap] 25)) := (Fr.refl w).alloc _
  rw [← hz] at B
  have HZ := Lib.hid hz
  have HF0 := Lib.hid F0
  clear h hx hz F0
  go_enter Tryz.func9, Tryz.ntmps9
  go_upto_region 1 with fail
  rw [← HZ.out]
  generalize (w.alloc (.cells #[.int .i64 12, .slice a b.length cap] 25)) = w0 at *
  have t0 := B.cell 0
  have t1 := B.cell 1
  simp only [List.getElem?_toArray, List.getElem?_cons_succ, List.getElem?_cons_zero] at t0 t1
  have hk : Go.Q.kindOk 12 = true := rfl
  have HC := Lib.hid (r06Kind_any 12)
  have HW := Lib.hid (r06wide_any (.slice a b.length cap) b w0 (HB.out.old HF0.out) hlim)
  have hs : sigR 12 b = (wideR b).map natInts := by unfold sigR; rw [if_pos hk, if_pos rfl]
  have HS := Lib.hid hs
  have HKK := Lib.hid hk
  clear hs hk
  go_wp2_with (first | (go_at_call 47; refine (HC.out _).mono ?_; rintro e w' ⟨rfl, rfl⟩; rw [HKK.out]))
  refine HW.out.mono ?_
  rintro e w5 ⟨v5, rfl, hi5, F5⟩
  obtain ⟨a5, m5, c5, rfl⟩ : ∃ a m c, v5 = .slice a m c := by
    obtain ⟨a, c, h, -⟩ := Ints.form hi5
    exact ⟨a, _, c, h⟩
  have HI5 := Lib.hid hi5
  have HF5 := Lib.hid (HF0.out.trans F5)
  clear hi5 F5 HW HC
  go_wp2_with fail
  refine bodyPost_ret (v := .tuple #[.slice a5 m5 c5, .bool (wideR b).isSome]) (by simp [results, Tryz.results9, go_sem]) rfl (show RSigOut w w5 12 b _ from ⟨.slice a5 m5 c5, ?_, ?_, HF5.out⟩)
  · rw [HS.out]
    cases wideR b <;> rfl
  · have := HI5.out
    rw [HS.out]
    cases hw : wideR b with
    | none => rw [hw] at this; exact this
    | some ns => rw [hw] at this; exact this

set_option maxRecDepth 20000 in
set_option maxHeartbeats 4000000 in
theorem r06Signs_none (k : Int) (hk : Go.Q.kindOk k = false) (v : Value) (b : List UInt8) (w : World) (h : Bytes w v b) (_hlim : b.length ≤ 16777216) :
    Calls Tryz.prog 9 #[.agg #[.int .i64 k, v]] w fun e w' => RSigOut w w' k b e := by
  obtain ⟨a, cap, rfl, -, -, hx⟩ := h.form
  have HB := Lib.hid h
  have HX := Lib.hid hx
  obtain ⟨z, hz⟩ : ∃ z, z = w.heap.size := ⟨_, rfl⟩
  have B := Blk.new w 25 #[.int .i64 k, .slice a b.length cap]
  have F0 : Fr (fun _ => False) w (w.alloc (.cells #[.int .i64 k, .slice a b.length cap] 25)) := (Fr.refl w).alloc _
  rw [← hz] at B
  have HZ := Lib.hid hz
  have HF0 := Lib.hid F0
  clear h hx hz F0
  go_enter Tryz.func9, Tryz.ntmps9
  go_upto_region 1 with fail
  rw [← HZ.out]
  generalize (w.alloc (.cells #[.int .i64 k, .slice a b.length cap] 25)) = w0 at *
  have t0 := B.cell 0
  have t1 := B.cell 1
  simp only [List.getElem?_toArray, List.getElem?_cons_succ, List.getElem?_cons_zero] at t0 t1
  have HC := Lib.hid (r06Kind_any k)
  have hn : sigR k b = none := by unfold sigR; rw [hk]; rfl
  have HN := Lib.hid hn
  have HKK := Lib.hid hk
  clear hn hk
  go_wp2_with (first | (go_at_call 47; refine (HC.out _).mono ?_; rintro e w' ⟨rfl, rfl⟩; rw [HKK.out]))
  exact bodyPost_ret (v := .tuple #[.slice none 0 0, .bool false]) (by simp [results, Tryz.results9, go_sem]) rfl (sigOut_no HN.out HF0.out)
end Go.Proofs.YtgffhiopbnkjbaaGreatDoor
