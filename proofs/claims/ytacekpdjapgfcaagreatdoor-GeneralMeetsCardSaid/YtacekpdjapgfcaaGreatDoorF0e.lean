/-
  Merged by program: XKyS XKyT XR13H XGenU XMaps XGenM XGenMi XGenMe XR03S XR03 XR03T XR04T XR13S XR13 XR13K XR01H XR14T XR14K XR15Ky XR15Sm XR15Mt XGmW.
-/
import Derived.Test.YtacekpdjapgfcaaGreatDoorF0c
import Derived.Sort.Walk0
import Derived.Test.YtacekpdjapgfcaaGreatDoorF0d
import Derived.Test.YtacekpdjapgfcaaGreatDoorF0b
import Derived.Deep.Slices
import Derived.Deep.CutBlock
import Derived.Deep.CutRange
import Derived.Deep.Cut
import Derived.Lib.SlBytesConst
import Derived.Test.YtacekpdjapgfcaaGreatDoorF0a
import Derived.MapKept
import Derived.Lib.ItoaNum
import Derived.Deep.RegionLaw
import Derived.Laws.Cover1
namespace Go.Q
open Go
abbrev Key1 := List UInt8
theorem k_lt_of {a b : Key1} (h : a ≤ b) (hn : a ≠ b) : a < b := Std.lt_of_le_of_ne h hn
def behindB (last : Option Key1) (k : Key1) : Bool := match last with | none => true | some l => decide (l < k)
def betterB (best : Option Key1) (k : Key1) : Bool := match best with | none => true | some b => decide (k < b)
def pickStep (last best : Option Key1) (k : Key1) : Option Key1 := if (behindB last k && betterB best k) = true then some k else best
def pickS (last : Option Key1) (ks : List Key1) : Option Key1 := ks.foldl (pickStep last) none
theorem pickS_snoc (last : Option Key1) (ks : List Key1) (k : Key1) : pickS last (ks ++ [k]) = pickStep last (pickS last ks) k := by
  unfold pickS
  simp [List.foldl_append]
theorem pickS_spec (last : Option Key1) : ∀ ks : List Key1, match pickS last ks with
    | none => ∀ k ∈ ks, behindB last k = false
    | some m => m ∈ ks ∧ behindB last m = true ∧ ∀ k ∈ ks, behindB last k = true → m ≤ k := by
  intro ks
  induction hn : ks.length generalizing ks with
  | zero =>
    obtain rfl := List.length_eq_zero_iff.1 hn
    intro k hk
    cases hk
  | succ n ih =>
    have hne : ks ≠ [] := fun e => by simp [e] at hn
    obtain ⟨ts, k, rfl⟩ : ∃ ts k, ks = ts ++ [k] := ⟨ks.dropLast, ks.getLast hne, (List.dropLast_concat_getLast hne).symm⟩
    have hi := ih ts (by simpa using hn)
    rw [pickS_snoc]
    cases hp : pickS last ts with
    | none =>
      rw [hp] at hi
      simp only at hi
      unfold pickStep betterB
      cases hb : behindB last k with
      | true =>
        simp only [Bool.and_self, if_true]
        refine ⟨by simp, hb, fun x hx hxb => ?_⟩
        rcases List.mem_append.1 hx with h | h
        · rw [hi x h] at hxb; cases hxb
        · rw [List.mem_singleton.1 h]; exact Std.le_refl k
      | false =>
        simp only [Bool.false_and, Bool.false_eq_true, if_false]
        intro x hx
        rcases List.mem_append.1 hx with h | h
        · exact hi x h
        · rw [List.mem_singleton.1 h]; exact hb
    | some m =>
      rw [hp] at hi
      simp only at hi
      obtain ⟨h1, h2, h3⟩ := hi
      unfold pickStep betterB
      by_cases hc : (behindB last k && decide (k < m)) = true
      · simp only [hc, if_true]
        rw [Bool.and_eq_true, decide_eq_true_eq] at hc
        refine ⟨by simp, hc.1, fun x hx hxb => ?_⟩
        rcases List.mem_append.1 hx with h | h
        · exact Std.le_of_lt (Std.lt_of_lt_of_le hc.2 (h3 x h hxb))
        · rw [List.mem_singleton.1 h]; exact Std.le_refl k
      · simp only [if_neg hc]
        refine ⟨List.mem_append_left _ h1, h2, fun x hx hxb => ?_⟩
        rcases List.mem_append.1 hx with h | h
        · exact h3 x h hxb
        · rw [List.mem_singleton.1 h] at hxb ⊢
          rw [hxb, Bool.true_and, decide_eq_true_eq] at hc
          exact Std.not_lt.1 hc
theorem up_get {D : List Key1} (hD : D.Pairwise (· < ·)) {i j : Nat} {x y : Key1} (hx : D[i]? = some x) (hy : D[j]? = some y) (h : x < y) : i < j := by
  rcases Nat.lt_or_ge i j with hl | hl
  · exact hl
  · obtain ⟨hi, rfl⟩ := List.getElem?_eq_some_iff.1 hx
    obtain ⟨hj, rfl⟩ := List.getElem?_eq_some_iff.1 hy
    rcases Nat.lt_or_ge j i with h2 | h2
    · exact absurd (Std.lt_trans h (List.pairwise_iff_getElem.1 hD j i hj hi h2)) (Std.lt_irrefl)
    · have : i = j := by omega
      subst this
      exact absurd h (Std.lt_irrefl)
def lastOf (D : List Key1) (j : Nat) : Option Key1 := if j = 0 then none else D[j - 1]?
theorem pick_next {D ks : List Key1} (hD : D.Pairwise (· < ·)) (hm : ∀ x, x ∈ D ↔ x ∈ ks) (j : Nat) (hj : j ≤ D.length) : pickS (lastOf D j) ks = D[j]? := by
  have hbeh : ∀ i x, D[i]? = some x → (behindB (lastOf D j) x = true ↔ j ≤ i) := by
    intro i x hx
    unfold lastOf
    by_cases h0 : j = 0
    · subst h0; simp [behindB]
    · rw [if_neg h0]
      obtain ⟨y, hy⟩ : ∃ y, D[j - 1]? = some y := ⟨_, List.getElem?_eq_getElem (by omega)⟩
      rw [hy]
      simp only [behindB, decide_eq_true_eq]
      constructor
      · intro h
        have := up_get hD hy hx h
        omega
      · intro h
        obtain ⟨hi, rfl⟩ := List.getElem?_eq_some_iff.1 hx
        obtain ⟨hj1, rfl⟩ := List.getElem?_eq_some_iff.1 hy
        exact List.pairwise_iff_getElem.1 hD (j - 1) i hj1 hi (by omega)
  have hs := pickS_spec (lastOf D j) ks
  rcases Nat.lt_or_ge j D.length with hl | hl
  · obtain ⟨y, hy⟩ : ∃ y, D[j]? = some y := ⟨_, List.getElem?_eq_getElem hl⟩
    have hyk := (hm y).1 (List.mem_of_getElem? hy)
    have hyb := (hbeh j y hy).2 (Nat.le_refl _)
    cases hp : pickS (lastOf D j) ks with
    | none =>
      rw [hp] at hs
      rw [hs y hyk] at hyb
      cases hyb
    | some m =>
      rw [hp] at hs
      obtain ⟨h1, h2, h3⟩ := hs
      obtain ⟨i, hi⟩ := List.mem_iff_getElem?.1 ((hm m).2 h1)
      have hji := (hbeh i m hi).1 h2
      have hle := h3 y hyk hyb
      rcases Nat.lt_or_ge j i with h4 | h4
      · obtain ⟨hi', rfl⟩ := List.getElem?_eq_some_iff.1 hi
        obtain ⟨hj', rfl⟩ := List.getElem?_eq_some_iff.1 hy
        have := List.pairwise_iff_getElem.1 hD j i hj' hi' h4
        exact absurd (Std.lt_of_lt_of_le this hle) (Std.lt_irrefl)
      · have : i = j := by omega
        rw [← this, hi]
  · rw [List.getElem?_eq_none hl]
    cases hp : pickS (lastOf D j) ks with
    | none => rfl
    | some m =>
      rw [hp] at hs
      obtain ⟨h1, h2, -⟩ := hs
      obtain ⟨i, hi⟩ := List.mem_iff_getElem?.1 ((hm m).2 h1)
      have := (hbeh i m hi).1 h2
      have := (List.getElem?_eq_some_iff.1 hi).1
      omega
theorem sortS_up (ks : List Key1) : (sortS ks).Pairwise (· ≤ ·) := by
  have := List.pairwise_mergeSort (le := fun x y : Key1 => decide (x ≤ y)) (fun a b c h1 h2 => by
    simp only [decide_eq_true_eq] at h1 h2 ⊢
    exact Std.le_trans h1 h2) (fun a b => by
    rcases Std.le_total (a := a) (b := b) with h | h
    · simp [h]
    · simp [h]) ks
  exact this.imp (fun h => by simpa using h)
theorem get_bang {S : List Key1} {m : Nat} (h : m < S.length) : S.toArray[m]! = S[m] := by simp [getElem!_pos, h]
theorem compact_up {S : List Key1} (hS : S.Pairwise (· ≤ ·)) : ∀ m, m ≤ S.length → (Lib.compactUpTo S.toArray m).Pairwise (· < ·) ∧ ∀ x, x ∈ Lib.compactUpTo S.toArray m ↔ x ∈ S.take m
  | 0, _ => by simp [Lib.compactUpTo]
  | m + 1, hm => by
    obtain ⟨h1, h2⟩ := compact_up hS m (by omega)
    rw [Lib.compactUpTo_succ]
    have hml : m < S.length := by omega
    have ht : S.take (m + 1) = S.take m ++ [S[m]] := by rw [List.take_add_one, List.getElem?_eq_getElem hml]; rfl
    rw [ht, get_bang hml]
    by_cases hk : Lib.keeps S.toArray m = true
    · rw [if_pos hk]
      refine ⟨?_, fun x => by simp only [List.mem_append, h2]⟩
      refine List.pairwise_append.2 ⟨h1, by simp, fun x hx y hy => ?_⟩
      rw [List.mem_singleton.1 hy]
      have hx2 := (h2 x).1 hx
      obtain ⟨i, hi⟩ := List.mem_iff_getElem?.1 hx2
      rw [List.getElem?_take] at hi
      split at hi
      · rename_i him
        obtain ⟨hil, rfl⟩ := List.getElem?_eq_some_iff.1 hi
        unfold Lib.keeps at hk
        have hm0 : m ≠ 0 := by omega
        simp only [decide_eq_true_eq, hm0, false_or] at hk
        rw [get_bang hml, get_bang (show m - 1 < S.length by omega)] at hk
        have hle : S[i] ≤ S[m - 1] := by
          rcases Nat.lt_or_ge i (m - 1) with h | h
          · exact List.pairwise_iff_getElem.1 hS i (m - 1) hil (by omega) h
          · have : i = m - 1 := by omega
            subst this
            exact Std.le_refl _
        have hle2 : S[m - 1] ≤ S[m] := List.pairwise_iff_getElem.1 hS (m - 1) m (by omega) hml (by omega)
        exact Std.lt_of_le_of_lt hle (k_lt_of hle2 (fun e => hk e.symm))
      · cases hi
    · rw [if_neg hk, List.append_nil]
      refine ⟨h1, fun x => ?_⟩
      rw [h2, List.mem_append, List.mem_singleton]
      constructor
      · exact .inl
      · rintro (h | rfl)
        · exact h
        · unfold Lib.keeps at hk
          simp only [decide_eq_true_eq, not_or, Classical.not_not] at hk
          obtain ⟨hm0, he⟩ := hk
          rw [get_bang hml, get_bang (show m - 1 < S.length by omega)] at he
          rw [he]
          exact List.mem_iff_getElem?.2 ⟨m - 1, by rw [List.getElem?_take, if_pos (by omega), List.getElem?_eq_getElem (by omega)]⟩
def keysS (l : List Part) : List Key1 := Lib.compact (sortS (partKeys l))
theorem keysS_up (l : List Part) : (keysS l).Pairwise (· < ·) ∧ ∀ x, x ∈ keysS l ↔ x ∈ partKeys l := by
  obtain ⟨h1, h2⟩ := compact_up (sortS_up (partKeys l)) (sortS (partKeys l)).length (Nat.le_refl _)
  refine ⟨h1, fun x => ?_⟩
  have := h2 x
  rw [List.take_length] at this
  exact this.trans (by simp [sortS])
theorem keysS_next (l : List Part) (j : Nat) (hj : j ≤ (keysS l).length) : pickS (lastOf (keysS l) j) (partKeys l) = (keysS l)[j]? := pick_next (keysS_up l).1 (keysS_up l).2 j hj
theorem join_take (c : UInt8) {ks : List Key1} {j : Nat} {k : Key1} (h : ks[j]? = some k) : Lib.join (ks.take (j + 1)) [c] = (if j = 0 then [] else Lib.join (ks.take j) [c] ++ [c]) ++ k := by
  induction ks generalizing j with
  | nil => simp at h
  | cons x t ih =>
    cases j with
    | zero =>
      simp at h
      subst h
      simp [Lib.join]
    | succ j =>
      rw [List.getElem?_cons_succ] at h
      have e := ih h
      rw [List.take_succ_cons, List.take_succ_cons]
      cases t with
      | nil => simp at h
      | cons y s =>
        rw [List.take_succ_cons] at e ⊢
        have e1 : ∀ z, Lib.join (x :: y :: z) [c] = x ++ ([c] ++ Lib.join (y :: z) [c]) := fun z => by simp [Lib.join, List.intercalate]
        rw [e1, e, if_neg (Nat.succ_ne_zero j)]
        cases j with
        | zero => simp [Lib.join]
        | succ j =>
          rw [List.take_succ_cons, e1, if_neg (Nat.succ_ne_zero j)]
          simp
end Go.Q

namespace Go.Q
open Go
theorem behind_eq (o : Option Key1) (p : Key1) : behindB o p = (!o.isSome || decide (o.getD [] < p)) := by cases o <;> rfl
theorem better_eq (o : Option Key1) (p : Key1) : betterB o p = (!o.isSome || decide (p < o.getD [])) := by cases o <;> rfl
theorem partKeys_snoc {r : List Part} {k : Nat} {p : Part} (h : r[k]? = some p) : partKeys (r.take (k + 1)) = partKeys (r.take k) ++ [attrKeyS p.o p.b] := by
  unfold partKeys
  rw [List.take_add_one, h]
  simp
theorem keysS_len (r : List Part) : (keysS r).length ≤ r.length := by
  have hcl := Lib.compact_length_le (sortS (partKeys r))
  have hsl : (sortS (partKeys r)).length = r.length := by simp [sortS, partKeys]
  unfold keysS
  omega
theorem keysS_mem {r : List Part} {x : Key1} (h : x ∈ keysS r) : ∃ p ∈ r, x = attrKeyS p.o p.b := by
  have h3 := sort_mem (compact_mem h)
  obtain ⟨p, hp, rfl⟩ := List.mem_map.1 h3
  exact ⟨p, hp, rfl⟩
theorem lastOf_isSome {D : List Key1} {c : Nat} (hc : c ≤ D.length) : (lastOf D c).isSome = decide (c ≠ 0) := by
  unfold lastOf
  by_cases h0 : c = 0
  · rw [if_pos h0, decide_eq_false (fun h => h h0)]
    rfl
  · rw [if_neg h0, decide_eq_true h0, List.getElem?_eq_getElem (by omega)]
    rfl
theorem lastOf_succ {D : List Key1} {c : Nat} : lastOf D (c + 1) = D[c]? := by
  unfold lastOf
  rw [if_neg (Nat.succ_ne_zero c), Nat.add_sub_cancel]
theorem joinF_len (c : UInt8) (M N : Nat) {ks : List Key1} (h : ∀ k ∈ ks, k.length ≤ M) (hn : ks.length ≤ N) (j : Nat) : (Lib.join (ks.take j) [c]).length ≤ N * (M + 1) := by
  have := join_len c M (ks.take j) (fun k hk => h k (List.mem_of_mem_take hk))
  have h2 : (ks.take j).length * (M + 1) ≤ N * (M + 1) := Nat.mul_le_mul_right _ (by rw [List.length_take]; omega)
  omega
theorem less_of {x y : Key1} : Op.bytesLess x y = decide (x < y) := Go.Proofs.bytesLess_eq x y
theorem greater_of (x y : Key1) : (!(Op.bytesLess x y || x == y)) = decide (y < x) := by
  rw [less_of]
  by_cases h : y < x
  · rw [decide_eq_true h]
    have h1 : ¬ x < y := fun h2 => absurd (Std.lt_trans h h2) (Std.lt_irrefl)
    have h2 : x ≠ y := fun e => absurd (e ▸ h) (Std.lt_irrefl)
    rw [decide_eq_false h1, Bool.false_or]
    simpa using h2
  · rw [decide_eq_false h]
    rcases Classical.em (x = y) with rfl | hne
    · simp
    · have := k_lt_of (Std.not_lt.1 h) hne
      rw [decide_eq_true this]
      rfl
end Go.Q

namespace Go.Proofs.YtacekpdjapgfcaaGreatDoor
open Go Go.RowKit Go.Q
set_option linter.unusedSimpArgs false
theorem addStr {w wa : World} {base m : Nat} {v : Value} {xs : List (List UInt8)} (hown : w.ownsRow base 9 1 v m (xs.map str)) (hb : base ≤ w.heap.size) (hm : m ≤ 109951162777) (x : List UInt8) (g : Nat) (F1 : Fr (fun _ => False) w wa) (BX : Blk wa g 9 #[str x]) :
    ∃ a c w', (Builtin.append_ #[68, 68] 68 #[v, .slice (some ⟨g, 0, none⟩) 1 1]).run Tryz.prog wa = .ok (.slice a (m + 1) c) w' ∧ w'.ownsRow base 9 1 (.slice a (m + 1) c) (m + 1) ((xs ++ [x]).map str) ∧ Fr (fun k => v.ownBlock = some k) w w' := by
  rw [List.map_append]
  obtain ⟨a, c, w', h1, h2, h3, -⟩ := add_gen Tryz.underlying68 info9 rfl (by decide) (by decide) hown hb F1 g [str x] rfl BX (by simp [Value.oneCell']) hm
  exact ⟨a, c, w', h1, h2, h3⟩
set_option maxRecDepth 20000 in
set_option maxHeartbeats 2000000 in
theorem r13Lower_any (l : List UInt8) (w : World) (hl : l.length ≤ 1000000000) :
    Calls Tryz.prog 99 #[str l] w fun e w' => e = .returned (str (lowerS l)) ∧ Fr (fun _ => False) w w' := by
  have hs : (ByteArray.mk l.toArray).size = l.length := str_size l
  go_enter Tryz.func99, Tryz.ntmps99
  go_wp2_with fail
  go_loopg [3, 4] l.length (fun g u i wr => ∃ (j : Nat) (a : Option Addr) (c : Nat), g = l.length - j ∧ j ≤ l.length ∧ u = .slice a j c ∧ i = .int .i64 j ∧ wr.ownsRow w.heap.size 5 1 (.slice a j c) j (Lib.byteCells (lowerS (l.take j))) ∧ Fr (fun _ => False) w wr)
  case atStart => exact ⟨0, none, 0, rfl, Nat.zero_le _, rfl, rfl, ⟨rfl, .inl ⟨rfl, rfl⟩⟩, Fr.refl _⟩
  case round =>
    obtain ⟨j, a, c, hg, hj, rfl, rfl, ho, F⟩ := hrel
    have HG := Lib.hid hg
    have HOW := Lib.hid ho
    have HF := Lib.hid F
    have hvb := Lib.hid (Vals.of_own ho).2
    clear hg ho F
    by_cases hjl : j < l.length
    · obtain ⟨x, hx⟩ : ∃ x, l[j]? = some x := ⟨_, List.getElem?_eq_getElem hjl⟩
      have r1 : (0 : Int) ≤ (j : Int) := by omega
      have r2 : (j : Int) < (l.length : Int) := by omega
      have s1 := fun w => str_index hx w
      have HX := Lib.hid hx
      obtain ⟨a7, c7, w7, hr7, ho7, F7⟩ := add_bytes HOW.out [lowB x] #[.int .u8 ((lowB x).toNat : Int)] rfl 1 rfl (by omega) HF.out.size
      have HF7 := Lib.hid (HF.out.trans' F7 (fun i hi e => by have := (hvb.out i e).1; omega))
      have HO7 := Lib.hid (show w7.ownsRow w.heap.size 5 1 (.slice a7 (j + 1) c7) (j + 1) (Lib.byteCells (lowerS (l.take (j + 1)))) from by
        have e : lowerS (l.take (j + 1)) = lowerS (l.take j) ++ [lowB x] := by
          rw [List.take_add_one, HX.out]
          simp [lowerS]
        rw [e]
        exact ho7)
      have HRUN := Lib.hid hr7
      have hlow := lowB_toNat x
      have hx256 : x.toNat < 256 := x.toNat_lt
      clear hx ho7 F7 hr7
      obtain ⟨n, hn⟩ : ∃ n, n = x.toNat := ⟨_, rfl⟩
      rw [← hn] at s1 hlow hx256
      clear hn
      generalize (lowB x).toNat = m at *
      rcases Nat.lt_or_ge 64 n with h1 | h1
      · rcases Nat.lt_or_ge n 91 with h2 | h2
        · rw [if_pos (by omega)] at hlow
          have q1 : (64 : Int) < (n : Int) := by omega
          have q2 : (n : Int) < 91 := by omega
          have q3 : IntKind.u8.wrap ((n : Int) + 32) = (m : Int) := by
            simp [IntKind.wrap, IntKind.signed, IntKind.bits]
            omega
          clear hlow hx256 h1 h2
          have HQ3 := Lib.hid q3
          clear q3
          go_upto_region 7 with fail
          have q3 := HQ3.out
          go_wp2_with (at_builtin; refine wpList_append_run (by rfl) (.tmp 23) (.tmp 25) 23 (by rfl) _ w7 (by exact HRUN.out) ?_)
          go_roundg (l.length - (j + 1))
          case measure => rw [HG.out]; omega
          case rel => exact ⟨j + 1, a7, c7, rfl, by omega, rfl, by go_num, HO7.out, HF7.out⟩
        · rw [if_neg (by omega)] at hlow
          subst hlow
          have q1 : (64 : Int) < (m : Int) := by omega
          have q2 : ¬ (m : Int) < 91 := by omega
          clear hx256 h1 h2
          go_wp2_with (at_builtin; refine wpList_append_run (by rfl) (.tmp 23) (.tmp 25) 23 (by rfl) _ w7 (by exact HRUN.out) ?_)
          go_roundg (l.length - (j + 1))
          case measure => rw [HG.out]; omega
          case rel => exact ⟨j + 1, a7, c7, rfl, by omega, rfl, by go_num, HO7.out, HF7.out⟩
      · rw [if_neg (by omega)] at hlow
        subst hlow
        have q1 : ¬ (64 : Int) < (m : Int) := by omega
        clear hx256 h1
        go_wp2_with (at_builtin; refine wpList_append_run (by rfl) (.tmp 23) (.tmp 25) 23 (by rfl) _ w7 (by exact HRUN.out) ?_)
        go_roundg (l.length - (j + 1))
        case measure => rw [HG.out]; omega
        case rel => exact ⟨j + 1, a7, c7, rfl, by omega, rfl, by go_num, HO7.out, HF7.out⟩
    · obtain rfl : j = l.length := by omega
      have ho := HOW.out
      rw [List.take_length] at ho
      have hsr := str_of (Vals.of_own ho).1
      clear ho
      go_wp2_with fail
      go_ret
      exact ⟨rfl, HF.out⟩
def labelsOut (w' : World) (base : Nat) (r : Option (List (List UInt8))) (e : Ending) : Prop :=
  match r with
  | some ks => ∃ a c, e = .returned (.tuple #[.slice a ks.length c, .bool true]) ∧ w'.ownsRow base 9 1 (.slice a ks.length c) ks.length (ks.map str)
  | none => e = .returned (.tuple #[.slice none 0 0, .bool false])
set_option maxRecDepth 100000 in
set_option maxHeartbeats 8000000 in
theorem r13Labels_any (l : List UInt8) (w : World) (hl : l.length ≤ 1000000000) :
    Calls Tryz.prog 144 #[str l] w fun e w' => labelsOut w' w.heap.size (labelsS l) e ∧ Fr (fun _ => False) w w' := by
  have hlb : labelsS l = if 253 < (dotS (lowerS l)).length then none else labGo [] [] (dotS (lowerS l)) := rfl
  have HLB := Lib.hid hlb
  have HLW := Lib.hid (r13Lower_any l w hl)
  have hll := lower_len l
  clear hlb
  generalize lowerS l = m at *
  have hml : m.length ≤ 1000000000 := by omega
  clear hll
  have hms : (ByteArray.mk m.toArray).size = m.length := str_size m
  obtain ⟨t, ht⟩ : ∃ t, t = dotS m := ⟨_, rfl⟩
  have hdm := dot_len m
  rw [← ht] at HLB hdm
  go_enter Tryz.func144, Tryz.ntmps144
  go_wp2_with fail
  refine HLW.out.mono ?_
  rintro e w1 ⟨rfl, F1⟩
  have HF1 := Lib.hid F1
  clear F1 HLW
  have hc : m = [] ∨ (∃ x, m.getLast? = some x ∧ x ≠ 46 ∧ m ≠ []) ∨ m.getLast? = some 46 := by
    cases hm : m.getLast? with
    | none => exact .inl (List.getLast?_eq_none_iff.1 hm)
    | some x =>
      by_cases hx : x = 46
      · exact .inr (.inr (by rw [hx]))
      · exact .inr (.inl ⟨x, rfl, hx, by rintro rfl; simp at hm⟩)
  have htt : (m.getLast? ≠ some 46 ∧ t = m) ∨ (m.getLast? = some 46 ∧ t = m.take (m.length - 1)) := by
    rw [ht]
    unfold dotS
    by_cases h : m.getLast? = some 46
    · exact .inr ⟨h, by rw [if_pos h, List.dropLast_eq_take]⟩
    · exact .inl ⟨h, by rw [if_neg h]⟩
  have HTT := Lib.hid htt
  have HC := Lib.hid hc
  clear ht hc htt
  go_upto_region 2 with fail
  go_cut [20] from 10 to 20 (fun s wc => s = .bool (decide (m.getLast? = some 46)) ∧ wc = w1)
  case first =>
    rcases HC.out with hc | ⟨x, hc, hx, hne⟩ | hc
    · have q1 : decide ((0 : Int) < (m.length : Int)) = false := by rw [hc]; rfl
      have q2 : ¬ (0 : Int) < (m.length : Int) := of_decide_eq_false q1
      have HD := Lib.hid (show decide (m.getLast? = some 46) = false by rw [hc]; rfl)
      clear hc HTT HLB HC
      go_wp2_with fail
      go_meet
      exact ⟨by rw [HD.out], rfl⟩
    · have h0 : 0 < m.length := List.length_pos_iff.2 hne
      have hg : m[m.length - 1]? = some x := by rw [← List.getLast?_eq_getElem?]; exact hc
      have s1 := fun w => str_index hg w
      have q1 : (0 : Int) < (m.length : Int) := by omega
      have q2 : IntKind.i64.wrap ((m.length : Int) - 1) = ((m.length - 1 : Nat) : Int) := by simp [IntKind.wrap, IntKind.signed, IntKind.bits]; omega
      have q3 : ((x.toNat : Int) == 46) = false := beq_eq_false_iff_ne.2 (fun e => hx (UInt8.toNat_inj.1 (by show x.toNat = 46; omega)))
      have HD := Lib.hid (show decide (m.getLast? = some 46) = false by rw [hc]; exact decide_eq_false (by simpa using hx))
      clear hg hc hne hx HTT HLB HC
      go_wp2_with fail
      go_meet
      exact ⟨by rw [HD.out], rfl⟩
    · have hne : m ≠ [] := by rintro rfl; simp at hc
      have h0 : 0 < m.length := List.length_pos_iff.2 hne
      have hg : m[m.length - 1]? = some 46 := by rw [← List.getLast?_eq_getElem?]; exact hc
      have s1 := fun w => str_index hg w
      have q1 : (0 : Int) < (m.length : Int) := by omega
      have q2 : IntKind.i64.wrap ((m.length : Int) - 1) = ((m.length - 1 : Nat) : Int) := by simp [IntKind.wrap, IntKind.signed, IntKind.bits]; omega
      have q3 : (((46 : UInt8).toNat : Int) == 46) = true := rfl
      have HD := Lib.hid (show decide (m.getLast? = some 46) = true from decide_eq_true hc)
      clear hg hc hne HTT HLB HC hdm
      go_wp2_with fail
      go_meet
      exact ⟨by rw [HD.out], rfl⟩
  case rest =>
    obtain ⟨rfl, rfl⟩ := hcut
    have hdt : t.length ≤ 1000000000 := by omega
    rcases HTT.out with ⟨h46, htm⟩ | ⟨h46, htm⟩
    case' inl =>
      rw [decide_eq_false h46]
      clear HTT HC hml hdm h46
      subst htm
      go_upto_region 4 with fail
    case' inr =>
      have hne : m ≠ [] := by rintro rfl; simp at h46
      have h0 : 0 < m.length := List.length_pos_iff.2 hne
      have q2 : IntKind.i64.wrap ((m.length : Int) - 1) = ((m.length - 1 : Nat) : Int) := by simp [IntKind.wrap, IntKind.signed, IntKind.bits]; omega
      have s2 := fun w => str_to m (m.length - 1) (by omega) w
      rw [← htm] at s2
      rw [decide_eq_true h46]
      clear HTT HC hdm h46 htm hne
      go_upto_region 4 with fail
      clear s2 q2 h0
    all_goals
      have hts : (ByteArray.mk t.toArray).size = t.length := str_size t
      rcases Nat.lt_or_ge 253 t.length with hbig | hbig
      case inl =>
        rw [if_pos hbig] at HLB
        have u1 : (253 : Int) < (t.length : Int) := by omega
        go_wp2_with fail
        refine bodyPost_ret (v := .tuple #[.slice none 0 0, .bool false]) (by simp [results, Tryz.results144, go_sem]) rfl ⟨?_, HF1.out⟩
        rw [HLB.out]
        rfl
      rw [if_neg (by omega)] at HLB
      have u1 : ¬ (253 : Int) < (t.length : Int) := by omega
      go_wp2_with fail
      go_loopg [4, 5, 6] (t.length + 1) (fun g u v i wr => ∃ (j : Nat) (a : Option Addr) (c : Nat) (done : List (List UInt8)) (one : List UInt8), g = t.length + 1 - j ∧ j ≤ t.length + 1 ∧ u = .slice a done.length c ∧ v = str one ∧ i = .int .i64 j ∧ wr.ownsRow w.heap.size 9 1 (.slice a done.length c) done.length (done.map str) ∧ one.length ≤ j ∧ done.length ≤ j ∧ ((j ≤ t.length ∧ labGo [] [] t = labGo done one (t.drop j)) ∨ (j = t.length + 1 ∧ labGo [] [] t = some done)) ∧ Fr (fun _ => False) w wr)
      case atStart => exact ⟨0, none, 0, [], [], rfl, Nat.zero_le _, rfl, rfl, rfl, ⟨rfl, .inl ⟨rfl, rfl⟩⟩, by simp, by simp, .inl ⟨Nat.zero_le _, rfl⟩, HF1.out⟩
      case round =>
        obtain ⟨j, a, c, done, one, hg, hj, rfl, rfl, rfl, ho, hol, hdl, hst, F⟩ := hrel
        have HG := Lib.hid hg
        have HOW := Lib.hid ho
        have HF := Lib.hid F
        have hos : (ByteArray.mk one.toArray).size = one.length := str_size one
        clear hg ho F HF1
        rcases hst with ⟨hjl, hst⟩ | ⟨rfl, hst⟩
        case inr =>
          rw [hst] at HLB
          have v1 : ¬ ((t.length + 1 : Nat) : Int) ≤ (t.length : Int) := by omega
          clear hst
          go_wp2_with fail
          refine bodyPost_ret (v := .tuple #[.slice a done.length c, .bool true]) (by simp [results, Tryz.results144, go_sem]) rfl ⟨?_, HF.out⟩
          rw [HLB.out]
          exact ⟨a, c, rfl, HOW.out⟩
        have v1 : (j : Int) ≤ (t.length : Int) := by omega
        have HST := Lib.hid hst
        clear hst
        have hcase : (∃ x, t[j]? = some x ∧ x ≠ 46) ∨ (t[j]? = some 46 ∨ t.length = j) := by
          rcases Nat.lt_or_ge j t.length with h | h
          · by_cases hx : t[j] = 46
            · exact .inr (.inl (by rw [List.getElem?_eq_getElem h, hx]))
            · exact .inl ⟨_, List.getElem?_eq_getElem h, hx⟩
          · exact .inr (.inr (by omega))
        rcases hcase with ⟨x, hx, hx46⟩ | hx
        · have hjt : j < t.length := (List.getElem?_eq_some_iff.1 hx).1
          have v2 : (j : Int) < (t.length : Int) := by omega
          have v0 : (0 : Int) ≤ (j : Int) := by omega
          have s1 := fun w => str_index hx w
          have s2 := fun w => str_one hx w
          have hdr : t.drop j = x :: t.drop (j + 1) := by
            obtain ⟨h, rfl⟩ := List.getElem?_eq_some_iff.1 hx
            exact List.drop_eq_getElem_cons h
          have hgo : labGo done one (t.drop j) = if labelC x then labGo done (one ++ [x]) (t.drop (j + 1)) else none := by
            rw [hdr, labGo, if_neg hx46]
          have HGO := Lib.hid (HST.out.trans hgo)
          have hcl : labelC x = decide ((97 ≤ x.toNat ∧ x.toNat ≤ 122) ∨ (48 ≤ x.toNat ∧ x.toNat ≤ 57) ∨ x.toNat = 45 ∨ x.toNat = 95) := rfl
          have HCL := Lib.hid hcl
          have v3 : ((x.toNat : Int) == 46) = false := beq_eq_false_iff_ne.2 (fun e => hx46 (UInt8.toNat_inj.1 (by show x.toNat = 46; omega)))
          have v4 : ((x.toNat : Int) != 46) = true := by simpa using v3
          have hss : (ByteArray.mk [x].toArray).size = 1 := rfl
          have bad : labelC x = false → labelsS l = none := fun h => by rw [HLB.out, HGO.out, h]; rfl
          have BAD := Lib.hid bad
          have good : labelC x = true → labGo [] [] t = labGo done (one ++ [x]) (t.drop (j + 1)) := fun h => by rw [HGO.out, if_pos h]
          have GOOD := Lib.hid good
          clear hx hdr hgo hcl bad good HST hx46
          generalize x.toNat = n at *
          have hcase : (97 ≤ n ∧ n ≤ 122) ∨ (48 ≤ n ∧ n ≤ 57) ∨ n = 45 ∨ n = 95 ∨ 122 < n ∨ (n < 48 ∧ n ≠ 45) ∨ (57 < n ∧ n < 97 ∧ n ≠ 95) := by omega
          rcases hcase with h | h | h | h | h | h | h
          all_goals
            first | have d1 : (n : Int) < 97 := by omega | have d1 : ¬ (n : Int) < 97 := by omega
            first | have d2 : (122 : Int) < (n : Int) := by omega | have d2 : ¬ (122 : Int) < (n : Int) := by omega
            first | have d3 : (n : Int) < 48 := by omega | have d3 : ¬ (n : Int) < 48 := by omega
            first | have d4 : (57 : Int) < (n : Int) := by omega | have d4 : ¬ (57 : Int) < (n : Int) := by omega
            first | have d5 : ((n : Int) == 45) = false := beq_eq_false_iff_ne.2 (by omega) | have d5 : ((n : Int) == 45) = true := by rw [h]; rfl
            first | have d6 : ((n : Int) == 95) = false := beq_eq_false_iff_ne.2 (by omega) | have d6 : ((n : Int) == 95) = true := by rw [h]; rfl
            first | have d7 : ((n : Int) != 45) = true := by simpa using d5 | have d7 : ((n : Int) != 45) = false := by rw [h]; rfl
            first | have d8 : ((n : Int) != 95) = true := by simpa using d6 | have d8 : ((n : Int) != 95) = false := by rw [h]; rfl
            have hl : labelC x = true ∨ labelC x = false := by cases labelC x <;> simp
            rcases hl with hl | hl
            · have HOK := Lib.hid (GOOD.out hl)
              rw [HCL.out, decide_eq_true_eq] at hl
              first
                | (exfalso; omega)
                | (clear h hl
                   go_wp2_with fail
                   go_roundg (t.length + 1 - (j + 1))
                   case measure => rw [HG.out]; omega
                   case rel => exact ⟨j + 1, a, c, done, one ++ [x], rfl, by omega, rfl, congrArg Value.string (ba_cat one [x]), by go_num, HOW.out, by rw [List.length_append]; simp; omega, by omega, .inl ⟨by omega, HOK.out⟩, HF.out⟩)
            · have HNO := Lib.hid (BAD.out hl)
              rw [HCL.out, decide_eq_false_iff_not] at hl
              first
                | (exfalso; omega)
                | (clear h hl s2
                   go_wp2_with fail
                   refine bodyPost_ret (v := .tuple #[.slice none 0 0, .bool false]) (by simp [results, Tryz.results144, go_sem]) rfl ⟨?_, HF.out⟩
                   rw [HNO.out]
                   rfl)
        · have hfin : (j = t.length ∨ t[j]? = some 46) := hx.elim .inr (fun h => .inl h.symm)
          have hgo : labGo done one (t.drop j) = if 1 ≤ one.length ∧ one.length ≤ 63 then (if j = t.length then some (done ++ [one]) else labGo (done ++ [one]) [] (t.drop (j + 1))) else none := by
            rcases Nat.lt_or_ge j t.length with h | h
            · have hx2 : t[j] = 46 := by
                rcases hfin with h2 | h2
                · omega
                · rw [List.getElem?_eq_getElem h] at h2
                  simpa using h2
              rw [List.drop_eq_getElem_cons h, labGo, if_pos hx2, if_neg (show ¬ j = t.length by omega)]
            · rw [List.drop_eq_nil_of_le h, labGo, if_pos (show j = t.length by omega)]
          have HGO := Lib.hid (HST.out.trans hgo)
          have v2 : (decide ((j : Int) < (t.length : Int)) = false) ∨ (decide ((j : Int) < (t.length : Int)) = true ∧ j < t.length ∧ t[j]? = some 46) := by
            rcases hfin with h | h
            · exact .inl (decide_eq_false (by omega))
            · have := (List.getElem?_eq_some_iff.1 h).1
              exact .inr ⟨decide_eq_true (by omega), this, h⟩
          have v0 : (0 : Int) ≤ (j : Int) := by omega
          have hcl : one.length < 1 ∨ (1 ≤ one.length ∧ 63 < one.length) ∨ (1 ≤ one.length ∧ one.length ≤ 63) := by omega
          clear hgo HST hfin hx
          obtain ⟨a7, c7, w7, hr7, ho7, F7⟩ := addStr HOW.out HF.out.size (by omega) one wr.heap.size ((Fr.refl wr).alloc (.cells #[str one] 9)) (Blk.new wr 9 #[str one])
          have HF7 := Lib.hid (HF.out.trans' F7 (fun i hi e => by have := ((Vals.of_own HOW.out).2 i e).1; omega))
          have HO7 := Lib.hid ho7
          have HRUN := Lib.hid hr7
          clear hr7 ho7 F7
          have hnext : 1 ≤ one.length ∧ one.length ≤ 63 → (j + 1 ≤ t.length ∧ labGo [] [] t = labGo (done ++ [one]) [] (t.drop (j + 1))) ∨ (j + 1 = t.length + 1 ∧ labGo [] [] t = some (done ++ [one])) := fun h => by
            have := HGO.out
            rw [if_pos h] at this
            by_cases hj2 : j = t.length
            · rw [if_pos hj2] at this
              exact .inr ⟨by omega, this⟩
            · rw [if_neg hj2] at this
              exact .inl ⟨by omega, this⟩
          have HNX := Lib.hid hnext
          have hbad : ¬ (1 ≤ one.length ∧ one.length ≤ 63) → labelsS l = none := fun h => by rw [HLB.out, HGO.out, if_neg h]
          have HBD := Lib.hid hbad
          clear hnext hbad
          rcases v2 with v2 | ⟨v2, hjt, hx⟩
          case' inl =>
            have v3 : ¬ (j : Int) < (t.length : Int) := of_decide_eq_false v2
          case' inr =>
            have v3 : (j : Int) < (t.length : Int) := of_decide_eq_true v2
            have s1 := fun w => str_index hx w
            clear hx
          all_goals
            rcases hcl with h | ⟨h, h2⟩ | ⟨h, h2⟩
            · have d1 : (one.length : Int) < 1 := by omega
              have HNO := Lib.hid (HBD.out (by omega))
              clear h
              go_wp2_with fail
              refine bodyPost_ret (v := .tuple #[.slice none 0 0, .bool false]) (by simp [results, Tryz.results144, go_sem]) rfl ⟨?_, HF.out⟩
              rw [HNO.out]
              rfl
            · have d1 : ¬ (one.length : Int) < 1 := by omega
              have d2 : (63 : Int) < (one.length : Int) := by omega
              have HNO := Lib.hid (HBD.out (by omega))
              clear h h2
              go_wp2_with fail
              refine bodyPost_ret (v := .tuple #[.slice none 0 0, .bool false]) (by simp [results, Tryz.results144, go_sem]) rfl ⟨?_, HF.out⟩
              rw [HNO.out]
              rfl
            · have d1 : ¬ (one.length : Int) < 1 := by omega
              have d2 : ¬ (63 : Int) < (one.length : Int) := by omega
              have HOK := Lib.hid (HNX.out ⟨h, h2⟩)
              clear h h2
              go_wp2_with (at_builtin; refine wpList_append_run (by rfl) (.tmp 85) (.tmp 87) 68 (by rfl) _ w7 (by exact HRUN.out) ?_)
              go_roundg (t.length + 1 - (j + 1))
              case measure => rw [HG.out]; omega
              case rel => exact ⟨j + 1, a7, c7, done ++ [one], [], rfl, by omega, by rw [List.length_append]; rfl, rfl, by go_num, by rw [List.length_append]; exact HO7.out, by simp, by rw [List.length_append]; simp; omega, HOK.out, HF7.out⟩
  def rhostV (r : Option (List UInt8)) : Value := match r with | some h => .tuple #[str h, .bool true] | none => .tuple #[str [], .bool false]
set_option maxRecDepth 20000 in
set_option maxHeartbeats 2000000 in
theorem r13Host_any (l : List UInt8) (w : World) (hl : l.length ≤ 1000000000) :
    Calls Tryz.prog 97 #[str l] w fun e w' => e = .returned (rhostV (hostS l)) ∧ Fr (fun _ => False) w w' := by
  have HL := Lib.hid (r13Labels_any l w hl)
  have hh := labels_host l
  have HH := Lib.hid hh
  have hjl : ∀ ks, labelsS l = some ks → (Lib.join ks [46]).length ≤ l.length := fun ks h => by
    rw [h] at hh
    simp only [Option.map_some] at hh
    unfold hostS at hh
    split at hh
    · cases hh
    split at hh
    · simp only [Option.some.injEq] at hh
      rw [hh, lower_len]
      exact dot_len l
    · cases hh
  have HJ := Lib.hid hjl
  clear hh hjl
  go_enter Tryz.func97, Tryz.ntmps97
  go_wp2_with fail
  refine HL.out.mono ?_
  rintro e w1 ⟨hout, F1⟩
  have HF1 := Lib.hid F1
  clear F1 HL
  unfold labelsOut at hout
  cases hr : labelsS l with
  | none =>
    rw [hr] at hout HH
    subst hout
    clear hr
    go_wp2_with fail
    go_loopg [6, 7] 0 (fun g u i wr => g = 0 ∧ u = str [] ∧ i = .int .i64 0 ∧ wr = w1)
    case atStart => exact ⟨rfl, rfl, rfl, rfl⟩
    case round =>
      obtain ⟨-, rfl, rfl, rfl⟩ := hrel
      go_wp2_with fail
      refine bodyPost_ret (v := .tuple #[str [], .bool false]) (by simp [results, Tryz.results97, go_sem]) rfl ⟨?_, HF1.out⟩
      rw [← HH.out]
      rfl
  | some ks =>
    rw [hr] at hout HH
    have hjoin := HJ.out ks hr
    simp only [Option.map_some] at HH
    obtain ⟨a, c, rfl, ho⟩ := hout
    have HST := Lib.hid (Vals.of_own ho).1
    have hksl : ks.length ≤ 9223372036854775807 := by
      obtain ⟨_, cp, -, h1, h2, -⟩ := Strs.form HST.out
      unfold maxLen at h2
      omega
    have hpre : ∀ j, (Lib.join (ks.take j) [46]).length ≤ (Lib.join ks [46]).length := fun j => by
      have h1 : ∀ j, j ≤ ks.length → (Lib.join (ks.take j) [46]).length ≤ (Lib.join ks [46]).length := by
        intro j hj
        induction h : ks.length - j generalizing j with
        | zero => rw [List.take_of_length_le (by omega)]; exact Nat.le_refl _
        | succ d ih =>
          have := ih (j + 1) (by omega) (by omega)
          have h2 := join_take 46 (List.getElem?_eq_getElem (show j < ks.length by omega))
          rw [h2] at this
          rw [List.length_append] at this
          by_cases h0 : j = 0
          · subst h0
            simp [Lib.join]
          · rw [if_neg h0, List.length_append] at this
            omega
      rcases Nat.lt_or_ge ks.length j with h | h
      · rw [List.take_of_length_le (by omega)]; exact Nat.le_refl _
      · exact h1 j h
    have HPR := Lib.hid hpre
    clear hr ho hpre
    go_wp2_with fail
    go_loopg [6, 7] ks.length (fun g u i wr => ∃ j : Nat, g = ks.length - j ∧ j ≤ ks.length ∧ u = str (Lib.join (ks.take j) [46]) ∧ i = .int .i64 j ∧ wr = w1)
    case atStart => exact ⟨0, rfl, Nat.zero_le _, rfl, rfl, rfl⟩
    case round =>
      obtain ⟨j, hg, hj, rfl, rfl, rfl⟩ := hrel
      have HG := Lib.hid hg
      clear hg
      by_cases hjl : j < ks.length
      · obtain ⟨a0, c0, he, -, -, hx⟩ := Strs.form HST.out
        simp only [Value.slice.injEq, true_and] at he
        obtain ⟨rfl, rfl⟩ := he
        obtain ⟨b, o, rfl, hy⟩ := hx (by omega)
        obtain ⟨k, hk⟩ : ∃ k, ks[j]? = some k := ⟨_, List.getElem?_eq_getElem hjl⟩
        have e1 := hy j k hk
        have hnx := join_take 46 hk
        have hp1 := HPR.out (j + 1)
        have r1 : (0 : Int) ≤ (j : Int) := by omega
        have r2 : (j : Int) < (ks.length : Int) := by omega
        have hks : (ByteArray.mk k.toArray).size = k.length := str_size k
        have hds : (ByteArray.mk #[46]).size = 1 := rfl
        rw [hnx] at hp1
        have HNX := Lib.hid hnx
        have hJ0 : j = 0 → Lib.join (ks.take j) [46] = [] := fun h => by rw [h]; simp [Lib.join]
        clear hx hy hk hnx
        generalize Lib.join (ks.take j) [46] = J at *
        have hjs : (ByteArray.mk J.toArray).size = J.length := str_size J
        by_cases h0 : j = 0
        · obtain rfl := hJ0 h0
          rw [if_pos h0, List.nil_append] at hp1
          rw [if_pos h0, List.nil_append] at HNX
          have q1 : ¬ (0 : Int) < (j : Int) := by omega
          clear hJ0 h0
          go_wp2_with fail
          go_roundg (ks.length - (j + 1))
          case measure => rw [HG.out]; omega
          case rel => exact ⟨j + 1, rfl, by omega, by rw [HNX.out]; exact congrArg Value.string (ba_cat [] k), by go_num, rfl⟩
        · rw [if_neg h0, List.length_append, List.length_append] at hp1
          rw [if_neg h0] at HNX
          have q1 : (0 : Int) < (j : Int) := by omega
          have hl1 : ([46] : List UInt8).length = 1 := rfl
          have hcat : (ByteArray.mk J.toArray ++ ByteArray.mk #[46]) = ByteArray.mk (J ++ [46]).toArray := ba_cat J [46]
          have hcs : (ByteArray.mk (J ++ [46]).toArray).size = J.length + 1 := by rw [str_size, List.length_append]; rfl
          clear hJ0 h0
          go_wp2_with fail
          go_roundg (ks.length - (j + 1))
          case measure => rw [HG.out]; omega
          case rel => exact ⟨j + 1, rfl, by omega, by rw [HNX.out]; exact congrArg Value.string ((congrArg (· ++ ByteArray.mk k.toArray) (ba_cat J [46])).trans (ba_cat (J ++ [46]) k)), by go_num, rfl⟩
      · obtain rfl : j = ks.length := by omega
        rw [List.take_length]
        go_wp2_with fail
        refine bodyPost_ret (v := .tuple #[str (Lib.join ks [46]), .bool true]) (by simp [results, Tryz.results97, go_sem]) rfl ⟨?_, HF1.out⟩
        rw [← HH.out]
        rfl
end Go.Proofs.YtacekpdjapgfcaaGreatDoor

namespace Go.Q
open Go Go.RowKit
def urisS (l : List Gen) : List (List UInt8) := (l.filter fun g => decide (g.k = 6) && genOk g).map (·.b)
theorem uris_take {l : List Gen} {j : Nat} {x : Gen} (h : l[j]? = some x) : urisS (l.take (j + 1)) = urisS (l.take j) ++ if (decide (x.k = 6) && genOk x) = true then [x.b] else [] := by
  unfold urisS
  rw [List.take_add_one, h]
  simp only [Option.toList_some, List.filter_append, List.map_append, List.filter_cons, List.filter_nil]
  congr 1
  split <;> simp_all
theorem gens_two {w : World} {b : Nat} {t : TypeId} {g p : Gen} {v1 v2 u1 u2 : Value} (B : Blk w b t #[.int .i64 g.k, v1, v2, .int .i64 p.k, u1, u2]) (h1 : Bytes w v1 g.b) (h2 : NameAt w v2 g.n) (h3 : Bytes w u1 p.b) (h4 : NameAt w u2 p.n) : Gens w (.slice (some ⟨b, 0, none⟩) 2 2) [g, p] := by
  refine ⟨_, 2, rfl, Nat.le_refl _, by unfold maxLen; omega, fun _ => ⟨b, 0, rfl, fun i x hx => ?_⟩⟩
  match i, hx with
  | 0, hx =>
    simp only [List.getElem?_cons_zero, Option.some.injEq] at hx
    subst hx
    refine ⟨[.int .i64 g.k, v1, v2], rfl, fun j u hu => ?_, _, _, rfl, h1, h2⟩
    have hj := (List.getElem?_eq_some_iff.1 hu).1
    simp only [List.length_cons, List.length_nil] at hj
    rw [show 0 + 3 * 0 + j = j by omega, B.cell j]
    match j, hj, hu with
    | 0, _, hu => exact hu
    | 1, _, hu => exact hu
    | 2, _, hu => exact hu
  | 1, hx =>
    simp only [List.getElem?_cons_succ, List.getElem?_cons_zero, Option.some.injEq] at hx
    subst hx
    refine ⟨[.int .i64 p.k, u1, u2], rfl, fun j u hu => ?_, _, _, rfl, h3, h4⟩
    have hj := (List.getElem?_eq_some_iff.1 hu).1
    simp only [List.length_cons, List.length_nil] at hj
    rw [show 0 + 3 * 1 + j = 3 + j by omega, B.cell (3 + j)]
    match j, hj, hu with
    | 0, _, hu => exact hu
    | 1, _, hu => exact hu
    | 2, _, hu => exact hu
end Go.Q
namespace Go.Proofs.YtacekpdjapgfcaaGreatDoor
open Go Go.RowKit Go.Q
set_option linter.unusedSimpArgs false
set_option maxRecDepth 20000 in
set_option maxHeartbeats 4000000 in
theorem uris_any (v : Value) (l : List Gen) (w : World) (h : Gens w v l) (hf : ∀ g ∈ l, fewG g) (hl : l.length ≤ 1000000) :
    Calls Tryz.prog 36 #[v] w fun e w' => (∃ a c, e = .returned (.slice a (urisS l).length c) ∧ Strs w' (.slice a (urisS l).length c) (urisS l)) ∧ Fr (fun _ => False) w w' := by
  have H := Lib.hid h
  have HFW := Lib.hid hf
  obtain ⟨a0, cap0, rfl, -⟩ := h
  clear hf
  go_enter Tryz.func36, Tryz.ntmps36
  go_wp2_with fail
  go_loopg [3, 8] l.length (fun g u i wr => ∃ (j : Nat) (a : Option Addr) (c : Nat) (ks : List (List UInt8)), g = l.length - j ∧ j ≤ l.length ∧ u = .slice a ks.length c ∧ i = .int .i64 j ∧ ks.length ≤ j ∧ Hid (ks = urisS (l.take j)) ∧ wr.ownsRow w.heap.size 9 1 (.slice a ks.length c) ks.length (ks.map str) ∧ Fr (fun _ => False) w wr)
  case atStart => exact ⟨0, none, 0, [], rfl, Nat.zero_le _, rfl, rfl, by simp, Lib.hid rfl, ⟨rfl, .inl ⟨rfl, rfl⟩⟩, Fr.refl _⟩
  case round =>
    obtain ⟨j, a, c, ks, hg, hj, rfl, rfl, hkl, HKS, ho, F⟩ := hrel
    have HG := Lib.hid hg
    have HOW := Lib.hid ho
    have HF := Lib.hid F
    clear hg ho
    by_cases hjl : j < l.length
    · obtain ⟨x, hx⟩ : ∃ x, l[j]? = some x := ⟨_, List.getElem?_eq_getElem hjl⟩
      obtain ⟨b, o, ab, cb, an, cn, rfl, -, hga, e0, e1, e2⟩ := (H.out.old F).get hx
      have r1 : (0 : Int) ≤ (j : Int) := by omega
      have r2 : (j : Int) < (l.length : Int) := by omega
      have HX := Lib.hid hx
      have hfx := HFW.out x (List.mem_of_getElem? hx)
      obtain ⟨y, hy⟩ : ∃ y, y = wr.heap.size := ⟨_, rfl⟩
      have F1 : Fr (fun _ => False) wr (wr.alloc (.cells #[.int .i64 x.k, .slice ab x.b.length cb, .slice an x.n.length cn] 42)) := (Fr.refl wr).alloc _
      have BY := Blk.new wr 42 #[.int .i64 x.k, .slice ab x.b.length cb, .slice an x.n.length cn]
      rw [← hy] at BY
      have HGA := Lib.hid (hga.old F1)
      have HF1 := Lib.hid (F.trans F1)
      have HOW1 := Lib.hid (ownsRow_fr HOW.out F1 (fun _ _ h => h))
      have HR := Lib.hid (genRight_any _ x _ (hga.old F1) hfx)
      clear hx hga F F1 HOW HF
      go_upto_region 5 with fail
      rw [← hy]
      clear hy e0 e1 e2
      generalize (wr.alloc (.cells #[.int .i64 x.k, .slice ab x.b.length cb, .slice an x.n.length cn] 42)) = w1 at *
      have HBY := Lib.hid BY
      have y0 := BY.cell 0
      have y1 := BY.cell 1
      have y2 := BY.cell 2
      simp only [List.getElem?_toArray, List.getElem?_cons_succ, List.getElem?_cons_zero] at y0 y1 y2
      have skip : (decide (x.k = 6) && genOk x) = false → Hid (ks = urisS (l.take (j + 1))) := fun h => Lib.hid (by rw [uris_take HX.out, ← HKS.out, h]; simp)
      have HSK := Lib.hid skip
      have more : (decide (x.k = 6) && genOk x) = true → Hid (ks ++ [x.b] = urisS (l.take (j + 1))) := fun h => Lib.hid (by rw [uris_take HX.out, ← HKS.out, h]; simp)
      have HMO := Lib.hid more
      clear skip more BY
      by_cases h6 : x.k = 6
      · have q1 : (x.k == 6) = true := by rw [h6]; rfl
        obtain ⟨d, hd⟩ : ∃ d, d = genOk x := ⟨_, rfl⟩
        have HD := Lib.hid (show (decide (x.k = 6) && genOk x) = d by rw [decide_eq_true h6, hd]; rfl)
        rw [← hd] at HR
        clear hd h6
        go_wp2_with fail
        refine HR.out.mono ?_
        rintro e w2 ⟨rfl, F2⟩
        have HF2 := Lib.hid (HF1.out.trans F2)
        have HOW2 := Lib.hid (ownsRow_fr HOW1.out F2 (fun _ _ h => h))
        have BY2 := HBY.out.fr F2 (fun h => h)
        clear y0 y1 y2
        have y1 := BY2.cell 1
        simp only [List.getElem?_toArray, List.getElem?_cons_succ, List.getElem?_cons_zero] at y1
        cases d with
        | false =>
          have HN := HSK.out HD.out
          clear F2 BY2 HOW1 HF1 HR y1
          go_wp2_with fail
          go_roundg (l.length - (j + 1))
          case measure => rw [HG.out]; omega
          case rel => exact ⟨j + 1, a, c, ks, rfl, by omega, rfl, by go_num, by omega, HN, HOW2.out, HF2.out⟩
        | true =>
          have HN := HMO.out HD.out
          obtain ⟨vb, vn, heq, hbx, -⟩ := HGA.out.old F2
          simp only [Value.agg.injEq, Array.mk.injEq, List.cons.injEq, and_true, true_and] at heq
          obtain ⟨rfl, rfl⟩ := heq
          have hsr := str_of hbx
          obtain ⟨a7, c7, w7, hr7, ho7, F7⟩ := addStr HOW2.out HF2.out.size (by omega) x.b w2.heap.size ((Fr.refl w2).alloc (.cells #[str x.b] 9)) (Blk.new w2 9 #[str x.b])
          have HF7 := Lib.hid (HF2.out.trans' F7 (fun i hi e => by have := ((Vals.of_own HOW2.out).2 i e).1; omega))
          have HO7 := Lib.hid ho7
          have HRUN := Lib.hid hr7
          clear F2 BY2 HOW1 HF1 HR hr7 ho7 F7 hbx
          go_wp2_with (at_builtin; refine wpList_append_run (by rfl) (.tmp 19) (.tmp 23) 68 (by rfl) _ w7 (by exact HRUN.out) ?_)
          go_roundg (l.length - (j + 1))
          case measure => rw [HG.out]; omega
          case rel => exact ⟨j + 1, a7, c7, ks ++ [x.b], rfl, by omega, by rw [List.length_append]; rfl, by go_num, by rw [List.length_append]; simp; omega, HN, by rw [List.length_append]; exact HO7.out, HF7.out⟩
      · have q1 : (x.k == 6) = false := beq_eq_false_iff_ne.2 h6
        have HN := HSK.out (by rw [decide_eq_false h6]; rfl)
        clear h6
        go_wp2_with fail
        go_roundg (l.length - (j + 1))
        case measure => rw [HG.out]; omega
        case rel => exact ⟨j + 1, a, c, ks, rfl, by omega, rfl, by go_num, by omega, HN, HOW1.out, HF1.out⟩
    · have hks := HKS.out
      rw [List.take_of_length_le (by omega)] at hks
      have HE := Lib.hid hks
      clear hks
      go_wp2_with fail
      go_ret
      rw [← HE.out]
      exact ⟨⟨a, c, rfl, (Vals.of_own HOW.out).1⟩, F⟩
theorem bytes_block {w : World} {b : Nat} {cs : Array Value} (B : Blk w b 5 cs) (l : List UInt8) (hc : cs.toList = Lib.byteCells l) (n : Nat) (hn : l.length = n) (hm : n ≤ 1000) : Bytes w (.slice (some ⟨b, 0, none⟩) n n) l := by
  subst hn
  have h := Vals.of_block B (by have := congrArg List.length hc; rw [byteCells_len, Array.length_toList] at this; unfold maxLen; omega)
  have e : cs.size = l.length := by have := congrArg List.length hc; rwa [byteCells_len, Array.length_toList] at this
  rw [e, hc] at h
  exact h
theorem bytes_marked (w : World) (cs : Array Value) (fr : Nat × Nat) (l : List UInt8) (hc : cs.toList = Lib.byteCells l) (n : Nat) (hn : l.length = n) (hm : n ≤ 1000) : Bytes (w.alloc (.cells cs 5 fr)) (.slice (some ⟨w.heap.size, 0, none⟩) n n) l := by
  subst hn
  refine ⟨some ⟨w.heap.size, 0, none⟩, l.length, by rw [byteCells_len], by rw [byteCells_len]; exact Nat.le_refl _, by unfold maxLen; omega, fun _ => ⟨_, _, rfl, fun i u hu => ?_⟩⟩
  rw [Nat.zero_add, World.cell?_alloc_mark, ← Array.getElem?_toList, hc]
  exact hu
set_option maxRecDepth 100000 in
set_option maxHeartbeats 8000000 in
theorem gnKnown_any (w : World) (hE : Env w) :
    Calls Tryz.prog 25 #[] w fun e w' => e = .returned (.bool true) ∧ Fr (fun _ => False) w w' := by
  have HE := Lib.hid hE
  obtain ⟨b0, hb0⟩ : ∃ b0, b0 = w.heap.size := ⟨_, rfl⟩
  have F0 : Fr (fun _ => False) w (w.alloc (.cells #[.int .u8 130, .int .u8 3, .int .u8 97, .int .u8 46, .int .u8 98] 5)) := (Fr.refl w).alloc _
  have V0 := bytes_block (Blk.new w 5 #[.int .u8 130, .int .u8 3, .int .u8 97, .int .u8 46, .int .u8 98]) [130, 3, 97, 46, 98] (by rfl) 5 rfl (by decide)
  have HN0 := Lib.hid (new_any _ _ _ V0 (by decide))
  have HF0 := Lib.hid F0
  clear F0 V0 hE hb0
  go_enter Tryz.func25, Tryz.ntmps25
  go_wp2_with fail
  refine HN0.out.mono ?_
  rintro e w1 ⟨rfl, C1, F1⟩
  have HR1 := genRead_any C1 (by decide)
  rw [List.drop_zero, show genReadS [130, 3, 97, 46, 98] = .ok (⟨2, [97, 46, 98], []⟩, 5) from by kernel_rfl] at HR1
  have HRI := Lib.hid HR1
  have hc0 := C1.lt
  have HF1 := Lib.hid (HF0.out.trans F1)
  have hs1 := F1.size
  have hs0 := HF0.out.size
  obtain ⟨c1, hc1⟩ : ∃ c1, c1 = (w.alloc (.cells #[.int .u8 130, .int .u8 3, .int .u8 97, .int .u8 46, .int .u8 98] 5)).heap.size := ⟨_, rfl⟩
  rw [← hc1] at HRI ⊢ hc0 hs1
  have hcw : w.heap.size ≤ c1 := by omega
  clear C1 F1 HR1 HN0 HF0 hc1
  go_wp2_with fail
  refine HRI.out.mono ?_
  rintro e w2 ⟨hout, F2⟩
  obtain ⟨ab, cb, an, cn, rfl, hk, -⟩ := hout
  simp only [List.length_cons, List.length_nil] at hk ⊢
  have HF2 := Lib.hid (HF1.out.trans' F2 (fun i hi e => by omega))
  have HK2 := Lib.hid hk
  have hs2 := F2.size
  obtain ⟨x1, hx1⟩ : ∃ x1, x1 = w2.heap.size := ⟨_, rfl⟩
  have F3 : Fr (fun _ => False) w2 (w2.alloc (.cells #[.int .i64 2, .slice ab 3 cb, .slice an 0 cn] 42)) := (Fr.refl w2).alloc _
  have B3 := Blk.new w2 42 #[.int .i64 2, .slice ab 3 cb, .slice an 0 cn]
  rw [← hx1] at B3
  have HF3 := Lib.hid (HF2.out.trans F3)
  have HK3 := Lib.hid (HK2.out.old F3)
  clear F2 hk HRI HF1 HF2 HK2 F3
  go_upto_region 2 with fail
  rw [← hx1]
  have HX1 := Lib.hid hx1
  clear hx1
  generalize (w2.alloc (.cells #[.int .i64 2, .slice ab 3 cb, .slice an 0 cn] 42)) = w3 at *
  have HB3 := Lib.hid B3
  have hs3 := HF3.out.size
  have HK3 := Lib.hid (HK3.out.step (K' := fun k => w3.heap.size ≤ k) (Fr.refl (S := fun _ => False) w3) (fun _ _ h => h.elim) (fun k hk => .inr hk))
  have F4 : Fr (fun _ => False) w3 (w3.alloc (.cells #[.int .u8 135, .int .u8 3, .int .u8 1, .int .u8 2, .int .u8 3] 5)) := (Fr.refl w3).alloc _
  have V4 := bytes_block (Blk.new w3 5 #[.int .u8 135, .int .u8 3, .int .u8 1, .int .u8 2, .int .u8 3]) [135, 3, 1, 2, 3] (by rfl) 5 rfl (by decide)
  have HN4 := Lib.hid (new_any _ _ _ V4 (by decide))
  have HF4 := Lib.hid F4
  clear V4 F4 B3
  go_wp2_with fail
  refine HN4.out.mono ?_
  rintro e w5 ⟨rfl, C5, F5⟩
  have HR5 := genRead_any C5 (by decide)
  rw [List.drop_zero, show genReadS [135, 3, 1, 2, 3] = .error 6 from by kernel_rfl] at HR5
  have HRI := Lib.hid HR5
  have F45 := HF4.out.trans F5
  have HF5 := Lib.hid (HF3.out.trans F45)
  have HG5 := Lib.hid (F45.mono (T := fun k => w3.heap.size ≤ k) (fun _ _ h => h.elim))
  have HB5 := Lib.hid (HB3.out.fr F45 (fun h => h))
  have hs5 := HF4.out.size
  obtain ⟨c5, hc5⟩ : ∃ c5, c5 = (w3.alloc (.cells #[.int .u8 135, .int .u8 3, .int .u8 1, .int .u8 2, .int .u8 3] 5)).heap.size := ⟨_, rfl⟩
  rw [← hc5] at HRI ⊢
  have hc5w : w3.heap.size ≤ c5 := by omega
  have hx1c : x1 ≠ c5 := by have := HB3.out.lt; omega
  have hx13 := HB3.out.lt
  clear C5 F5 HR5 HN4 HF4 F45 HF3 HB3 hc5
  go_wp2_with fail
  refine HRI.out.mono ?_
  rintro e w6 ⟨hout, F6⟩
  obtain ⟨rfl, -, -⟩ := hout
  have F7 : Fr (fun _ => False) w6 (w6.alloc (.cells #[.int .i64 0, .slice none 0 0, .slice none 0 0] 42)) := (Fr.refl w6).alloc _
  have HF7 := Lib.hid ((HF5.out.trans' F6 (fun i hi e => by omega)).trans F7)
  have HG7 := Lib.hid ((HG5.out.trans (F6.mono (T := fun k => w3.heap.size ≤ k) (fun k _ e => by omega))).trans (F7.mono (T := fun k => w3.heap.size ≤ k) (fun _ _ h => h.elim)))
  have HB7 := Lib.hid ((HB5.out.fr F6 hx1c).fr F7 (fun h => h))
  clear F6 F7 HF5 HG5 HB5 HRI
  go_upto_region 3 with fail
  generalize (w6.alloc (.cells #[.int .i64 0, .slice none 0 0, .slice none 0 0] 42)) = w7 at *
  have hs7 := HG7.out.size
  have F8 : Fr (fun _ => False) w7 (w7.alloc (.cells #[.int .u8 134, .int .u8 1, .int .u8 120] 5)) := (Fr.refl w7).alloc _
  have V8 := bytes_block (Blk.new w7 5 #[.int .u8 134, .int .u8 1, .int .u8 120]) [134, 1, 120] (by rfl) 3 rfl (by decide)
  have HN8 := Lib.hid (new_any _ _ _ V8 (by decide))
  have HF8 := Lib.hid F8
  have hs8 := F8.size
  clear V8 F8
  go_wp2_with fail
  refine HN8.out.mono ?_
  rintro e w9 ⟨rfl, C9, F9⟩
  have HR9 := genRead_any C9 (by decide)
  rw [List.drop_zero, show genReadS [134, 1, 120] = .ok (⟨6, [120], []⟩, 3) from by kernel_rfl] at HR9
  have HRI := Lib.hid HR9
  have F89 := HF8.out.trans F9
  have HF9 := Lib.hid (HF7.out.trans F89)
  have HG9 := Lib.hid (HG7.out.trans (F89.mono (T := fun k => w3.heap.size ≤ k) (fun _ _ h => h.elim)))
  have HB9 := Lib.hid (HB7.out.fr F89 (fun h => h))
  have hs9 := F9.size
  obtain ⟨c9, hc9⟩ : ∃ c9, c9 = (w7.alloc (.cells #[.int .u8 134, .int .u8 1, .int .u8 120] 5)).heap.size := ⟨_, rfl⟩
  rw [← hc9] at HRI ⊢
  have hc9w : w7.heap.size ≤ c9 := by omega
  have hx1d : x1 ≠ c9 := by omega
  clear C9 F9 HR9 HN8 HF8 F89 HF7 HG7 HB7 hc9
  go_wp2_with fail
  refine HRI.out.mono ?_
  rintro e w10 ⟨hout, F10⟩
  obtain ⟨ab2, cb2, an2, cn2, rfl, hk2, -⟩ := hout
  simp only [List.length_cons, List.length_nil] at hk2 ⊢
  obtain ⟨x5, hx5⟩ : ∃ x5, x5 = w10.heap.size := ⟨_, rfl⟩
  have F11 : Fr (fun _ => False) w10 (w10.alloc (.cells #[.int .i64 6, .slice ab2 1 cb2, .slice an2 0 cn2] 42)) := (Fr.refl w10).alloc _
  have B11 := Blk.new w10 42 #[.int .i64 6, .slice ab2 1 cb2, .slice an2 0 cn2]
  rw [← hx5] at B11
  have HF11 := Lib.hid ((HF9.out.trans' F10 (fun i hi e => by omega)).trans F11)
  have HG11 := Lib.hid ((HG9.out.trans (F10.mono (T := fun k => w3.heap.size ≤ k) (fun k _ e => by omega))).trans (F11.mono (T := fun k => w3.heap.size ≤ k) (fun _ _ h => h.elim)))
  have HB11 := Lib.hid ((HB9.out.fr F10 hx1d).fr F11 (fun h => h))
  have HU11 := Lib.hid (hk2.old F11).now
  clear F10 F11 HF9 HG9 HB9 HRI hk2
  go_upto_region 4 with fail
  rw [← hx5]
  clear hx5
  generalize (w10.alloc (.cells #[.int .i64 6, .slice ab2 1 cb2, .slice an2 0 cn2] 42)) = w11 at *
  have HA11 := Lib.hid (HK3.out w11 HG11.out)
  have HX5 := Lib.hid B11
  have y0 := B11.cell 0
  have y1 := B11.cell 1
  have y2 := B11.cell 2
  have z0 := HB11.out.cell 0
  have z1 := HB11.out.cell 1
  have z2 := HB11.out.cell 2
  simp only [List.getElem?_toArray, List.getElem?_cons_succ, List.getElem?_cons_zero] at y0 y1 y2 z0 z1 z2
  have F12 : Fr (fun _ => False) w11 (w11.alloc (.cells #[.int .i64 2, .slice ab 3 cb, .slice an 0 cn, .int .i64 6, .slice ab2 1 cb2, .slice an2 0 cn2] 42)) := (Fr.refl w11).alloc _
  have G12 := gens_two (g := ⟨2, [97, 46, 98], []⟩) (p := ⟨6, [120], []⟩) (Blk.new w11 42 #[.int .i64 2, .slice ab 3 cb, .slice an 0 cn, .int .i64 6, .slice ab2 1 cb2, .slice an2 0 cn2]) (HA11.out.1.old F12) (HA11.out.2.old F12) (HU11.out.1.old F12) (HU11.out.2.old F12)
  have HUR := uris_any _ _ _ G12 (fun g hg => by
    simp only [List.mem_cons, List.not_mem_nil, or_false] at hg
    rcases hg with rfl | rfl
    · exact ⟨by simp, by simp⟩
    · exact ⟨by simp, by simp⟩) (by simp)
  rw [show urisS [⟨2, [97, 46, 98], []⟩, ⟨6, [120], []⟩] = [[120]] from by kernel_rfl] at HUR
  have HUI := Lib.hid HUR
  have HF12 := Lib.hid (HF11.out.trans F12)
  have HB12 := Lib.hid (HB11.out.fr F12 (fun h => h))
  have HA12 := Lib.hid (And.intro (HA11.out.1.old F12) (HA11.out.2.old F12))
  clear F12 G12 HUR HF11 HB11 HU11 HA11 B11
  go_wp2_with fail
  refine HUI.out.mono ?_
  rintro e w13 ⟨⟨a13, c13, rfl, hst⟩, F13⟩
  simp only [List.length_cons, List.length_nil] at hst ⊢
  obtain ⟨aS, cS, heS, -, -, hxS⟩ := Strs.form hst
  simp only [Value.slice.injEq, List.length_cons, List.length_nil, true_and] at heS
  obtain ⟨rfl, rfl⟩ := heS
  obtain ⟨bS, oS, rfl, hyS⟩ := hxS (by simp)
  have s0 := hyS 0 [120] rfl
  have HF13 := Lib.hid (HF12.out.trans F13)
  have B13 := HB12.out.fr F13 (fun h => h)
  have HA13 := Lib.hid (And.intro (HA12.out.1.old F13) (HA12.out.2.old F13))
  clear F13 HF12 HB12 HA12 HUI y0 y1 y2 z0 z1 z2 hxS hyS hst
  have z0 := B13.cell 0
  have z1 := B13.cell 1
  have z2 := B13.cell 2
  simp only [List.getElem?_toArray, List.getElem?_cons_succ, List.getElem?_cons_zero] at z0 z1 z2
  have F14 : Fr (fun _ => False) w13 (w13.alloc (.cells #[.int .u8 65, .int .u8 46, .int .u8 66, .int .u8 46] 5 (4, 5))) := (Fr.refl w13).alloc _
  have V14 := bytes_marked w13 #[.int .u8 65, .int .u8 46, .int .u8 66, .int .u8 46] (4, 5) [65, 46, 66, 46] (by rfl) 4 rfl (by decide)
  have hcv : (Go.convert 23 23 (.slice (some ⟨w13.heap.size, 0, none⟩) 4 4)).run Tryz.prog (w13.alloc (.cells #[.int .u8 65, .int .u8 46, .int .u8 66, .int .u8 46] 5)) = .ok (.slice (some ⟨w13.heap.size, 0, none⟩) 4 4) (w13.alloc (.cells #[.int .u8 65, .int .u8 46, .int .u8 66, .int .u8 46] 5 (4, 5))) := Lib.run_convert_bytes_const (P := Tryz.prog) w13 23 5 #[.int .u8 65, .int .u8 46, .int .u8 66, .int .u8 46] 4 4 Tryz.underlying23 Tryz.underlying5
  have HSM := genSame_any (.agg #[.int .i64 2, .slice ab 3 cb, .slice an 0 cn]) (.agg #[.int .i64 2, .slice (some ⟨w13.heap.size, 0, none⟩) 4 4, .slice none 0 0]) ⟨2, [97, 46, 98], []⟩ ⟨2, [65, 46, 66, 46], []⟩ (w13.alloc (.cells #[.int .u8 65, .int .u8 46, .int .u8 66, .int .u8 46] 5 (4, 5))) ⟨_, _, rfl, HA13.out.1.old F14, HA13.out.2.old F14⟩ ⟨_, _, rfl, V14, (name_nil (fun _ => True) _).now⟩ ⟨by simp, by simp⟩ ⟨by simp, by simp⟩ (HE.out.old (HF13.out.trans F14))
  rw [show genSameS ⟨2, [97, 46, 98], []⟩ ⟨2, [65, 46, 66, 46], []⟩ = true from by kernel_rfl] at HSM
  have HSI := Lib.hid HSM
  have HF14 := Lib.hid (HF13.out.trans F14)
  have HS0 := Lib.hid (F14.cell s0 (fun h => h))
  clear F14 V14 HSM HF13 HA13 B13
  go_wp2_with fail
  refine HSI.out.mono ?_
  rintro e w15 ⟨rfl, F15⟩
  have s1 := F15.cell HS0.out (fun h => h)
  rw [Nat.add_zero] at s1
  have HF15 := Lib.hid (HF14.out.trans F15)
  clear s0 z0 z1 z2 F15
  go_wp2_with fail
  go_ret
  exact ⟨rfl, HF15.out⟩
end Go.Proofs.YtacekpdjapgfcaaGreatDoor

namespace Go.Q
open Go Go.RowKit
def MapIs (w : World) (m : Nat) (l : List (ByteArray × Value)) : Prop :=
  ∃ (es : Array MapEntry) (clock : Nat), w.heap[m]? = some (.map es clock) ∧ (es.toList.map fun e => (e.key, e.val)).Perm (l.map fun p => (.string p.1, p.2)) ∧ (l.map (·.1)).Nodup
theorem MapIs.lt {w : World} {m : Nat} {l : List (ByteArray × Value)} (h : MapIs w m l) : m < w.heap.size := by
  obtain ⟨es, c, hb, _⟩ := h
  exact (Array.getElem?_eq_some_iff.1 hb).1
theorem MapIs.fr {S : Nat → Prop} {w w' : World} {m : Nat} {l : List (ByteArray × Value)} (h : MapIs w m l) (f : Fr S w w') (hm : ¬ S m) : MapIs w' m l := by
  have hlt := h.lt
  obtain ⟨es, c, hb, hp⟩ := h
  exact ⟨es, c, (f.block m hlt hm).trans hb, hp⟩
theorem ba_beq (a b : ByteArray) : (a == b) = decide (a = b) := by
  show (a.data == b.data) = _
  rw [Bool.eq_iff_iff]
  simp [ByteArray.ext_iff]
theorem perm_eraseIdx {α : Type} {e : α} : ∀ {l : List α} {j : Nat}, l[j]? = some e → l.Perm (e :: l.eraseIdx j)
  | [], _, h => by simp at h
  | a :: l, 0, h => by simp at h; subst h; simp
  | a :: l, j + 1, h => by
    have := perm_eraseIdx (l := l) (j := j) (by simpa using h)
    simp only [List.eraseIdx_cons_succ]
    exact (this.cons a).trans (List.Perm.swap e a _)
theorem nodup_fst {k : ByteArray} {v v' : Value} : ∀ {l : List (ByteArray × Value)}, (l.map (·.1)).Nodup → (k, v) ∈ l → (k, v') ∈ l → v = v'
  | [], _, h, _ => by cases h
  | (k0, v0) :: l, hn, h1, h2 => by
    simp only [List.map_cons, List.nodup_cons] at hn
    have no : ∀ u, (k, u) ∈ l → k ≠ k0 := fun u hu e => hn.1 (List.mem_map.2 ⟨_, hu, e⟩)
    rcases List.mem_cons.1 h1 with p1 | p1 <;> rcases List.mem_cons.1 h2 with p2 | p2
    · injection p1 with a1 a2; injection p2 with b1 b2; rw [a2, b2]
    · injection p1 with a1 a2; exact (no _ p2 a1).elim
    · injection p2 with a1 a2; exact (no _ p1 a1).elim
    · exact nodup_fst hn.2 p1 p2
theorem findNow_string (k : ByteArray) : ∀ (es : List MapEntry) (i : Nat), (∀ e ∈ es, ∃ s, e.key = .string s) →
    (∃ j e, es[j]? = some e ∧ e.key = .string k ∧ Instr.findNow .string (.string k) es i = some (some (i + j, e.val))) ∨
    ((∀ e ∈ es, e.key ≠ .string k) ∧ Instr.findNow .string (.string k) es i = some none)
  | [], i, _ => .inr ⟨by simp, rfl⟩
  | e :: es, i, h => by
    obtain ⟨s, hs⟩ := h e (by simp)
    by_cases hk : k = s
    · subst hk
      exact .inl ⟨0, e, rfl, hs, by simp [Instr.findNow, hs, Instr.sameNow, ba_beq]⟩
    · have hf : (k == s) = false := by rw [ba_beq]; simpa using hk
      rcases findNow_string k es (i + 1) (fun x hx => h x (by simp [hx])) with ⟨j, x, h1, h2, h3⟩ | ⟨h1, h2⟩
      · refine .inl ⟨j + 1, x, by simpa using h1, h2, ?_⟩
        simp only [Instr.findNow, hs, Instr.sameNow, hf, h3]
        congr 3; omega
      · refine .inr ⟨fun x hx => ?_, by simp only [Instr.findNow, hs, Instr.sameNow, hf, h2]⟩
        rcases List.mem_cons.1 hx with rfl | hx
        · rw [hs]; intro e; injection e with e; exact hk e.symm
        · exact h1 x hx
section
variable {P : Program} {K E t : TypeId} {w : World} {m : Nat} {l : List (ByteArray × Value)}
theorem run_checkKey_string (hK : P.underlying K = some .string) (em : Bool) (k : ByteArray) (w : World) : (Instr.checkKey em 10000 K (.string k)).run P w = .ok () w := by
  rw [show (10000 : Nat) = 9999 + 1 from rfl]
  unfold Instr.checkKey
  simp [run_underlying hK]
theorem run_findKey_string (hK : P.underlying K = some .string) {es : Array MapEntry} {r : Option (Nat × Value)} (k : ByteArray) (hf : Instr.findNow .string (.string k) es.toList 0 = some r) (w : World) :
    (Instr.findKey K (.string k) es.toList).run P w = .ok r w := by
  unfold Instr.findKey
  simp [run_underlying hK, hf]
theorem keys_string {es : List MapEntry} {l : List (ByteArray × Value)} (hp : (es.map fun e => (e.key, e.val)).Perm (l.map fun p => (.string p.1, p.2))) : ∀ e ∈ es, ∃ s, e.key = .string s ∧ (s, e.val) ∈ l := fun e he => by
  have : (e.key, e.val) ∈ l.map fun p => (Value.string p.1, p.2) := hp.mem_iff.1 (List.mem_map.2 ⟨e, he, rfl⟩)
  obtain ⟨p, hp1, hp2⟩ := List.mem_map.1 this
  simp only [Prod.mk.injEq] at hp2
  exact ⟨p.1, hp2.1.symm, by rw [← hp2.2]; exact hp1⟩
theorem MapIs.found (h : MapIs w m l) (hK : P.underlying K = some .string) (ht : P.underlying t = some (.map K E)) {k : ByteArray} {v : Value} (hv : (k, v) ∈ l) (ok : Bool) :
    (Instr.lookup t (.map (some m)) (.string k) ok).run P w = .ok (if ok then .tuple #[v, .bool true] else v) w := by
  obtain ⟨es, c, hb, hp, hn⟩ := h
  have hks := keys_string hp
  rcases findNow_string k es.toList 0 (fun e he => let ⟨s, hs, _⟩ := hks e he; ⟨s, hs⟩) with ⟨j, e, h1, h2, h3⟩ | ⟨h1, h2⟩
  · have hm := List.mem_of_getElem? h1
    obtain ⟨s, hs, hsl⟩ := hks e hm
    rw [h2] at hs
    injection hs with hs
    subst hs
    have hev : e.val = v := nodup_fst hn hsl hv
    have hr := run_findKey_string hK k h3 w
    unfold Instr.lookup
    simp [run_underlying ht, MapKept.run_getObj_map hb, run_checkKey_string hK, hr, hev]
  · exfalso
    have : (Value.string k, v) ∈ es.toList.map fun e => (e.key, e.val) := hp.mem_iff.2 (List.mem_map.2 ⟨(k, v), hv, rfl⟩)
    obtain ⟨e, he, hee⟩ := List.mem_map.1 this
    simp only [Prod.mk.injEq] at hee
    exact h1 e he hee.1
theorem MapIs.missing (h : MapIs w m l) (hK : P.underlying K = some .string) (ht : P.underlying t = some (.map K E)) {z : Value} (hz : ∀ w, (zeroValue E).run P w = .ok z w) {k : ByteArray} (hk : k ∉ l.map (·.1)) (ok : Bool) :
    (Instr.lookup t (.map (some m)) (.string k) ok).run P w = .ok (if ok then .tuple #[z, .bool false] else z) w := by
  obtain ⟨es, c, hb, hp, hn⟩ := h
  have hks := keys_string hp
  rcases findNow_string k es.toList 0 (fun e he => let ⟨s, hs, _⟩ := hks e he; ⟨s, hs⟩) with ⟨j, e, h1, h2, h3⟩ | ⟨h1, h2⟩
  · have hm := List.mem_of_getElem? h1
    obtain ⟨s, hs, hsl⟩ := hks e hm
    rw [h2] at hs
    injection hs with hs
    subst hs
    exact absurd (List.mem_map.2 ⟨_, hsl, rfl⟩) hk
  · have hr := run_findKey_string hK k h2 w
    unfold Instr.lookup
    simp [run_underlying ht, MapKept.run_getObj_map hb, run_checkKey_string hK, hr, hz]
theorem MapIs.put_new (h : MapIs w m l) (hK : P.underlying K = some .string) (ht : P.underlying t = some (.map K E)) {k : ByteArray} (hk : k ∉ l.map (·.1)) (v : Value) :
    ∃ o, (Instr.mapUpdate t (.map (some m)) (.string k) v).run P w = .ok () { w with heap := w.heap.setIfInBounds m o } ∧ MapIs { w with heap := w.heap.setIfInBounds m o } m (l ++ [(k, v)]) := by
  have hlt := h.lt
  obtain ⟨es, c, hb, hp, hn⟩ := h
  have hks := keys_string hp
  rcases findNow_string k es.toList 0 (fun e he => let ⟨s, hs, _⟩ := hks e he; ⟨s, hs⟩) with ⟨j, e, h1, h2, h3⟩ | ⟨h1, h2⟩
  · have hm := List.mem_of_getElem? h1
    obtain ⟨s, hs, hsl⟩ := hks e hm
    rw [h2] at hs
    injection hs with hs
    subst hs
    exact absurd (List.mem_map.2 ⟨_, hsl, rfl⟩) hk
  · have hr := run_findKey_string hK k h2 w
    refine ⟨.map (es.push { key := .string k, val := v, born := c }) (c + 1), ?_, es.push { key := .string k, val := v, born := c }, c + 1, by simp [hlt], ?_, ?_⟩
    · unfold Instr.mapUpdate
      simp [run_underlying ht, MapKept.run_getObj_map hb, run_checkKey_string hK, hr, MapKept.run_setObj_map _ hb]
    · simpa using hp.append (List.Perm.refl [(Value.string k, v)])
    · rw [List.map_append, List.nodup_append]
      refine ⟨hn, by simp, ?_⟩
      rintro a ha b hb' rfl
      simp at hb'
      subst hb'
      exact hk ha
theorem MapIs.put_same (h : MapIs w m l) (hK : P.underlying K = some .string) (ht : P.underlying t = some (.map K E)) {k : ByteArray} {v : Value} (hv : (k, v) ∈ l) :
    ∃ o, (Instr.mapUpdate t (.map (some m)) (.string k) v).run P w = .ok () { w with heap := w.heap.setIfInBounds m o } ∧ MapIs { w with heap := w.heap.setIfInBounds m o } m l := by
  have hlt := h.lt
  obtain ⟨es, c, hb, hp, hn⟩ := h
  have hks := keys_string hp
  rcases findNow_string k es.toList 0 (fun e he => let ⟨s, hs, _⟩ := hks e he; ⟨s, hs⟩) with ⟨j, e, h1, h2, h3⟩ | ⟨h1, h2⟩
  · have hm := List.mem_of_getElem? h1
    obtain ⟨s, hs, hsl⟩ := hks e hm
    rw [h2] at hs
    injection hs with hs
    subst hs
    rw [Nat.zero_add] at h3
    have hr := run_findKey_string hK k h3 w
    have hevv : e.val = v := nodup_fst hn hsl hv
    have hj : es[j]? = some e := by simpa using h1
    have hkt : (Instr.keyThatStays (.string k) (.string k)).run P w = .ok (.string k) w := MapKept.run_keyThatStays (d := .string) (by simp [MapKept.IsKey])
    have hmod : es.modify j (fun e => { e with key := .string k, val := v }) = es := by
      apply Array.ext_getElem?
      intro i
      rw [Array.getElem?_modify]
      split
      · rename_i hij
        subst hij
        rw [hj]
        simp only [Option.map_some, Option.some.injEq]
        rw [← hevv, ← h2]
      · rfl
    refine ⟨.map es c, ?_, es, c, by simp [hlt], hp, hn⟩
    unfold Instr.mapUpdate
    simp [run_underlying ht, MapKept.run_getObj_map hb, run_checkKey_string hK, hr, hj, h2, hkt, hmod, MapKept.run_setObj_map _ hb]
  · exfalso
    have : (Value.string k, v) ∈ es.toList.map fun e => (e.key, e.val) := hp.mem_iff.2 (List.mem_map.2 ⟨(k, v), hv, rfl⟩)
    obtain ⟨e, he, hee⟩ := List.mem_map.1 this
    simp only [Prod.mk.injEq] at hee
    exact h1 e he hee.1
theorem MapIs.drop (h : MapIs w m l) (hK : P.underlying K = some .string) (ht : P.underlying t = some (.map K E)) {k : ByteArray} {v : Value} (hv : (k, v) ∈ l) {E' : TypeId} {T : TypeId} :
    ∃ o, (Builtin.delete_ #[t, E'] T #[.map (some m), .string k]).run P w = .ok (.tuple #[]) { w with heap := w.heap.setIfInBounds m o } ∧
      ∀ l', l.Perm ((k, v) :: l') → MapIs { w with heap := w.heap.setIfInBounds m o } m l' := by
  have hlt := h.lt
  obtain ⟨es, c, hb, hp, hn⟩ := h
  have hks := keys_string hp
  rcases findNow_string k es.toList 0 (fun e he => let ⟨s, hs, _⟩ := hks e he; ⟨s, hs⟩) with ⟨j, e, h1, h2, h3⟩ | ⟨h1, h2⟩
  · have hm := List.mem_of_getElem? h1
    obtain ⟨s, hs, hsl⟩ := hks e hm
    rw [h2] at hs
    injection hs with hs
    subst hs
    rw [Nat.zero_add] at h3
    have hr := run_findKey_string hK k h3 w
    refine ⟨.map (es.eraseIdxIfInBounds j) c, ?_, fun l' hl' => ⟨es.eraseIdxIfInBounds j, c, by simp [hlt], ?_, ?_⟩⟩
    · unfold Builtin.delete_
      simp [run_underlying ht, MapKept.run_getObj_map hb, run_checkKey_string hK, hr, MapKept.run_setObj_map _ hb]
    · have hj : j < es.size := by have := (List.getElem?_eq_some_iff.1 h1).1; simpa using this
      have e1 : (es.eraseIdxIfInBounds j).toList = es.toList.eraseIdx j := by
        rw [Array.eraseIdxIfInBounds, dif_pos hj]; simp
      rw [e1]
      have e2 : es.toList.Perm (e :: es.toList.eraseIdx j) := perm_eraseIdx h1
      have e3 := (e2.map fun e => (e.key, e.val)).symm.trans (hp.trans (hl'.map _))
      have hevv : e.val = v := nodup_fst hn hsl hv
      simp only [List.map_cons, h2, hevv] at e3
      exact e3.cons_inv
    · have := (hl'.map (·.1)).nodup_iff.1 hn
      simp only [List.map_cons, List.nodup_cons] at this
      exact this.2
  · exfalso
    have : (Value.string k, v) ∈ es.toList.map fun e => (e.key, e.val) := hp.mem_iff.2 (List.mem_map.2 ⟨(k, v), hv, rfl⟩)
    obtain ⟨e, he, hee⟩ := List.mem_map.1 this
    simp only [Prod.mk.injEq] at hee
    exact h1 e he hee.1
theorem MapIs.count (h : MapIs w m l) (ht : P.underlying t = some (.map K E)) {T : TypeId} : (Builtin.len_ #[t] T #[.map (some m)]).run P w = .ok (.int .i64 l.length) w := by
  obtain ⟨es, c, hb, hp, hn⟩ := h
  have := hp.length_eq
  simp at this
  unfold Builtin.len_
  simp [run_underlying ht, MapKept.run_getObj_map hb, this, goInt]
end
theorem Fr.setObj {S : Nat → Prop} {a w : World} (h : Fr S a w) {m : Nat} (hp : m < a.heap.size → S m) (o : Obj) : Fr S a { w with heap := w.heap.setIfInBounds m o } :=
  ⟨h.os, h.tape, h.output, by have := h.size; simpa using this, fun k hk hS => by
    have : k ≠ m := fun e => hS (by subst e; exact hp hk)
    simp only [Array.getElem?_setIfInBounds]
    rw [if_neg (Ne.symm this)]
    exact h.block k hk hS⟩
theorem Blk.setObj {w : World} {b : Nat} {t : TypeId} {cs : Array Value} (h : Blk w b t cs) {m : Nat} (hb : b ≠ m) (o : Obj) : Blk { w with heap := w.heap.setIfInBounds m o } b t cs := by
  unfold Blk at *
  simp only [Array.getElem?_setIfInBounds]
  rw [if_neg (Ne.symm hb)]
  exact h
end Go.Q

namespace Go.Q
open Go Go.RowKit
def mkey (g : Gen) : ByteArray := ⟨(genKeyS g).toArray⟩
theorem mkey_inj {g p : Gen} : mkey g = mkey p ↔ genKeyS g = genKeyS p := by
  unfold mkey
  constructor
  · intro h
    have := congrArg (fun b : ByteArray => b.data.toList) h
    simpa using this
  · intro h
    rw [h]
def Seen (l : List (ByteArray × Value)) (a : List Gen) : Prop :=
  (∀ k v, (k, v) ∈ l → v = .bool true) ∧ ∀ k, k ∈ l.map (·.1) ↔ ∃ g ∈ a, genOk g = true ∧ mkey g = k
theorem Seen.hit {l : List (ByteArray × Value)} {a : List Gen} (h : Seen l a) {k : ByteArray} (hk : ∃ g ∈ a, genOk g = true ∧ mkey g = k) : (k, Value.bool true) ∈ l := by
  obtain ⟨⟨x, v⟩, hp, rfl⟩ := List.mem_map.1 ((h.2 k).2 hk)
  have := h.1 _ _ hp
  subst this
  exact hp
theorem Seen.skip {l : List (ByteArray × Value)} {a : List Gen} (h : Seen l a) {g : Gen} (hg : genOk g = false) : Seen l (a ++ [g]) := by
  refine ⟨h.1, fun k => ?_⟩
  rw [h.2 k]
  constructor
  · rintro ⟨x, hx, h1⟩
    exact ⟨x, by simp [hx], h1⟩
  · rintro ⟨x, hx, h1, h2⟩
    rcases List.mem_append.1 hx with hx | hx
    · exact ⟨x, hx, h1, h2⟩
    · simp at hx
      subst hx
      rw [hg] at h1
      cases h1
theorem Seen.again {l : List (ByteArray × Value)} {a : List Gen} (h : Seen l a) {g : Gen} (hg : mkey g ∈ l.map (·.1)) : Seen l (a ++ [g]) := by
  refine ⟨h.1, fun k => ?_⟩
  rw [h.2 k]
  constructor
  · rintro ⟨x, hx, h1⟩
    exact ⟨x, by simp [hx], h1⟩
  · rintro ⟨x, hx, h1, h2⟩
    rcases List.mem_append.1 hx with hx | hx
    · exact ⟨x, hx, h1, h2⟩
    · simp at hx
      subst hx
      rw [← h2]
      exact (h.2 _).1 hg
theorem Seen.more {l : List (ByteArray × Value)} {a : List Gen} (h : Seen l a) {g : Gen} (hg : genOk g = true) : Seen (l ++ [(mkey g, .bool true)]) (a ++ [g]) := by
  refine ⟨fun k v hv => ?_, fun k => ?_⟩
  · rcases List.mem_append.1 hv with hv | hv
    · exact h.1 k v hv
    · simp at hv
      exact hv.2
  · rw [List.map_append, List.mem_append, h.2 k]
    constructor
    · rintro (⟨x, hx, h1⟩ | hk)
      · exact ⟨x, by simp [hx], h1⟩
      · simp at hk
        exact ⟨g, by simp, hg, hk.symm⟩
    · rintro ⟨x, hx, h1, h2⟩
      rcases List.mem_append.1 hx with hx | hx
      · exact .inl ⟨x, hx, h1, h2⟩
      · simp at hx
        subst hx
        exact .inr (by simp [h2])
def metS (a : List Gen) (g : Gen) : Bool := a.any fun x => genSameS x g
theorem met_iff (a : List Gen) (g : Gen) : metS a g = true ↔ genOk g = true ∧ ∃ x ∈ a, genOk x = true ∧ mkey x = mkey g := by
  unfold metS genSameS
  rw [List.any_eq_true]
  constructor
  · rintro ⟨x, hx, h⟩
    simp only [Bool.and_eq_true, decide_eq_true_eq] at h
    exact ⟨h.1.2, x, hx, h.1.1, mkey_inj.2 h.2⟩
  · rintro ⟨h1, x, hx, h2, h3⟩
    exact ⟨x, hx, by simp [h1, h2, mkey_inj.1 h3]⟩
theorem meet_any (a b : List Gen) : genMeetS a b = b.any (metS a) := by
  unfold genMeetS metS
  rw [Bool.eq_iff_iff, List.any_eq_true, List.any_eq_true]
  constructor
  · rintro ⟨x, hx, h⟩
    obtain ⟨y, hy, h⟩ := List.any_eq_true.1 h
    exact ⟨y, hy, List.any_eq_true.2 ⟨x, hx, h⟩⟩
  · rintro ⟨y, hy, h⟩
    obtain ⟨x, hx, h⟩ := List.any_eq_true.1 h
    exact ⟨x, hx, List.any_eq_true.2 ⟨y, hy, h⟩⟩
theorem same_swap (a b : Gen) : genSameS a b = genSameS b a := by
  unfold genSameS
  rw [Bool.and_comm (genOk a)]
  congr 1
  exact decide_eq_decide.2 ⟨Eq.symm, Eq.symm⟩
theorem meet_swap (a b : List Gen) : genMeetS b a = genMeetS a b := by
  rw [meet_any]
  unfold genMeetS metS
  congr 1
  funext x
  congr 1
  funext y
  exact same_swap y x
end Go.Q
namespace Go.Proofs.YtacekpdjapgfcaaGreatDoor
open Go Go.RowKit Go.Q
set_option linter.unusedSimpArgs false
theorem zero_bool (w : World) : (zeroValue 4).run Tryz.prog w = .ok (.bool false) w := by kernel_rfl
set_option maxRecDepth 20000 in
set_option maxHeartbeats 2000000 in
theorem meet1_any (u : Value) (g : Gen) (a : List Gen) (c m : Nat) (l : List (ByteArray × Value)) (w : World) (h : GenAt w u g) (hf : fewG g) (hE : Env w) (B : Blk w c 130 #[.map (some m)]) (M : MapIs w m l) (hS : Seen l a) :
    Calls Tryz.prog 82 #[u, pt c] w fun e w' => e = .returned (.bool (metS a g)) ∧ Fr (fun _ => False) w w' := by
  obtain ⟨ab, cb, an, cn, rfl, -, -⟩ := h.form
  obtain ⟨z, hz⟩ : ∃ z, z = w.heap.size := ⟨_, rfl⟩
  have HZ := Lib.hid hz
  have F0 : Fr (fun _ => False) w (w.alloc (.cells #[.int .i64 g.k, .slice ab g.b.length cb, .slice an g.n.length cn] 42)) := (Fr.refl w).alloc _
  have D := Blk.new w 42 #[.int .i64 g.k, .slice ab g.b.length cb, .slice an g.n.length cn]
  rw [← hz] at D
  have HK := Lib.hid (genKey_any _ g _ (h.old F0) hf (hE.old F0))
  have HF0 := Lib.hid F0
  have HB := Lib.hid (B.fr F0 (fun h => h))
  have HM := Lib.hid (M.fr F0 (fun h => h))
  have HS := Lib.hid hS
  clear h hE F0 B M hS hz
  go_enter Tryz.func82, Tryz.ntmps82
  go_upto_region 1 with fail
  rw [← HZ.out]
  generalize (w.alloc (.cells #[.int .i64 g.k, .slice ab g.b.length cb, .slice an g.n.length cn] 42)) = w0 at *
  have e0 := D.cell 0
  have e1 := D.cell 1
  have e2 := D.cell 2
  simp only [List.getElem?_toArray, List.getElem?_cons_succ, List.getElem?_cons_zero] at e0 e1 e2
  go_wp2_with fail
  refine HK.out.mono ?_
  rintro e w1 ⟨rfl, F1⟩
  have HF1 := Lib.hid (HF0.out.trans F1)
  have B1 := HB.out.fr F1 (fun h => h)
  have M1 := HM.out.fr F1 (fun h => h)
  have b0 := B1.cell 0
  simp only [List.getElem?_toArray, List.getElem?_cons_succ, List.getElem?_cons_zero] at b0
  clear F1 HK D e0 e1 e2 B1
  cases hg : genOk g with
  | false =>
    have HX := Lib.hid (show metS a g = false by
      cases hm : metS a g with
      | false => rfl
      | true => rw [met_iff, hg] at hm; cases hm.1)
    have HY : gkErr g = 1 := by unfold gkErr; rw [hg]; rfl
    rw [HY]
    clear HY hg M1
    go_wp2_with fail
    go_ret
    exact ⟨by rw [HX.out]; rfl, HF1.out⟩
  | true =>
    have HY : gkErr g = 0 := by unfold gkErr; rw [hg]; rfl
    have HO : gkOut g = genKeyS g := by unfold gkOut; rw [hg]; rfl
    rw [HY, HO]
    by_cases hm : ∃ x ∈ a, genOk x = true ∧ mkey x = mkey g
    · have hl := M1.found (P := Tryz.prog) (K := 9) (t := 130) Tryz.underlying9 Tryz.underlying130 (HS.out.hit hm) false
      rw [show mkey g = ⟨(genKeyS g).toArray⟩ from rfl] at hl
      have HX := Lib.hid (show metS a g = true from (met_iff a g).2 ⟨hg, hm⟩)
      clear HY HO hg M1 hm
      generalize genKeyS g = kg at *
      go_wp2_with fail
      go_ret
      exact ⟨by rw [HX.out]; rfl, HF1.out⟩
    · have hl := M1.missing (P := Tryz.prog) (K := 9) (t := 130) (z := .bool false) Tryz.underlying9 Tryz.underlying130 zero_bool (k := mkey g) (fun h => hm ((HS.out.2 _).1 h)) false
      rw [show mkey g = ⟨(genKeyS g).toArray⟩ from rfl] at hl
      have HX := Lib.hid (show metS a g = false by
        cases hx : metS a g with
        | false => rfl
        | true => exact absurd ((met_iff a g).1 hx).2 hm)
      clear HY HO hg M1 hm
      generalize genKeyS g = kg at *
      go_wp2_with fail
      go_ret
      exact ⟨by rw [HX.out]; rfl, HF1.out⟩
end Go.Proofs.YtacekpdjapgfcaaGreatDoor

namespace Go.Proofs.YtacekpdjapgfcaaGreatDoor
open Go Go.RowKit Go.Q
set_option linter.unusedSimpArgs false
set_option maxRecDepth 20000 in
set_option maxHeartbeats 4000000 in
theorem genIndex_any (v : Value) (l : List Gen) (p : Gen → Bool) (c : Nat) (w : World) (h : Gens w v l)
    (hc : ∀ W, Fr (fun _ => False) w W → ∀ u g, g ∈ l → GenAt W u g → Calls Tryz.prog 82 #[u, pt c] W fun e w' => e = .returned (.bool (p g)) ∧ Fr (fun _ => False) W w') :
    Calls Tryz.prog 128 #[v, .func (.func 82) #[] #[pt c]] w fun e w' => (∃ i : Int, e = .returned (.int .i64 i) ∧ decide (0 ≤ i) = l.any p) ∧ Fr (fun _ => False) w w' := by
  have H := Lib.hid h
  have HC := Lib.hid hc
  obtain ⟨a0, cap0, rfl, hc0, hm0, -⟩ := h
  have hm2 : l.length ≤ 9223372036854775807 := by unfold maxLen at hm0; omega
  clear hc hc0 hm0
  go_enter Tryz.func128, Tryz.ntmps128
  go_wp2_with fail
  go_loopg [8] l.length (fun g s wr => ∃ j : Nat, g = l.length - j ∧ j ≤ l.length ∧ s = .int .i64 j ∧ Hid (∀ x ∈ l.take j, p x = false) ∧ Fr (fun _ => False) w wr)
  case atStart => exact ⟨0, rfl, Nat.zero_le _, rfl, Lib.hid (by simp), Fr.refl _⟩
  case round =>
    obtain ⟨j, hg, hj, rfl, HN, F⟩ := hrel
    have HG := Lib.hid hg
    have HF := Lib.hid F
    clear hg
    by_cases hjl : j < l.length
    · obtain ⟨x, hx⟩ : ∃ x, l[j]? = some x := ⟨_, List.getElem?_eq_getElem hjl⟩
      obtain ⟨b1, o1, ab, cb, an, cn, rfl, -, hgx, e0, e1, e2⟩ := (H.out.old F).get hx
      have HX := Lib.hid hx
      have HO := Lib.hid (HC.out wr F _ x (List.mem_of_getElem? hx) hgx)
      have r1 : (0 : Int) ≤ (j : Int) := by omega
      have r2 : (j : Int) < (l.length : Int) := by omega
      clear hx hgx F
      go_wp2_with fail
      refine HO.out.mono ?_
      rintro e w2 ⟨rfl, F2⟩
      have HF2 := Lib.hid (HF.out.trans F2)
      clear F2 e0 e1 e2 HO
      cases hp : p x with
      | true =>
        have HR := Lib.hid (show l.any p = true from List.any_eq_true.2 ⟨x, List.mem_of_getElem? HX.out, hp⟩)
        clear hp
        go_wp2_with fail
        go_ret
        exact ⟨⟨j, rfl, by rw [HR.out, decide_eq_true r1]⟩, HF2.out⟩
      | false =>
        have HN2 := Lib.hid (show ∀ y ∈ l.take (j + 1), p y = false from fun y hy => by
          rw [List.take_add_one, HX.out] at hy
          rcases List.mem_append.1 hy with h1 | h1
          · exact HN.out y h1
          · simp at h1
            rw [h1]
            exact hp)
        clear hp
        go_wp2_with fail
        go_roundg (l.length - (j + 1))
        case measure => rw [HG.out]; omega
        case rel => exact ⟨j + 1, rfl, by omega, by go_num, HN2, HF2.out⟩
    · have hall := HN.out
      rw [List.take_of_length_le (by omega)] at hall
      have HR := Lib.hid (show l.any p = false from by
        rw [List.any_eq_false]
        intro y hy
        rw [hall y hy]
        decide)
      clear hall
      go_wp2_with fail
      go_ret
      exact ⟨⟨-1, rfl, by rw [HR.out]; rfl⟩, F⟩
set_option maxRecDepth 20000 in
set_option maxHeartbeats 4000000 in
theorem genContains_any (v : Value) (l : List Gen) (p : Gen → Bool) (c : Nat) (w : World) (h : Gens w v l)
    (hc : ∀ W, Fr (fun _ => False) w W → ∀ u g, g ∈ l → GenAt W u g → Calls Tryz.prog 82 #[u, pt c] W fun e w' => e = .returned (.bool (p g)) ∧ Fr (fun _ => False) W w') :
    Calls Tryz.prog 81 #[v, .func (.func 82) #[] #[pt c]] w fun e w' => e = .returned (.bool (l.any p)) ∧ Fr (fun _ => False) w w' := by
  have HI := Lib.hid (genIndex_any v l p c w h hc)
  clear h hc
  go_enter Tryz.func81, Tryz.ntmps81
  go_wp2_with fail
  refine HI.out.mono ?_
  rintro e w2 ⟨⟨i, rfl, hi⟩, F2⟩
  have HH := Lib.hid hi
  clear hi
  go_wp2_with fail
  go_ret
  exact ⟨by rw [← HH.out]; rfl, F2⟩
end Go.Proofs.YtacekpdjapgfcaaGreatDoor

namespace Go.Proofs.YtacekpdjapgfcaaGreatDoor
open Go Go.RowKit Go.Q
set_option linter.unusedSimpArgs false
set_option maxRecDepth 20000 in
set_option maxHeartbeats 4000000 in
theorem genMeet_any (v u : Value) (a b : List Gen) (w : World) (ha : Gens w v a) (hb : Gens w u b) (hfa : ∀ g ∈ a, fewG g) (hfb : ∀ g ∈ b, fewG g) (hE : Env w) :
    Calls Tryz.prog 33 #[v, u] w fun e w' => e = .returned (.bool (genMeetS a b)) ∧ Fr (fun _ => False) w w' := by
  have HA := Lib.hid ha
  have HB := Lib.hid hb
  have HFA := Lib.hid hfa
  have HFB := Lib.hid hfb
  have HE := Lib.hid hE
  obtain ⟨a0, cap0, rfl, hc, hm, -⟩ := ha
  have hm2 : a.length ≤ 9223372036854775807 := by unfold maxLen at hm; omega
  clear hfa hfb hE hb hc hm
  have hmk := @run_makeMap Tryz.prog
  have F1 : Fr (fun _ => False) w ((w.alloc (.map #[] 0)).alloc (.cells #[.map (some w.heap.size)] 130)) := ((Fr.refl w).alloc _).alloc _
  have B1 := Blk.new (w.alloc (.map #[] 0)) 130 #[.map (some w.heap.size)]
  rw [World.size_alloc] at B1
  have M1 : MapIs ((w.alloc (.map #[] 0)).alloc (.cells #[.map (some w.heap.size)] 130)) w.heap.size [] := by
    refine MapIs.fr (S := fun _ => False) (w := w.alloc (.map #[] 0)) ?_ ((Fr.refl _).alloc _) (fun h => h)
    refine ⟨#[], 0, ?_, by simp, by simp⟩
    unfold World.alloc
    simp
  obtain ⟨m, hmm⟩ : ∃ m, m = w.heap.size := ⟨_, rfl⟩
  rw [← hmm] at B1 M1
  have HMM := Lib.hid hmm
  have HF1 := Lib.hid F1
  have HB1 := Lib.hid B1
  have HM1 := Lib.hid M1
  clear F1 B1 M1
  go_enter Tryz.func33, Tryz.ntmps33
  go_upto_region 2 with fail
  try simp only [World.size_alloc]
  rw [← HMM.out] at HF1 ⊢
  clear hmk hmm
  generalize ((w.alloc (.map #[] 0)).alloc (.cells #[.map (some m)] 130)) = w1 at *
  go_wp2_with fail
  go_loopg [13] a.length (fun g s wr => ∃ (j : Nat) (lm : List (ByteArray × Value)), g = a.length - j ∧ j ≤ a.length ∧ s = .int .i64 j ∧ Hid (MapIs wr m lm ∧ Seen lm (a.take j) ∧ Blk wr (m + 1) 130 #[.map (some m)]) ∧ Fr (fun _ => False) w wr)
  case atStart => exact ⟨0, [], rfl, Nat.zero_le _, rfl, Lib.hid ⟨HM1.out, ⟨by simp, by simp⟩, HB1.out⟩, HF1.out⟩
  case round =>
    obtain ⟨j, lm, hg, hj, rfl, HI, F⟩ := hrel
    have HG := Lib.hid hg
    have HF := Lib.hid F
    clear hg
    by_cases hjl : j < a.length
    · obtain ⟨x, hx⟩ : ∃ x, a[j]? = some x := ⟨_, List.getElem?_eq_getElem hjl⟩
      obtain ⟨b1, o1, ab, cb, an, cn, rfl, -, hgx, e0, e1, e2⟩ := (HA.out.old F).get hx
      have HX := Lib.hid hx
      have r1 : (0 : Int) ≤ (j : Int) := by omega
      have r2 : (j : Int) < (a.length : Int) := by omega
      have Fa : Fr (fun _ => False) wr (wr.alloc (.cells #[.int .i64 x.k, .slice ab x.b.length cb, .slice an x.n.length cn] 42)) := (Fr.refl wr).alloc _
      have HO := Lib.hid (genKey_any _ x _ (hgx.old Fa) (HFA.out x (List.mem_of_getElem? hx)) (HE.out.old (F.trans Fa)))
      have HFa := Lib.hid Fa
      clear hx hgx F Fa
      go_wp2_with fail
      refine HO.out.mono ?_
      rintro e w2 ⟨rfl, F2⟩
      have HF2 := Lib.hid ((HF.out.trans HFa.out).trans F2)
      have M2 := (HI.out.1.fr HFa.out (fun h => h)).fr F2 (fun h => h)
      have B2 := (HI.out.2.2.fr HFa.out (fun h => h)).fr F2 (fun h => h)
      have HS := Lib.hid HI.out.2.1
      have b0 := B2.cell 0
      simp only [List.getElem?_toArray, List.getElem?_cons_zero] at b0
      clear F2 e0 e1 e2 HO HFa HI
      cases hok : genOk x with
      | false =>
        have hy : gkErr x = 1 := by unfold gkErr; rw [hok]; rfl
        rw [hy]
        have HI2 := Lib.hid (And.intro M2 (And.intro (HS.out.skip hok) B2))
        clear hy hok M2 B2
        go_wp2_with fail
        go_roundg (a.length - (j + 1))
        case measure => rw [HG.out]; omega
        case rel => exact ⟨j + 1, lm, rfl, by omega, by go_num, by rw [List.take_add_one, HX.out]; exact HI2, HF2.out⟩
      | true =>
        have hy : gkErr x = 0 := by unfold gkErr; rw [hok]; rfl
        have ho : gkOut x = genKeyS x := by unfold gkOut; rw [hok]; rfl
        rw [hy, ho]
        have hstep : ∃ o lm2, (Instr.mapUpdate 130 (.map (some m)) (str (genKeyS x)) (.bool true)).run Tryz.prog w2 = .ok () { w2 with heap := w2.heap.setIfInBounds m o } ∧ MapIs { w2 with heap := w2.heap.setIfInBounds m o } m lm2 ∧ Seen lm2 (a.take j ++ [x]) := by
          by_cases hin : mkey x ∈ lm.map (·.1)
          · obtain ⟨⟨k', v'⟩, hp, hk'⟩ := List.mem_map.1 hin
            have hv := HS.out.1 _ _ hp
            subst hv
            have hk2 : k' = mkey x := hk'
            subst hk2
            obtain ⟨o, h1, h2⟩ := M2.put_same (P := Tryz.prog) (K := 9) (t := 130) Tryz.underlying9 Tryz.underlying130 hp
            exact ⟨o, lm, h1, h2, HS.out.again hin⟩
          · obtain ⟨o, h1, h2⟩ := M2.put_new (P := Tryz.prog) (K := 9) (t := 130) Tryz.underlying9 Tryz.underlying130 hin (.bool true)
            exact ⟨o, _, h1, h2, HS.out.more hok⟩
        obtain ⟨o, lm2, hrun, M3, S3⟩ := hstep
        have B3 := B2.setObj (m := m) (by omega) o
        have HF3 := Lib.hid (HF2.out.trans' ((Fr.refl w2).setObj (S := fun k => k = m) (fun _ => rfl) o) (fun i hi e => by have := HMM.out; omega))
        have HI3 := Lib.hid (And.intro M3 (And.intro S3 B3))
        clear hy ho hok M2 B2 M3 S3 B3 HF2 HS
        generalize genKeyS x = kx at *
        go_wp2_with fail
        go_roundg (a.length - (j + 1))
        case measure => rw [HG.out]; omega
        case rel => exact ⟨j + 1, lm2, rfl, by omega, by go_num, by rw [List.take_add_one, HX.out]; exact HI3, HF3.out⟩
    · have hall := HI.out
      rw [List.take_of_length_le (by omega)] at hall
      have HO := Lib.hid (genContains_any u b (metS a) (m + 1) wr (HB.out.old F) (fun W FW u g hg hga => meet1_any u g a (m + 1) m lm W hga (HFB.out g hg) (HE.out.old (F.trans FW)) (hall.2.2.fr FW (fun h => h)) (hall.1.fr FW (fun h => h)) hall.2.1))
      rw [← meet_any] at HO
      clear hall HI
      go_wp2_with fail
      refine HO.out.mono ?_
      rintro e w2 ⟨rfl, F2⟩
      have HF2 := Lib.hid (F.trans F2)
      clear F2 HO
      go_wp2_with fail
      go_ret
      exact ⟨rfl, HF2.out⟩
end Go.Proofs.YtacekpdjapgfcaaGreatDoor

namespace Go.Q
open Go
def b256 : Nat → Nat → List UInt8
  | 0, _ => []
  | f + 1, n => if n = 0 then [] else b256 f (n / 256) ++ [UInt8.ofNat (n % 256)]
theorem beS_snoc (l : List UInt8) (x : UInt8) : beS (l ++ [x]) = beS l * 256 + x.toNat := by simp [beS, List.foldl_append]
theorem b256_val : ∀ (f n : Nat), n < 256 ^ f → beS (b256 f n) = n
  | 0, n, h => by simp at h; subst h; rfl
  | f + 1, n, h => by
    unfold b256
    split
    · rename_i h0; subst h0; rfl
    · rw [beS_snoc, b256_val f (n / 256) (by rw [Nat.pow_succ] at h; omega), u8 (n % 256) (by omega)]
      omega
theorem b256_len : ∀ (f n : Nat), (b256 f n).length ≤ f
  | 0, _ => by simp [b256]
  | f + 1, n => by
    unfold b256
    split
    · simp
    · have := b256_len f (n / 256)
      rw [List.length_append, List.length_singleton]
      omega
theorem b256_head : ∀ (f n : Nat), n < 256 ^ f → ∀ x, (b256 f n)[0]? = some x → x ≠ 0
  | 0, n, h, x, hx => by simp [b256] at hx
  | f + 1, n, h, x, hx => by
    unfold b256 at hx
    split at hx
    · simp at hx
    · rename_i hn
      by_cases h0 : n / 256 = 0
      · rw [h0] at hx
        have e : b256 f 0 = [] := by cases f <;> simp [b256]
        rw [e] at hx
        simp at hx
        subst hx
        intro e
        have := congrArg UInt8.toNat e
        rw [u8 (n % 256) (by omega)] at this
        simp at this
        omega
      · have hl : 0 < (b256 f (n / 256)).length := by
          rcases Nat.eq_zero_or_pos (b256 f (n / 256)).length with h1 | h1
          · have := b256_val f (n / 256) (by rw [Nat.pow_succ] at h; omega)
            rw [List.length_eq_zero_iff.1 h1] at this
            exact absurd this.symm h0
          · exact h1
        rw [List.getElem?_append_left hl] at hx
        exact b256_head f (n / 256) (by rw [Nat.pow_succ] at h; omega) x hx
def decVal : List Nat → Nat
  | [] => 0
  | x :: t => x + 10 * decVal t
theorem decVal_append : ∀ a b : List Nat, decVal (a ++ b) = decVal a + 10 ^ a.length * decVal b
  | [], b => by simp [decVal]
  | x :: t, b => by
    have ih := decVal_append t b
    simp only [List.cons_append, decVal, ih, List.length_cons, Nat.pow_succ, Nat.mul_add]
    rw [← Nat.mul_assoc, Nat.mul_comm (10 ^ t.length) 10]
    omega
def mulGo : Nat → List Nat → List Nat × Nat
  | c, [] => ([], c)
  | c, x :: t => (((256 * x + c) % 10) :: (mulGo ((256 * x + c) / 10) t).1, (mulGo ((256 * x + c) / 10) t).2)
theorem mulGo_snoc : ∀ (c : Nat) (l : List Nat) (x : Nat), mulGo c (l ++ [x]) = ((mulGo c l).1 ++ [(256 * x + (mulGo c l).2) % 10], (256 * x + (mulGo c l).2) / 10)
  | c, [], x => by simp [mulGo]
  | c, y :: t, x => by
    have ih := mulGo_snoc ((256 * y + c) / 10) t x
    simp only [List.cons_append, mulGo, ih]
theorem mulGo_len : ∀ (c : Nat) (l : List Nat), (mulGo c l).1.length = l.length
  | c, [] => rfl
  | c, x :: t => by simp only [mulGo, List.length_cons, mulGo_len]
theorem mulGo_val : ∀ (c : Nat) (l : List Nat), decVal (mulGo c l).1 + 10 ^ l.length * (mulGo c l).2 = 256 * decVal l + c
  | c, [] => by simp [mulGo, decVal]
  | c, x :: t => by
    have ih := mulGo_val ((256 * x + c) / 10) t
    simp only [mulGo, decVal, List.length_cons, Nat.pow_succ]
    rw [show 10 ^ t.length * 10 * (mulGo ((256 * x + c) / 10) t).2 = 10 * (10 ^ t.length * (mulGo ((256 * x + c) / 10) t).2) from by rw [Nat.mul_comm (10 ^ t.length) 10, Nat.mul_assoc]]
    generalize 10 ^ t.length * (mulGo ((256 * x + c) / 10) t).2 = y at *
    omega
theorem mulGo_small : ∀ (c : Nat) (l : List Nat), c ≤ 255 → (∀ x ∈ l, x < 10) → (mulGo c l).2 ≤ 255 ∧ ∀ x ∈ (mulGo c l).1, x < 10
  | c, [], hc, _ => ⟨hc, fun x hx => by cases hx⟩
  | c, x :: t, hc, h => by
    have hx := h x (by simp)
    obtain ⟨h1, h2⟩ := mulGo_small ((256 * x + c) / 10) t (by omega) (fun y hy => h y (by simp [hy]))
    refine ⟨h1, fun y hy => ?_⟩
    simp only [mulGo, List.mem_cons] at hy
    rcases hy with rfl | hy
    · omega
    · exact h2 y hy
def tailD : Nat → Nat → List Nat
  | 0, _ => []
  | f + 1, c => if c = 0 then [] else c % 10 :: tailD f (c / 10)
theorem tail_val (c : Nat) (h : c ≤ 255) : decVal (tailD 3 c) = c := by
  simp only [tailD]
  split
  · simp [decVal]; omega
  · split
    · simp [decVal]; omega
    · split
      · simp [decVal]; omega
      · simp [decVal]; omega
theorem tail_digits : ∀ (f c : Nat), ∀ x ∈ tailD f c, x < 10
  | 0, _, x, hx => by cases hx
  | f + 1, c, x, hx => by
    unfold tailD at hx
    split at hx
    · cases hx
    · rcases List.mem_cons.1 hx with rfl | hx
      · omega
      · exact tail_digits f (c / 10) x hx
theorem tail_len : ∀ (f c : Nat), (tailD f c).length ≤ f
  | 0, _ => by simp [tailD]
  | f + 1, c => by
    unfold tailD
    split
    · simp
    · have := tail_len f (c / 10)
      simp only [List.length_cons]
      omega
theorem tail_last (c : Nat) (h : c ≤ 255) : ∀ x, (tailD 3 c).getLast? = some x → x ≠ 0 := by
  intro x hx
  simp only [tailD] at hx
  split at hx
  · cases hx
  · split at hx
    · simp at hx; omega
    · split at hx
      · simp at hx; omega
      · simp at hx; omega
def stepD (d : List Nat) (x : UInt8) : List Nat := (mulGo x.toNat d).1 ++ tailD 3 (mulGo x.toNat d).2
def decGood (d : List Nat) : Prop := (∀ x ∈ d, x < 10) ∧ d ≠ [] ∧ (d = [0] ∨ ∀ x, d.getLast? = some x → x ≠ 0)
theorem stepD_good {d : List Nat} (h : decGood d) (x : UInt8) : decGood (stepD d x) ∧ decVal (stepD d x) = 256 * decVal d + x.toNat ∧ (stepD d x).length ≤ d.length + 3 := by
  obtain ⟨h1, h2, h3⟩ := h
  have hx := x.toNat_lt
  obtain ⟨g1, g2⟩ := mulGo_small x.toNat d (by omega) h1
  have hv := mulGo_val x.toNat d
  have hl := mulGo_len x.toNat d
  refine ⟨⟨?_, ?_, ?_⟩, ?_, ?_⟩
  · intro y hy
    rcases List.mem_append.1 hy with hy | hy
    · exact g2 y hy
    · exact tail_digits _ _ y hy
  · intro e
    have := congrArg List.length e
    simp only [stepD, List.length_append, hl, List.length_nil] at this
    have h4 := List.length_pos_iff.2 h2
    omega
  · obtain ⟨t, z, rfl⟩ : ∃ t z, d = t ++ [z] := ⟨d.dropLast, d.getLast h2, (List.dropLast_concat_getLast h2).symm⟩
    by_cases h0 : (mulGo x.toNat (t ++ [z])).2 = 0
    · have e : stepD (t ++ [z]) x = (mulGo x.toNat (t ++ [z])).1 := by unfold stepD; rw [h0]; simp [tailD]
      rw [e]
      rw [mulGo_snoc] at h0 ⊢
      simp only at h0 ⊢
      have hz : z = 0 := by omega
      rcases h3 with h3 | h3
      · have ht : t = [] := by
          have := congrArg List.length h3
          simp at this
          exact this
        subst ht
        subst hz
        simp only [mulGo, List.nil_append] at h0 ⊢
        by_cases hx0 : x.toNat = 0
        · exact .inl (by simp [hx0])
        · exact .inr (fun y hy => by simp at hy; omega)
      · exact absurd hz (h3 z (by simp))
    · refine .inr (fun y hy => ?_)
      unfold stepD at hy
      have hne : tailD 3 (mulGo x.toNat (t ++ [z])).2 ≠ [] := by
        simp only [tailD, if_neg h0]
        exact List.cons_ne_nil _ _
      rw [List.getLast?_append] at hy
      cases hq : (tailD 3 (mulGo x.toNat (t ++ [z])).2).getLast? with
      | none => exact absurd (List.getLast?_eq_none_iff.1 hq) hne
      | some q =>
        rw [hq] at hy
        simp only [Option.some_or, Option.some.injEq] at hy
        subst hy
        exact tail_last _ g1 _ hq
  · unfold stepD
    rw [decVal_append, tail_val _ g1, hl]
    exact hv
  · unfold stepD
    rw [List.length_append, hl]
    have := tail_len 3 (mulGo x.toNat d).2
    omega
def digsS (b : List UInt8) : List Nat := b.foldl stepD [0]
theorem digs_good (b : List UInt8) : decGood (digsS b) ∧ decVal (digsS b) = beS b ∧ (digsS b).length ≤ 1 + 3 * b.length := by
  induction hn : b.length generalizing b with
  | zero =>
    obtain rfl := List.length_eq_zero_iff.1 hn
    exact ⟨⟨by simp [digsS], by simp [digsS], .inl rfl⟩, rfl, by simp [digsS]⟩
  | succ n ih =>
    have hne : b ≠ [] := fun e => by simp [e] at hn
    obtain ⟨t, x, rfl⟩ : ∃ t x, b = t ++ [x] := ⟨b.dropLast, b.getLast hne, (List.dropLast_concat_getLast hne).symm⟩
    obtain ⟨h1, h2, h3⟩ := ih t (by simpa using hn)
    have e : digsS (t ++ [x]) = stepD (digsS t) x := by simp [digsS, List.foldl_append]
    rw [e]
    obtain ⟨g1, g2, g3⟩ := stepD_good h1 x
    refine ⟨g1, by rw [g2, h2, beS_snoc]; omega, by simp at hn; omega⟩
theorem digsS_take {b : List UInt8} {j : Nat} {x : UInt8} (h : b[j]? = some x) : digsS (b.take (j + 1)) = stepD (digsS (b.take j)) x := by
  unfold digsS
  rw [List.take_add_one, h]
  simp [List.foldl_append]
def decText (d : List Nat) : List UInt8 := d.reverse.map fun x => UInt8.ofNat (48 + x)
theorem dec_small {n : Nat} (h : n < 10) : Lib.decDigits n = [UInt8.ofNat (48 + n)] := by rw [Lib.decDigits, dif_pos h]
theorem dec_big {n : Nat} (h : ¬ n < 10) : Lib.decDigits n = Lib.decDigits (n / 10) ++ [UInt8.ofNat (48 + n % 10)] := by rw [Lib.decDigits, dif_neg h]
theorem decText_val : ∀ d : List Nat, decGood d → decText d = Lib.decDigits (decVal d)
  | [], h => absurd rfl h.2.1
  | [x], h => by
    have hx := h.1 x (by simp)
    have e : decVal [x] = x := by simp [decVal]
    rw [e, dec_small hx]
    rfl
  | x :: y :: t, h => by
    have hx := h.1 x (by simp)
    have hl : ∀ z, (x :: y :: t).getLast? = some z → z ≠ 0 := by
      rcases h.2.2 with h3 | h3
      · cases h3
      · exact h3
    have hg : decGood (y :: t) := ⟨fun z hz => h.1 z (by simp [List.mem_cons.1 hz]), by simp, .inr (fun z hz => hl z (by rw [List.getLast?_cons_cons]; exact hz))⟩
    have ih := decText_val (y :: t) hg
    have hpos : decVal (y :: t) ≠ 0 := by
      have : ∀ l : List Nat, l ≠ [] → (∀ z, l.getLast? = some z → z ≠ 0) → decVal l ≠ 0 := by
        intro l
        induction l with
        | nil => intro h; exact absurd rfl h
        | cons a s ih =>
          intro _ h
          cases s with
          | nil => simp only [decVal]; have := h a rfl; omega
          | cons b r =>
            have := ih (by simp) (fun z hz => h z (by rw [List.getLast?_cons_cons]; exact hz))
            simp only [decVal] at this ⊢
            omega
      exact this _ (by simp) (fun z hz => hl z (by rw [List.getLast?_cons_cons]; exact hz))
    have e1 : decText (x :: y :: t) = decText (y :: t) ++ [UInt8.ofNat (48 + x)] := by simp [decText]
    have e2 : decVal (x :: y :: t) = x + 10 * decVal (y :: t) := rfl
    rw [e1, ih, e2]
    generalize decVal (y :: t) = v at *
    rw [dec_big (n := x + 10 * v) (by omega), show (x + 10 * v) / 10 = v from by omega, show (x + 10 * v) % 10 = x from by omega]
theorem num_text {n : Int} (h0 : 0 ≤ n) (h1 : n ≤ 4294967295) : decText (digsS (b256 8 n.toNat)) = Lib.itoa n := by
  obtain ⟨g1, g2, -⟩ := digs_good (b256 8 n.toNat)
  rw [decText_val _ g1, g2, b256_val 8 n.toNat (Nat.lt_of_le_of_lt (by omega : n.toNat ≤ 4294967295) (by decide))]
  unfold Lib.itoa
  rw [if_neg (by omega)]
end Go.Q

namespace Go.Q
open Go Go.RowKit
theorem b256_snoc {f n : Nat} (h : n ≠ 0) : b256 (f + 1) n = b256 f (n / 256) ++ [UInt8.ofNat (n % 256)] := by rw [b256, if_neg h]
theorem b256_zero (f : Nat) : b256 f 0 = [] := by cases f <;> simp [b256]
end Go.Q
namespace Go.Proofs.YtacekpdjapgfcaaGreatDoor
open Go Go.RowKit Go.Q
set_option linter.unusedSimpArgs false
set_option maxRecDepth 20000 in
set_option maxHeartbeats 2000000 in
theorem r03Of_any (n : Nat) (hn : n ≤ 2147483647) (w : World) :
    Calls Tryz.prog 232 #[.int .i64 n] w fun e w' => ∃ v, e = .returned (.agg #[.bool false, v]) ∧ Bytes w' v (b256 8 n) ∧ Fr (fun _ => False) w w' := by
  obtain ⟨z, hz⟩ : ∃ z, z = w.heap.size := ⟨_, rfl⟩
  have BZ := Blk.new w 302 #[.bool false, .slice none 0 0]
  have F0 : Fr (fun _ => False) w (w.alloc (.cells #[.bool false, .slice none 0 0] 302)) := (Fr.refl w).alloc _
  rw [← hz] at BZ
  have hzw : ∀ k, k < w.heap.size → k = z → False := fun k hk e => by omega
  have HZ := Lib.hid hz
  have HF0 := Lib.hid F0
  have HZW := Lib.hid hzw
  have q0 : ¬ (n : Int) < 0 := by omega
  clear hz F0 hzw
  go_enter Tryz.func232, Tryz.ntmps232
  go_upto_region 1 with fail
  rw [← HZ.out]
  generalize (w.alloc (.cells #[.bool false, .slice none 0 0] 302)) = w0 at *
  have HBZ := Lib.hid BZ
  clear BZ
  go_wp2_with fail
  go_loopg [0, 3] n (fun g k s wr => ∃ (m f : Nat) (l : List UInt8) (a : Option Addr) (c : Nat), g = m ∧ k = .int .i64 m ∧ m ≤ n ∧ l.length + f = 8 ∧ m < 256 ^ f ∧ s = .slice a l.length c ∧ wr.ownsRow w0.heap.size 5 1 (.slice a l.length c) l.length (Lib.byteCells l) ∧ b256 8 n = b256 f m ++ l ∧ Fr (fun _ => False) w0 wr)
  case atStart => exact ⟨n, 8, [], none, 0, rfl, rfl, Nat.le_refl _, rfl, Nat.lt_of_le_of_lt hn (by decide), rfl, ⟨rfl, .inl ⟨rfl, rfl⟩⟩, by simp, Fr.refl _⟩
  case round =>
    obtain ⟨m, f, l, a, c, hg, rfl, hmn, hlf, hmf, rfl, hB, hN, F⟩ := hrel
    have HG := Lib.hid hg
    have HN := Lib.hid hN
    have HB := Lib.hid hB
    have HF := Lib.hid F
    have HMF := Lib.hid hmf
    clear hg hN hB hmf
    by_cases h0 : m = 0
    · subst h0
      have hres : b256 8 n = l := by rw [HN.out, b256_zero]; rfl
      have HR := Lib.hid hres
      have BZ := HBZ.out.fr F (fun h => h)
      have SZ := BZ.cell
      have ZZ := BZ.frozen
      clear hres F
      go_wp2_with fail
      obtain ⟨B5, F5⟩ := set2 BZ (.bool false) (.slice a l.length c)
      generalize ((wr.setCell ⟨z, 0, none⟩ (.bool false)).setCell ⟨z, 1, none⟩ (.slice a l.length c)) = w5 at *
      have n0 := B5.cell 0
      have n1 := B5.cell 1
      simp at n0 n1
      refine bodyPost_ret (v := .agg #[.bool false, .slice a l.length c]) (by simp [results, Tryz.results232, go_sem, n0, n1]) rfl ?_
      refine ⟨_, rfl, ?_, (HF0.out.trans HF.out).trans' F5 HZW.out⟩
      rw [HR.out]
      exact (Vals.of_own HB.out).1.fr F5 (fun _ k hk e => by have := ((Vals.of_own HB.out).2 k hk).1; have := HBZ.out.lt; omega)
    · have q1 : ((m : Int) == 0) = false := beq_eq_false_iff_ne.2 (by omega)
      have q1b : ((m : Int) != 0) = true := by simp; omega
      obtain ⟨r, hr⟩ : ∃ r, r = m % 256 := ⟨_, rfl⟩
      have hrl : r < 256 := by omega
      have hri : (m : Int) % 256 = (r : Int) := by omega
      have q2 : ¬ (r : Int) < 0 := by omega
      have hw8 : IntKind.u8.wrap (r : Int) = (r : Int) := by simp [IntKind.wrap, IntKind.signed, IntKind.bits]; omega
      obtain ⟨f, rfl⟩ : ∃ f', f = f' + 1 := by
        cases f with
        | zero => have := HMF.out; simp at this; omega
        | succ f => exact ⟨f, rfl⟩
      have hnx : b256 8 n = b256 f (m / 256) ++ (UInt8.ofNat r :: l) := by rw [HN.out, b256_snoc h0, hr]; simp
      have hmf2 : m / 256 < 256 ^ f := by have := HMF.out; rw [Nat.pow_succ] at this; omega
      have HNX := Lib.hid hnx
      have HMF2 := Lib.hid hmf2
      have hmi : (m : Int) / 256 = ((m / 256 : Nat) : Int) := by omega
      obtain ⟨m2, hm2⟩ : ∃ m2, m2 = m / 256 := ⟨_, rfl⟩
      rw [← hm2] at HNX HMF2 hmi
      have hm2l : m2 < m := by omega
      have BX := Blk.new wr 5 #[.int .u8 r]
      have F3 : Fr (fun _ => False) wr (wr.alloc (.cells #[.int .u8 r] 5)) := (Fr.refl wr).alloc _
      have ho1 : (wr.alloc (.cells #[.int .u8 r] 5)).ownsRow wr.heap.size 5 1 (.slice (some ⟨wr.heap.size, 0, none⟩) 1 1) 1 (Lib.byteCells [UInt8.ofNat r]) := by
        have e8 := Go.Q.u8 r (by omega)
        have BX' : Blk (wr.alloc (.cells #[.int .u8 r] 5)) wr.heap.size 5 (Lib.byteCells [UInt8.ofNat r]).toArray := by
          simpa [Lib.byteCells, e8] using BX
        exact own_bytes BX' (by simp) wr.heap.size (Nat.le_refl _)
      obtain ⟨v4, w4, hr4, ho4, F4, _⟩ := append_bytes ho1 a l.length c l ((Vals.of_own HB.out).1.old F3) (by omega) F3.size
      obtain ⟨a4, m4, c4, rfl, rfl⟩ := own_shape ho4
      have hs := F.size
      have HF4 := Lib.hid ((HF.out.trans F3).trans' F4 (fun i hi e => by have := ((Vals.of_own ho1).2 i e).1; omega))
      have e4 : 1 + l.length = (UInt8.ofNat r :: l).length := by simp; omega
      have ho5 := own_le ho4 hs
      rw [e4] at ho5 hr4
      have HO5 := Lib.hid ho5
      have HRUN := Lib.hid hr4
      clear hr hnx hmf2 hm2 BX F3 ho1 hr4 ho4 F4 ho5 F hs HN HMF
      go_wp2_with (at_builtin; refine wpList_append_run (by rfl) (.tmp 18) (.tmp 19) 23 (by rfl) _ w4 (by exact HRUN.out) ?_)
      go_roundg m2
      case measure => rw [HG.out]; omega
      case rel => exact ⟨m2, f, UInt8.ofNat r :: l, a4, c4, rfl, by go_num, by omega, by simp; omega, HMF2.out, rfl, HO5.out, HNX.out, HF4.out⟩
set_option maxRecDepth 20000 in
set_option maxHeartbeats 2000000 in
theorem r03Made_any (v : Value) (l : List UInt8) (w : World) (h : Bytes w v l) (hh : ∀ x, l[0]? = some x → x ≠ 0) (hl : l.length ≤ 1000000) :
    Calls Tryz.prog 268 #[.agg #[.bool false, v]] w fun e w' => ∃ u, e = .returned (.agg #[.bool false, u]) ∧ Bytes w' u l ∧ (∀ k, u.ownBlock = some k → w.heap.size < k) ∧ Fr (fun _ => False) w w' := by
  obtain ⟨a, cap, rfl, hcap, hcm, hx⟩ := h.form
  obtain ⟨z, hz⟩ : ∃ z, z = w.heap.size := ⟨_, rfl⟩
  have BZ := (Blk.new w 302 #[.bool false, .slice a l.length cap]).alloc (.cells #[.bool false, .slice none 0 0] 302)
  have BR := Blk.new (w.alloc (.cells #[.bool false, .slice a l.length cap] 302)) 302 #[.bool false, .slice none 0 0]
  have F0 : Fr (fun _ => False) w ((w.alloc (.cells #[.bool false, .slice a l.length cap] 302)).alloc (.cells #[.bool false, .slice none 0 0] 302)) := ((Fr.refl w).alloc _).alloc _
  rw [World.size_alloc] at BR
  rw [← hz] at BZ BR
  have hzw : ∀ k, k < w.heap.size → k = z + 1 → False := fun k hk e => by omega
  have HZW := Lib.hid hzw
  have HX := Lib.hid hx
  have HF0 := Lib.hid F0
  have HB := Lib.hid (h.old F0)
  unfold maxLen at hcm
  have HZ := Lib.hid hz
  have q1 : (0 : Int) ≤ (l.length : Int) := by omega
  have q2 : (l.length : Int) ≤ (cap : Int) := by omega
  clear h hx hz F0 hzw
  go_enter Tryz.func268, Tryz.ntmps268
  go_upto_region 1 with fail
  rw [← HZ.out]
  generalize ((w.alloc (.cells #[.bool false, .slice a l.length cap] 302)).alloc (.cells #[.bool false, .slice none 0 0] 302)) = w0 at *
  have SZ := BZ.cell
  have SR := BR.cell
  have ZR := BR.frozen
  go_wp2_with fail
  go_loopg [3] 1 (fun g k wr => g = 1 ∧ k = .int .i64 0 ∧ wr = w0)
  case atStart => exact ⟨rfl, rfl, rfl⟩
  case round =>
    obtain ⟨-, rfl, rfl⟩ := hrel
    have hlz := BR.lt
    have SA := (BZ.alloc (.cells #[] 5)).cell
    have ho0 := own_block (Blk.new wr 5 #[]) 0 (Nat.le_refl _) (Nat.zero_le _) wr.heap.size (Nat.le_refl _)
    have F3 : Fr (fun _ => False) wr (wr.alloc (.cells #[] 5)) := (Fr.refl wr).alloc _
    obtain ⟨v4, w4, hr4, ho4, F4, _⟩ := append_bytes (xs := []) ho0 a l.length cap l (HB.out.old F3) (by omega) F3.size
    obtain ⟨a4, m4, c4, rfl, rfl⟩ := own_shape ho4
    rw [Nat.zero_add] at hr4 ho4
    simp only [List.nil_append] at ho4
    have F4' := F3.trans' F4 (fun i hi e => by have := ((Vals.of_own ho0).2 i e).1; omega)
    have HBZ4 := Lib.hid (BZ.fr F4' (fun h => h))
    have HBR4 := Lib.hid (BR.fr F4' (fun h => h))
    have HF4 := Lib.hid (HF0.out.trans F4')
    have HOB := Lib.hid (show ∀ k, (Value.slice a4 l.length c4).ownBlock = some k → z + 1 < k ∧ k < w4.heap.size from fun k hk => by have := (Vals.of_own ho4).2 k hk; omega)
    have HO4 := Lib.hid (Vals.of_own ho4).1
    have HRUN := Lib.hid hr4
    clear hr4 ho4 F4 F4' F3 ho0 BZ BR SR ZR
    rcases Nat.eq_zero_or_pos l.length with h0 | h0
    · obtain rfl : l = [] := List.length_eq_zero_iff.1 h0
      simp only [List.length_nil] at *
      go_upto_region 5 with (at_builtin; refine wpList_append_run (by rfl) (.tmp 20) (.tmp 24) 23 (by rfl) _ w4 (by exact HRUN.out) ?_)
      obtain ⟨d, hd⟩ : ∃ d, d = w4.heap.size := ⟨_, rfl⟩
      have BD := Blk.new w4 302 #[.bool false, .slice a4 0 c4]
      have F5 : Fr (fun _ => False) w4 (w4.alloc (.cells #[.bool false, .slice a4 0 c4] 302)) := (Fr.refl w4).alloc _
      have BZ5 := HBZ4.out.fr F5 (fun h => h)
      have BR5 := HBR4.out.fr F5 (fun h => h)
      have hrl := HBR4.out.lt
      have HF5 := Lib.hid (HF4.out.trans F5)
      have HO5 := Lib.hid (HO4.out.old F5)
      rw [← hd] at BD ⊢
      have hdz : d ≠ z + 1 := by omega
      have HDL := Lib.hid (show w4.heap.size ≤ d by omega)
      have HDW := Lib.hid (show ∀ k, k < w.heap.size → k = d → False from fun k hk e => by have := HF4.out.size; omega)
      clear F5 HF4 HO4 hrl hd
      generalize (w4.alloc (.cells #[.bool false, .slice a4 0 c4] 302)) = w5 at *
      have s0 := BZ5.cell 0
      simp at s0
      have SD := BD.cell
      have ZD := BD.frozen
      go_upto_region 6 with fail
      have BD6 := BD.set 0 (.bool false)
      simp at BD6
      have F6 : Fr (fun q => q = d) w5 (w5.setCell ⟨d, 0, none⟩ (.bool false)) := Fr.setCell (S := fun q => q = d) (p := ⟨d, 0, none⟩) (Fr.refl w5) (fun _ => rfl) _
      have BR6 := BR5.fr F6 (fun e => hdz e.symm)
      have HO6 := Lib.hid (HO5.out.fr F6 (fun h0 k hk e => by have := HOB.out k hk; have := HDL.out; omega))
      have HF6 := Lib.hid (HF5.out.trans' F6 HDW.out)
      clear s0 SD ZD F6 BR5 BZ5 BD
      generalize (w5.setCell ⟨d, 0, none⟩ (.bool false)) = w6 at *
      have SD := BD6.cell
      have SR := BR6.cell
      have ZR := BR6.frozen
      go_wp2_with fail
      obtain ⟨B7, F7⟩ := set2 BR6 (.bool false) (.slice a4 0 c4)
      generalize ((w6.setCell ⟨z + 1, 0, none⟩ (.bool false)).setCell ⟨z + 1, 1, none⟩ (.slice a4 0 c4)) = w7 at *
      have n0 := B7.cell 0
      have n1 := B7.cell 1
      simp at n0 n1
      refine bodyPost_ret (v := .agg #[.bool false, .slice a4 0 c4]) (by simp [results, Tryz.results268, go_sem, n0, n1]) rfl ?_
      exact ⟨_, rfl, HO6.out.fr F7 (fun h0 k hk e => by have := HOB.out k hk; omega), fun k hk => by have := HOB.out k hk; have := HZ.out; omega, HF6.out.trans' F7 HZW.out⟩
    · obtain ⟨b, o, rfl, hy⟩ := HX.out h0
      obtain ⟨x, hxx⟩ : ∃ x, l[0]? = some x := ⟨_, List.getElem?_eq_getElem h0⟩
      have e1 := HF0.out.cell (hy 0 x hxx) (fun h => h)
      have hx0 := hh x hxx
      have hx1 : ((x.toNat : Int) == 0) = false := beq_eq_false_iff_ne.2 (fun e => hx0 (UInt8.toNat_inj.1 (by simpa using e)))
      generalize x.toNat = y at *
      simp only [Nat.add_zero] at e1
      have q3 : (0 : Int) < (l.length : Int) := by omega
      clear hy hxx hx0
      go_upto_region 5 with (at_builtin; refine wpList_append_run (by rfl) (.tmp 20) (.tmp 24) 23 (by rfl) _ w4 (by exact HRUN.out) ?_)
      obtain ⟨d, hd⟩ : ∃ d, d = w4.heap.size := ⟨_, rfl⟩
      have BD := Blk.new w4 302 #[.bool false, .slice a4 l.length c4]
      have F5 : Fr (fun _ => False) w4 (w4.alloc (.cells #[.bool false, .slice a4 l.length c4] 302)) := (Fr.refl w4).alloc _
      have BZ5 := HBZ4.out.fr F5 (fun h => h)
      have BR5 := HBR4.out.fr F5 (fun h => h)
      have hrl := HBR4.out.lt
      have HF5 := Lib.hid (HF4.out.trans F5)
      have HO5 := Lib.hid (HO4.out.old F5)
      rw [← hd] at BD ⊢
      have hdz : d ≠ z + 1 := by omega
      have HDL := Lib.hid (show w4.heap.size ≤ d by omega)
      have HDW := Lib.hid (show ∀ k, k < w.heap.size → k = d → False from fun k hk e => by have := HF4.out.size; omega)
      clear F5 HF4 HO4 hrl hd
      generalize (w4.alloc (.cells #[.bool false, .slice a4 l.length c4] 302)) = w5 at *
      have s0 := BZ5.cell 0
      simp at s0
      have SD := BD.cell
      have ZD := BD.frozen
      go_upto_region 6 with fail
      have BD6 := BD.set 0 (.bool false)
      simp at BD6
      have F6 : Fr (fun q => q = d) w5 (w5.setCell ⟨d, 0, none⟩ (.bool false)) := Fr.setCell (S := fun q => q = d) (p := ⟨d, 0, none⟩) (Fr.refl w5) (fun _ => rfl) _
      have BR6 := BR5.fr F6 (fun e => hdz e.symm)
      have HO6 := Lib.hid (HO5.out.fr F6 (fun h0 k hk e => by have := HOB.out k hk; have := HDL.out; omega))
      have HF6 := Lib.hid (HF5.out.trans' F6 HDW.out)
      clear s0 SD ZD F6 BR5 BZ5 BD
      generalize (w5.setCell ⟨d, 0, none⟩ (.bool false)) = w6 at *
      have SD := BD6.cell
      have SR := BR6.cell
      have ZR := BR6.frozen
      go_wp2_with fail
      obtain ⟨B7, F7⟩ := set2 BR6 (.bool false) (.slice a4 l.length c4)
      generalize ((w6.setCell ⟨z + 1, 0, none⟩ (.bool false)).setCell ⟨z + 1, 1, none⟩ (.slice a4 l.length c4)) = w7 at *
      have n0 := B7.cell 0
      have n1 := B7.cell 1
      simp at n0 n1
      refine bodyPost_ret (v := .agg #[.bool false, .slice a4 l.length c4]) (by simp [results, Tryz.results268, go_sem, n0, n1]) rfl ?_
      exact ⟨_, rfl, HO6.out.fr F7 (fun h0 k hk e => by have := HOB.out k hk; omega), fun k hk => by have := HOB.out k hk; have := HZ.out; omega, HF6.out.trans' F7 HZW.out⟩
end Go.Proofs.YtacekpdjapgfcaaGreatDoor

namespace Go.Q
open Go Go.RowKit
theorem mulGo_take {c : Nat} {d : List Nat} {j x : Nat} (h : d[j]? = some x) : mulGo c (d.take (j + 1)) = ((mulGo c (d.take j)).1 ++ [(256 * x + (mulGo c (d.take j)).2) % 10], (256 * x + (mulGo c (d.take j)).2) / 10) := by
  rw [List.take_add_one, h]
  exact mulGo_snoc c (d.take j) x
def mulRow (c : Nat) (d : List Nat) (j : Nat) : List Nat := (mulGo c (d.take j)).1 ++ d.drop j
theorem mulRow_get {c : Nat} {d : List Nat} {j x : Nat} (h : d[j]? = some x) : (mulRow c d j)[j]? = some x := by
  have hj := (List.getElem?_eq_some_iff.1 h).1
  have hl : (mulGo c (d.take j)).1.length = j := by rw [mulGo_len, List.length_take]; omega
  unfold mulRow
  rw [List.getElem?_append_right (by omega), hl, Nat.sub_self, List.getElem?_drop]
  exact h
theorem mulRow_set {c : Nat} {d : List Nat} {j x : Nat} (h : d[j]? = some x) : (mulRow c d j).set j ((256 * x + (mulGo c (d.take j)).2) % 10) = mulRow c d (j + 1) := by
  have hj := (List.getElem?_eq_some_iff.1 h).1
  have hl : (mulGo c (d.take j)).1.length = j := by rw [mulGo_len, List.length_take]; omega
  have hd : d.drop j = x :: d.drop (j + 1) := by
    obtain ⟨h1, rfl⟩ := List.getElem?_eq_some_iff.1 h
    exact List.drop_eq_getElem_cons h1
  unfold mulRow
  rw [mulGo_take h, List.set_append_right _ _ (by omega), hl, Nat.sub_self, hd]
  simp
theorem mulRow_all (c : Nat) (d : List Nat) : mulRow c d d.length = (mulGo c d).1 := by
  unfold mulRow
  rw [List.take_length, List.drop_length, List.append_nil]
end Go.Q
namespace Go.Proofs.YtacekpdjapgfcaaGreatDoor
open Go Go.RowKit Go.Q
set_option linter.unusedSimpArgs false
set_option maxRecDepth 20000 in
set_option maxHeartbeats 4000000 in
theorem r03Text_any (v : Value) (l : List UInt8) (w : World) (h : Bytes w v l) (hh : ∀ x, l[0]? = some x → x ≠ 0) (hl : l.length ≤ 8) :
    Calls Tryz.prog 231 #[.agg #[.bool false, v]] w fun e w' => e = .returned (str (decText (digsS l))) ∧ Fr (fun _ => False) w w' := by
  obtain ⟨a, cap, rfl, -⟩ := h.form
  obtain ⟨z, hz⟩ : ∃ z, z = w.heap.size := ⟨_, rfl⟩
  have BZ := Blk.new w 302 #[.bool false, .slice a l.length cap]
  have F0 : Fr (fun _ => False) w (w.alloc (.cells #[.bool false, .slice a l.length cap] 302)) := (Fr.refl w).alloc _
  rw [← hz] at BZ
  have hzw : ∀ k, k < w.heap.size → k = z → False := fun k hk e => by omega
  have HZW := Lib.hid hzw
  have HM := Lib.hid (r03Made_any _ l _ (h.old F0) hh (by omega))
  have HF0 := Lib.hid F0
  have HZ := Lib.hid hz
  clear h hz F0 hzw
  go_enter Tryz.func231, Tryz.ntmps231
  go_upto_region 1 with fail
  rw [← HZ.out]
  generalize (w.alloc (.cells #[.bool false, .slice a l.length cap] 302)) = w0 at *
  have SZ := BZ.cell
  go_wp2_with fail
  refine HM.out.mono ?_
  rintro e w1 ⟨u, rfl, hu, hub, F1⟩
  obtain ⟨au, cu, rfl, -⟩ := hu.form
  have BZ1 := BZ.fr F1 (fun h => h)
  have HB1 := Lib.hid hu
  have HF1 := Lib.hid (HF0.out.trans F1)
  have SZ := BZ1.cell
  have ZZ := BZ1.frozen
  have hs0 := BZ.lt
  obtain ⟨BZ2, F2⟩ := set2 BZ1 (.bool false) (.slice au l.length cu)
  have HB2 := Lib.hid (hu.fr F2 (fun _ k hk e => by have := hub k hk; omega))
  have HF2 := Lib.hid (HF1.out.trans' F2 HZW.out)
  clear hu F1 HM hub hs0 F2 HB1 HF1
  go_upto_region 2 with fail
  generalize ((w1.setCell ⟨z, 0, none⟩ (.bool false)).setCell ⟨z, 1, none⟩ (.slice au l.length cu)) = w2 at *
  clear SZ ZZ BZ1
  have B0 := Blk.new w2 3 #[.int .i64 0]
  have F3 : Fr (fun _ => False) w2 (w2.alloc (.cells #[.int .i64 0] 3)) := (Fr.refl w2).alloc _
  have ho0 : (w2.alloc (.cells #[.int .i64 0] 3)).ownsRow w2.heap.size 3 1 (.slice (some ⟨w2.heap.size, 0, none⟩) 1 1) 1 (intCells (natInts [0])) := own_block B0 1 (by simp) (by unfold maxLen; simp) w2.heap.size (Nat.le_refl _)
  have HO0 := Lib.hid ho0
  have HF3 := Lib.hid F3
  have HBZ := Lib.hid BZ2
  obtain ⟨base, hbase⟩ : ∃ b, b = w2.heap.size := ⟨_, rfl⟩
  rw [← hbase] at HO0
  have hbz : z < base := by have := BZ2.lt; omega
  have HBASE := Lib.hid hbase
  clear B0 F3 ho0 BZ2
  go_upto_region 4 with fail
  rw [← HBASE.out]
  generalize (w2.alloc (.cells #[.int .i64 0] 3)) = w3 at *
  clear hbase
  go_loopg [3, 4] l.length (fun g dd i wr => ∃ (j : Nat) (D : List Nat) (a1 : Option Addr) (c1 : Nat), g = l.length - j ∧ j ≤ l.length ∧ i = .int .i64 j ∧ dd = .slice a1 D.length c1 ∧ D = digsS (l.take j) ∧ wr.ownsRow base 3 1 (.slice a1 D.length c1) D.length (intCells (natInts D)) ∧ Fr (fun _ => False) w2 wr)
  case atStart => exact ⟨0, [0], some ⟨base, 0, none⟩, 1, rfl, Nat.zero_le _, rfl, rfl, rfl, HO0.out, HF3.out⟩
  case round =>
    obtain ⟨j, D, a1, c1, hg, hj, rfl, rfl, hD, hO1, F4⟩ := hrel
    have HG := Lib.hid hg
    have HD := Lib.hid hD
    have HO1 := Lib.hid hO1
    have HF4 := Lib.hid F4
    have hgood := digs_good (l.take j)
    rw [← hD] at hgood
    obtain ⟨hg1, hg2, hg3⟩ := hgood
    have hDl : D.length ≤ 25 := by rw [List.length_take] at hg3; omega
    have HGD := Lib.hid hg1
    have BZ4 := HBZ.out.fr F4 (fun h => h)
    have s1 := BZ4.cell 1
    simp at s1
    clear hg hD hO1 hg1 hg2 hg3
    by_cases hjl : j < l.length
    · obtain ⟨x, hxj⟩ : ∃ x, l[j]? = some x := ⟨_, List.getElem?_eq_getElem hjl⟩
      obtain ⟨b, o, rfl, hy⟩ : ∃ b o, au = some ⟨b, o, none⟩ ∧ ∀ i x, l[i]? = some x → w2.cell? ⟨b, o + i, none⟩ = some (.int .u8 x.toNat) := by
        obtain ⟨a0, c0, he, -, -, hy⟩ := HB2.out.form
        simp only [Value.slice.injEq] at he
        obtain ⟨rfl, -, -⟩ := he
        exact hy (by omega)
      have e1 := F4.cell (hy j x hxj) (fun h => h)
      have HDN := Lib.hid (digsS_take hxj)
      have hx256 := x.toNat_lt
      obtain ⟨y, hyx⟩ : ∃ y, y = x.toNat := ⟨_, rfl⟩
      have HYX := Lib.hid hyx
      rw [← hyx] at e1 hx256
      have hy256 : y ≤ 255 := by omega
      have q1 : (0 : Int) ≤ (j : Int) := by omega
      have q2 : (j : Int) < (l.length : Int) := by omega
      clear hy hyx hxj hx256 F4 BZ4
      go_upto_region 8 with fail
      clear s1 e1
      go_loopg [5, 6] D.length (fun g c k wi => ∃ (j2 : Nat), g = D.length - j2 ∧ j2 ≤ D.length ∧ c = .int .i64 (mulGo y (D.take j2)).2 ∧ k = .int .i64 j2 ∧ wi.ownsRow base 3 1 (.slice a1 D.length c1) D.length (intCells (natInts (mulRow y D j2))) ∧ Fr (fun _ => False) w2 wi)
      case atStart => exact ⟨0, rfl, Nat.zero_le _, rfl, rfl, HO1.out, HF4.out⟩
      case round =>
        obtain ⟨j2, hg, hj2, rfl, rfl, hO2, F5⟩ := hrel
        have HG2 := Lib.hid hg
        have HF5 := Lib.hid F5
        have hcs := (mulGo_small y (D.take j2) hy256 (fun t ht => HGD.out.1 t (List.mem_of_mem_take ht))).1
        obtain ⟨cc, hcc⟩ : ∃ cc, cc = (mulGo y (D.take j2)).2 := ⟨_, rfl⟩
        have HCC := Lib.hid hcc
        rw [← hcc] at hcs ⊢
        clear hg hcc
        by_cases hjl2 : j2 < D.length
        · obtain ⟨t, ht⟩ : ∃ t, D[j2]? = some t := ⟨_, List.getElem?_eq_getElem hjl2⟩
          have ht10 := HGD.out.1 t (List.mem_of_getElem? ht)
          obtain ⟨n, hn⟩ : ∃ n, n = 256 * t + cc := ⟨_, rfl⟩
          have hni : 256 * (t : Int) + (cc : Int) = (n : Int) := by omega
          have hset := mulRow_set (c := y) ht
          rw [← HCC.out, ← hn] at hset
          have hget := mulRow_get (c := y) ht
          have hmt := mulGo_take (c := y) ht
          rw [← HCC.out, ← hn] at hmt
          obtain ⟨g, rfl, hg1, hg2, -, hlc, hcm, hfz, hcell, hset2, F6⟩ := own_set hO2 j2 hjl2 (.int .i64 ((n % 10 : Nat) : Int))
          have hcell2 : (intCells (natInts (mulRow y D j2)))[j2]? = some (.int .i64 (t : Int)) := by rw [intCells_get, List.getElem?_map, hget]; rfl
          rw [hcell2] at hcell
          have hset3 : (intCells (natInts (mulRow y D j2))).set j2 (.int .i64 ((n % 10 : Nat) : Int)) = intCells (natInts (mulRow y D (j2 + 1))) := by
            rw [← hset]
            simp only [intCells, natInts, List.map_set]
          rw [hset3] at hset2
          have q3 : (0 : Int) ≤ (j2 : Int) := by omega
          have q4 : (j2 : Int) < (D.length : Int) := by omega
          have hnl : n ≤ 2559 := by omega
          obtain ⟨r, hr⟩ : ∃ r, r = n % 10 := ⟨_, rfl⟩
          obtain ⟨qq, hqq⟩ : ∃ qq, qq = n / 10 := ⟨_, rfl⟩
          have hn1 : (n : Int) % 10 = (r : Int) := by omega
          have hn2 : (n : Int) / 10 = (qq : Int) := by omega
          rw [← hr] at hset2
          rw [← hqq] at hmt
          have hrl : r < 10 := by omega
          have hql : qq ≤ 255 := by omega
          rw [← hr] at F6
          have HSET := Lib.hid hset2
          have HMT := Lib.hid hmt
          have HF6 := Lib.hid (F5.trans' F6 (fun i hi e => by have := HBASE.out; omega))
          clear hr hqq
          have hcx : D.length ≤ c1 := hlc
          clear hset hset2 hset3 hget hmt hcell2 ht hn F5 F6 hO2 hcm
          go_wp2_with fail
          go_roundg (D.length - (j2 + 1))
          case measure => rw [HG2.out]; omega
          case rel => exact ⟨j2 + 1, rfl, by omega, by rw [HMT.out], by go_num, HSET.out, HF6.out⟩
        · obtain rfl : j2 = D.length := by omega
          have q4 : ¬ (D.length : Int) < (D.length : Int) := by omega
          rw [mulRow_all] at hO2
          have hcc2 := HCC.out
          rw [List.take_length] at hcc2
          obtain ⟨M, hM⟩ : ∃ M, M = (mulGo y D).1 := ⟨_, rfl⟩
          have hMl : M.length = D.length := by rw [hM, mulGo_len]
          have hstep : digsS (l.take (j + 1)) = M ++ tailD 3 cc := by rw [HDN.out, ← HD.out]; unfold stepD; rw [← HYX.out, ← hM, ← hcc2]
          rw [← hM, ← hMl] at hO2
          rw [← hMl] at hDl q4 ⊢
          have HO2 := Lib.hid hO2
          have HSTEP := Lib.hid hstep
          have hcc3 : cc ≤ 255 := hcs
          clear hcc2 hM hstep hO2 F5 HCC
          go_upto_region 13 with fail
          go_loopg [3, 5] cc (fun g dd c wi => ∃ (m f : Nat) (dn : List Nat) (a3 : Option Addr) (c3 : Nat), g = m ∧ m ≤ 255 ∧ c = .int .i64 m ∧ dd = .slice a3 (M ++ dn).length c3 ∧ dn ++ tailD f m = tailD 3 cc ∧ dn.length + f = 3 ∧ m < 10 ^ f ∧ wi.ownsRow base 3 1 (.slice a3 (M ++ dn).length c3) (M ++ dn).length (intCells (natInts (M ++ dn))) ∧ Fr (fun _ => False) w2 wi)
          case atStart => exact ⟨cc, 3, [], a1, c1, rfl, hcc3, rfl, by rw [List.append_nil, hMl], rfl, rfl, Nat.lt_of_le_of_lt hcc3 (by decide), by rw [List.append_nil]; exact HO2.out, HF5.out⟩
          case round =>
            obtain ⟨m, f, dn, a3, c3, hg, hm, rfl, rfl, hT, hdf, hmf, hO3, F7⟩ := hrel
            have HG3 := Lib.hid hg
            have HT := Lib.hid hT
            have HO3 := Lib.hid hO3
            have HMF := Lib.hid hmf
            have HF7 := Lib.hid F7
            clear hg hT hO3 hmf
            obtain ⟨L3, hL3⟩ : ∃ L3, L3 = (M ++ dn).length := ⟨_, rfl⟩
            have hL3l : L3 ≤ 30 := by rw [hL3, List.length_append]; omega
            rw [← hL3] at HO3 ⊢
            have HL3 := Lib.hid hL3
            clear hL3
            by_cases h0 : m = 0
            · subst h0
              have hend : dn = tailD 3 cc := by
                have := HT.out
                rw [show tailD f 0 = [] from by cases f <;> simp [tailD], List.append_nil] at this
                exact this
              have hnx : digsS (l.take (j + 1)) = M ++ dn := by rw [HSTEP.out, hend]
              have HNX := Lib.hid hnx
              clear hend hnx F7
              go_wp2_with fail
              go_roundg (l.length - (j + 1))
              case measure => rw [HG.out]; omega
              case rel => exact ⟨j + 1, M ++ dn, a3, c3, rfl, by omega, by go_num, by rw [HL3.out], HNX.out.symm, by rw [← HL3.out]; exact HO3.out, HF7.out⟩
            · have q5 : (0 : Int) < (m : Int) := by omega
              obtain ⟨f, rfl⟩ : ∃ f', f = f' + 1 := by
                cases f with
                | zero => have := HMF.out; simp at this; omega
                | succ f => exact ⟨f, rfl⟩
              obtain ⟨r, hr⟩ : ∃ r, r = m % 10 := ⟨_, rfl⟩
              obtain ⟨qq, hqq⟩ : ∃ qq, qq = m / 10 := ⟨_, rfl⟩
              have hn1 : (m : Int) % 10 = (r : Int) := by omega
              have hn2 : (m : Int) / 10 = (qq : Int) := by omega
              have hmf2 : qq < 10 ^ f := by have := HMF.out; rw [Nat.pow_succ] at this; omega
              have hT2 : (dn ++ [r]) ++ tailD f qq = tailD 3 cc := by
                rw [← HT.out, tailD, if_neg h0, ← hr, ← hqq]
                simp
              have HMF2 := Lib.hid hmf2
              have HT2 := Lib.hid hT2
              have hql : qq < m := by omega
              obtain ⟨a7, c7, w7, hr7, ho7, F8, -⟩ := add_int (xs := natInts (M ++ dn)) HO3.out (by have := HBASE.out; have := F7.size; omega) (by omega) (r : Int) wr.heap.size ((Fr.refl (S := fun _ => False) wr).alloc (.cells #[.int .i64 (r : Int)] 3)) (Blk.new wr 3 #[.int .i64 (r : Int)])
              have hvb := (Vals.of_own HO3.out).2
              have HF8 := Lib.hid (F7.trans' F8 (fun i hi e => by have := hvb i e; have := HBASE.out; omega))
              have hcat : natInts (M ++ dn) ++ [(r : Int)] = natInts (M ++ (dn ++ [r])) := by simp [natInts]
              have hlen : L3 + 1 = (M ++ (dn ++ [r])).length := by rw [HL3.out]; simp; omega
              rw [hcat] at ho7
              rw [hlen] at ho7 hr7
              have HO7 := Lib.hid ho7
              have HRUN := Lib.hid hr7
              clear hr hqq hmf2 hT2 ho7 hr7 F8 hvb hcat hlen F7
              obtain ⟨L4, hL4⟩ : ∃ L4, L4 = (M ++ (dn ++ [r])).length := ⟨_, rfl⟩
              rw [← hL4] at HO7 HRUN
              have HL4 := Lib.hid hL4
              clear hL4
              go_wp2_with (at_builtin; refine wpList_append_run (by rfl) (.tmp 48) (.tmp 51) 105 (by rfl) _ w7 (by exact HRUN.out) ?_)
              go_roundg qq
              case measure => rw [HG3.out]; omega
              case rel => exact ⟨qq, f, dn ++ [r], a7, c7, rfl, by omega, by go_num, by rw [HL4.out], HT2.out, by simp; omega, HMF2.out, by rw [← HL4.out]; exact HO7.out, HF8.out⟩
    · obtain rfl : j = l.length := by omega
      have q2 : ¬ (l.length : Int) < (l.length : Int) := by omega
      have hDD := HD.out
      rw [List.take_length] at hDD
      have HDD := Lib.hid hDD
      have HGD10 := Lib.hid HGD.out.1
      have s0 := BZ4.cell 0
      simp at s0
      clear hDD HD
      obtain ⟨wo, hwo⟩ : ∃ wo : World, wo = wr := ⟨_, rfl⟩
      obtain rfl := hwo
      have HINT := Lib.hid (Vals.of_own HO1.out).1
      go_upto_region 18 with fail
      clear s0 s1
      go_loopg [8, 9] D.length (fun g s i wi => ∃ j : Nat, g = D.length - j ∧ j ≤ D.length ∧ s = str (decText (D.take j)) ∧ i = .int .i64 j ∧ Fr (fun _ => False) wo wi)
      case atStart => exact ⟨0, rfl, Nat.zero_le _, rfl, rfl, Fr.refl _⟩
      case round =>
        obtain ⟨j, hg, hj, rfl, rfl, F5⟩ := hrel
        have HG5 := Lib.hid hg
        have HF5 := Lib.hid F5
        clear hg
        by_cases hjl : j < D.length
        · obtain ⟨x, hx⟩ : ∃ x, D[j]? = some x := ⟨_, List.getElem?_eq_getElem hjl⟩
          have hx10 := HGD10.out x (List.mem_of_getElem? hx)
          obtain ⟨b1, o1, rfl, hy⟩ : ∃ b o, a1 = some ⟨b, o, none⟩ ∧ ∀ i x, (natInts D)[i]? = some x → wr.cell? ⟨b, o + i, none⟩ = some (.int .i64 x) := by
            obtain ⟨a0, c0, he, -, -, hy⟩ := Ints.form (HINT.out.old F5)
            simp only [Value.slice.injEq] at he
            obtain ⟨rfl, -, -⟩ := he
            exact hy (by simp [natInts]; omega)
          have e1 := hy j (x : Int) (by rw [List.getElem?_map, hx]; rfl)
          have hdt : decText (D.take (j + 1)) = UInt8.ofNat (48 + x) :: decText (D.take j) := by
            unfold decText
            rw [List.take_add_one, hx]
            simp
          have HDT := Lib.hid hdt
          obtain ⟨T, hT⟩ : ∃ T, T = decText (D.take j) := ⟨_, rfl⟩
          have hTl : T.length ≤ 30 := by rw [hT]; simp [decText]; omega
          rw [← hT] at HDT ⊢
          obtain ⟨q, hq⟩ : ∃ q, q = 48 + x := ⟨_, rfl⟩
          rw [← hq] at HDT
          have hqi : 48 + (x : Int) = (q : Int) := by omega
          have hql : q < 256 := by omega
          have hw8 : IntKind.u8.wrap (q : Int) = (q : Int) := by simp [IntKind.wrap, IntKind.signed, IntKind.bits]; omega
          have hsb : Bytes (wr.alloc (.cells #[.int .u8 q] 5)) (.slice (some ⟨wr.heap.size, 0, none⟩) 1 1) [UInt8.ofNat q] := by
            have e8 := Go.Q.u8 q hql
            have BX := Blk.new wr 5 #[.int .u8 q]
            have BX' : Blk (wr.alloc (.cells #[.int .u8 q] 5)) wr.heap.size 5 (Lib.byteCells [UInt8.ofNat q]).toArray := by
              simpa [Lib.byteCells, e8] using BX
            exact Vals.of_block BX' (by simp [Lib.byteCells]; unfold maxLen; omega)
          have hcv := str_of hsb
          have hs1 : (ByteArray.mk [UInt8.ofNat q].toArray).size = 1 := rfl
          have hs2 : (ByteArray.mk T.toArray).size = T.length := by simp [ByteArray.size]
          have q3 : (0 : Int) ≤ (j : Int) := by omega
          have q4 : (j : Int) < (D.length : Int) := by omega
          have F6 := F5.alloc (.cells #[.int .u8 q] 5)
          have HF6 := Lib.hid F6
          clear hy hx hdt hq hsb F5 F6 hT
          go_wp2_with fail
          go_roundg (D.length - (j + 1))
          case measure => rw [HG5.out]; omega
          case rel => exact ⟨j + 1, rfl, by omega, by rw [HDT.out, show UInt8.ofNat q :: T = [UInt8.ofNat q] ++ T from rfl]; exact congrArg Value.string (ba_cat _ _), by go_num, HF6.out⟩
        · obtain rfl : j = D.length := by omega
          have q4 : ¬ (D.length : Int) < (D.length : Int) := by omega
          obtain ⟨T, hT⟩ : ∃ T, T = decText (D.take D.length) := ⟨_, rfl⟩
          have hres : decText (digsS l) = T := by rw [hT, List.take_length, HDD.out]
          have HRES := Lib.hid hres
          rw [← hT]
          have BZ6 := BZ4.fr F5 (fun h => h)
          have s0 := BZ6.cell 0
          simp at s0
          have HG6 := Lib.hid ((HF2.out.trans HF4.out).trans F5)
          clear hres BZ6 F5 hT
          go_wp2_with fail
          go_ret
          exact ⟨by rw [HRES.out]; rfl, HG6.out⟩
end Go.Proofs.YtacekpdjapgfcaaGreatDoor

namespace Go.Proofs.YtacekpdjapgfcaaGreatDoor
open Go Go.RowKit Go.Q
set_option linter.unusedSimpArgs false
theorem r03num_any (n : Nat) (hn : n ≤ 2147483647) (v : Value) (w : World) (h : Bytes w v (b256 8 n)) :
    Calls Tryz.prog 231 #[.agg #[.bool false, v]] w fun e w' => e = .returned (str (Lib.itoa n)) ∧ Fr (fun _ => False) w w' := by
  have e := num_text (n := (n : Int)) (by omega) (by omega)
  rw [show ((n : Int)).toNat = n from by omega] at e
  rw [← e]
  exact r03Text_any v (b256 8 n) w h (b256_head 8 n (Nat.lt_of_le_of_lt hn (by decide))) (b256_len 8 n)
set_option maxRecDepth 20000 in
set_option maxHeartbeats 2000000 in
theorem r04Text_any (v : Value) (o : List Int) (w : World) (h : Ints w v o) (ho : ∀ n ∈ o, 0 ≤ n ∧ n ≤ 2147483647) (hl : o.length ≤ 100) :
    Calls Tryz.prog 183 #[v] w fun e w' => e = .returned (str (oidTextS o)) ∧ Fr (fun _ => False) w w' := by
  obtain ⟨a, cap, rfl, -, -, hx⟩ := Ints.form h
  have HX := Lib.hid hx
  have HO := Lib.hid ho
  obtain ⟨R, hR⟩ : ∃ R, R = oidTextS o := ⟨_, rfl⟩
  have HR := Lib.hid hR
  rw [← hR]
  clear h hx ho hR
  go_enter Tryz.func183, Tryz.ntmps183
  go_wp2_with fail
  go_loopg [3, 4] o.length (fun g s i wr => ∃ (j : Nat) (T : List UInt8), g = o.length - j ∧ j ≤ o.length ∧ T = oidTextS (o.take j) ∧ s = str T ∧ i = .int .i64 j ∧ Fr (fun _ => False) w wr)
  case atStart => exact ⟨0, [], rfl, Nat.zero_le _, rfl, rfl, rfl, Fr.refl _⟩
  case round =>
    obtain ⟨j, T, hg, hj, hT, rfl, rfl, F⟩ := hrel
    have HG := Lib.hid hg
    have HT := Lib.hid hT
    have HF := Lib.hid F
    have hTl : T.length ≤ 3000 := by
      have := oidText_len (o := o.take j) (fun n hn => by have := HO.out n (List.mem_of_mem_take hn); omega)
      rw [← hT, List.length_take] at this
      omega
    have hs2 : (ByteArray.mk T.toArray).size = T.length := by simp [ByteArray.size]
    clear hg hT
    by_cases hjl : j < o.length
    · obtain ⟨b, off, rfl, hy⟩ := HX.out (by omega)
      obtain ⟨x, hxj⟩ : ∃ x, o[j]? = some x := ⟨_, List.getElem?_eq_getElem hjl⟩
      have ex := F.cell (hy j x hxj) (fun h => h)
      have hx0 := HO.out x (List.mem_of_getElem? hxj)
      obtain ⟨y, hyx⟩ : ∃ y : Nat, x = (y : Int) := ⟨x.toNat, by omega⟩
      subst hyx
      have hyl : y ≤ 2147483647 := by omega
      have HC := Lib.hid (r03Of_any y hyl wr)
      have q1 : (0 : Int) ≤ (j : Int) := by omega
      have q2 : (j : Int) < (o.length : Int) := by omega
      obtain ⟨I, hI⟩ : ∃ I, I = Lib.itoa (y : Int) := ⟨_, rfl⟩
      have hIl : I.length ≤ 20 := by rw [hI]; exact itoa_len (by omega) (by omega)
      have hs3 : (ByteArray.mk I.toArray).size = I.length := by simp [ByteArray.size]
      have HI := Lib.hid hI
      rcases Nat.eq_zero_or_pos j with h0 | h0
      · subst h0
        rw [Nat.add_zero] at ex
        have hnx : oidTextS (o.take 1) = I := by rw [oidText_first hxj, hI]
        have hT0 : T = [] := by rw [HT.out]; rfl
        subst hT0
        have HNX := Lib.hid hnx
        clear hy hxj hnx hI F hs2
        go_wp2_with fail
        refine HC.out.mono ?_
        rintro e w1 ⟨v1, rfl, hv1, F1⟩
        obtain ⟨a1, c1, rfl, -⟩ := hv1.form
        have HC2 := r03num_any y hyl _ w1 hv1
        rw [← HI.out] at HC2
        have HCC := Lib.hid HC2
        have HF1 := Lib.hid (HF.out.trans F1)
        clear HC HC2 hv1 F1
        go_wp2_with fail
        refine HCC.out.mono ?_
        rintro e w2 ⟨rfl, F2⟩
        have HF2 := Lib.hid (HF1.out.trans F2)
        clear F2 HCC HF1
        go_wp2_with fail
        go_roundg (o.length - 1)
        case measure => rw [HG.out]; omega
        case rel => exact ⟨1, I, rfl, by omega, HNX.out.symm, by first | rfl | exact congrArg Value.string (ba_cat [] I), by go_num, HF2.out⟩
      · have q3 : (0 : Int) < (j : Int) := by omega
        obtain ⟨j, rfl⟩ : ∃ j', j = j' + 1 := ⟨j - 1, by omega⟩
        have hnx : oidTextS (o.take (j + 1 + 1)) = T ++ [46] ++ I := by rw [oidText_next hxj, hI, HT.out]
        have HNX := Lib.hid hnx
        have hs4 : (ByteArray.mk (T ++ [46]).toArray).size = T.length + 1 := by simp [ByteArray.size]
        have hcat : (ByteArray.mk T.toArray) ++ (ByteArray.mk #[46]) = ByteArray.mk (T ++ [46]).toArray := ba_cat T [46]
        clear hy hxj hnx hI F
        go_wp2_with fail
        refine HC.out.mono ?_
        rintro e w1 ⟨v1, rfl, hv1, F1⟩
        obtain ⟨a1, c1, rfl, -⟩ := hv1.form
        have HC2 := r03num_any y hyl _ w1 hv1
        rw [← HI.out] at HC2
        have HCC := Lib.hid HC2
        have HF1 := Lib.hid (HF.out.trans F1)
        clear HC HC2 hv1 F1
        go_wp2_with fail
        refine HCC.out.mono ?_
        rintro e w2 ⟨rfl, F2⟩
        have HF2 := Lib.hid (HF1.out.trans F2)
        clear F2 HCC HF1
        go_wp2_with fail
        go_roundg (o.length - (j + 1 + 1))
        case measure => rw [HG.out]; omega
        case rel => exact ⟨j + 1 + 1, T ++ [46] ++ I, rfl, by omega, HNX.out.symm, by first | exact congrArg Value.string (ba_cat (T ++ [46]) I) | (rw [List.append_assoc, ← ba_cat, ← ba_cat]) | (rw [← ba_cat, ← ba_cat]), by go_num, HF2.out⟩
    · obtain rfl : j = o.length := by omega
      have q2 : ¬ (o.length : Int) < (o.length : Int) := by omega
      have hres : R = T := by rw [HR.out, HT.out, List.take_length]
      have HRES := Lib.hid hres
      clear hres
      go_wp2_with fail
      go_ret
      exact ⟨by rw [HRES.out]; rfl, HF.out⟩
end Go.Proofs.YtacekpdjapgfcaaGreatDoor

namespace Go.Q
open Go
theorem fold_blank {s : List Int × Bool} {n : Int} (h : blankB n = true) : foldStep s n = (s.1, decide (0 < s.1.length)) := by unfold foldStep; rw [if_pos h]
theorem fold_sign {s : List Int × Bool} {n : Int} (h : blankB n = false) : foldStep s n = ((if s.2 = true then s.1 ++ [32] else s.1) ++ [smallS n], false) := by unfold foldStep; rw [if_neg (by rw [h]; decide)]
theorem fold_front (l : List Int) : ∀ j, j ≤ l.length → (∀ (k : Nat) (n : Int), k < j → l[k]? = some n → blankB n = true) → foldAcc (l.take j) = ([], false)
  | 0, _, _ => rfl
  | j + 1, hj, h => by
    obtain ⟨n, hn⟩ : ∃ n, l[j]? = some n := ⟨_, List.getElem?_eq_getElem (by omega)⟩
    rw [foldAcc_take hn, fold_front l j (by omega) (fun k n hk => h k n (by omega)), fold_blank (h j n (by omega) hn)]
    rfl
theorem fold_back (l : List Int) (t : Nat) : ∀ d, t + d ≤ l.length → (∀ (k : Nat) (n : Int), t ≤ k → l[k]? = some n → blankB n = true) → (foldAcc (l.take (t + d))).1 = (foldAcc (l.take t)).1
  | 0, _, _ => rfl
  | d + 1, hd, h => by
    obtain ⟨n, hn⟩ : ∃ n, l[t + d]? = some n := ⟨_, List.getElem?_eq_getElem (by omega)⟩
    rw [← Nat.add_assoc, foldAcc_take hn, fold_blank (h (t + d) n (by omega) hn)]
    exact fold_back l t d (by omega) h
def fOut (l : List Int) (i : Nat) : List Int := (foldAcc (l.take i)).1 ++ (if (foldAcc (l.take i)).2 = true then [32] else [])
def fAt (l : List Int) (fr i : Nat) : Prop := (i = fr ∧ foldAcc (l.take i) = ([], false)) ∨ (fr < i ∧ (foldAcc (l.take i)).1 ≠ [] ∧ ∀ p, l[i - 1]? = some p → (foldAcc (l.take i)).2 = blankB p)
theorem fOut_front {l : List Int} {fr : Nat} (h : foldAcc (l.take fr) = ([], false)) : fOut l fr = [] := by unfold fOut; rw [h]; rfl
theorem fOut_sign {l : List Int} {fr i : Nat} {n : Int} (_h : fAt l fr i) (hfr : fr ≤ i) (hn : l[i]? = some n) (hb : blankB n = false) : fOut l (i + 1) = fOut l i ++ [smallS n] ∧ fAt l fr (i + 1) := by
  have e := foldAcc_take hn
  rw [fold_sign hb] at e
  refine ⟨?_, .inr ⟨by omega, by rw [e]; simp, fun p hp => ?_⟩⟩
  · unfold fOut
    rw [e]
    simp only [Bool.false_eq_true, if_false, List.append_nil]
    split <;> simp
  · rw [Nat.add_sub_cancel, hn] at hp
    cases hp
    rw [e, hb]
theorem fOut_blank {l : List Int} {fr i : Nat} {n p : Int} (h : fAt l fr i) (hfr : fr < i) (hn : l[i]? = some n) (hp : l[i - 1]? = some p) (hb : blankB n = true) : fOut l (i + 1) = fOut l i ++ (if blankB p = true then [] else [32]) ∧ fAt l fr (i + 1) := by
  have e := foldAcc_take hn
  rw [fold_blank hb] at e
  rcases h with ⟨h1, -⟩ | ⟨-, h2, h3⟩
  · omega
  · have hlen : 0 < (foldAcc (l.take i)).1.length := List.length_pos_iff.2 h2
    have hd : decide (0 < (foldAcc (l.take i)).1.length) = true := decide_eq_true hlen
    rw [hd] at e
    have h3p := h3 p hp
    refine ⟨?_, .inr ⟨by omega, by rw [e]; exact h2, fun q hq => ?_⟩⟩
    · unfold fOut
      rw [e, h3p]
      cases hbp : blankB p <;> simp
    · rw [Nat.add_sub_cancel, hn] at hq
      cases hq
      rw [e, hb]
theorem fOut_all {l : List Int} {fr t : Nat} (h : fAt l fr t) (ht : t ≤ l.length) (hl : fr < t → ∀ p, l[t - 1]? = some p → blankB p = false) (hb : ∀ (k : Nat) (n : Int), t ≤ k → l[k]? = some n → blankB n = true) : foldS l = fOut l t := by
  have e := fold_back l t (l.length - t) (by omega) hb
  rw [show t + (l.length - t) = l.length from by omega, List.take_length] at e
  have e2 : foldS l = (foldAcc l).1 := rfl
  rw [e2, e]
  unfold fOut
  rcases h with ⟨-, h1⟩ | ⟨h1, h2, h3⟩
  · rw [h1]; rfl
  · obtain ⟨p, hp⟩ : ∃ p, l[t - 1]? = some p := ⟨_, List.getElem?_eq_getElem (by omega)⟩
    rw [h3 p hp, hl h1 p hp]
    simp
theorem fOut_len (l : List Int) (i : Nat) : (fOut l i).length ≤ 2 * i + 1 := by
  unfold fOut
  have h1 := foldAcc_len (l.take i)
  have h2 : (l.take i).length ≤ i := by rw [List.length_take]; omega
  rw [List.length_append]
  split <;> simp only [List.length_cons, List.length_nil] <;> omega
end Go.Q

namespace Go.Proofs.YtacekpdjapgfcaaGreatDoor
open Go Go.RowKit Go.Q
set_option linter.unusedSimpArgs false
set_option maxRecDepth 20000 in
theorem r13blank_any (n : Int) (w : World) :
    Calls Tryz.prog 272 #[.int .i64 n] w fun e w' => e = .returned (.bool (blankB n)) ∧ w = w' := by
  have hc : n = 32 ∨ n = 9 ∨ n = 10 ∨ n = 11 ∨ n = 12 ∨ n = 13 ∨ (n ≠ 32 ∧ n ≠ 9 ∧ n ≠ 10 ∧ n ≠ 11 ∧ n ≠ 12 ∧ n ≠ 13) := by omega
  rcases hc with rfl | rfl | rfl | rfl | rfl | rfl | ⟨h0, h1, h2, h3, h4, h5⟩
  case' inr.inr.inr.inr.inr.inr =>
    have hb : blankB n = false := decide_eq_false (by omega)
    rw [hb]
    have q0 : (n == 32) = false := beq_eq_false_iff_ne.2 h0
    have q1 : (n == 9) = false := beq_eq_false_iff_ne.2 h1
    have q2 : (n == 10) = false := beq_eq_false_iff_ne.2 h2
    have q3 : (n == 11) = false := beq_eq_false_iff_ne.2 h3
    have q4 : (n == 12) = false := beq_eq_false_iff_ne.2 h4
    have q5 : (n == 13) = false := beq_eq_false_iff_ne.2 h5
    clear hb h0 h1 h2 h3 h4 h5
  all_goals
    go_enter Tryz.func272, Tryz.ntmps272
    go_wp2_with fail
    go_ret
    exact ⟨rfl, rfl⟩
set_option maxRecDepth 20000 in
set_option maxHeartbeats 4000000 in
theorem r13Signs_any (v : Value) (l : List Int) (w : World) (h : Ints w v l) (hl : l.length ≤ 1099511627) :
    Calls Tryz.prog 236 #[v] w fun e w' => ∃ u, e = .returned u ∧ w'.ownsRow w.heap.size 3 1 u (foldS l).length (intCells (foldS l)) ∧ Fr (fun _ => False) w w' := by
  obtain ⟨a, cap, rfl, -, -, hx⟩ := Ints.form h
  have HX := Lib.hid hx
  have HBL := Lib.hid r13blank_any
  obtain ⟨R, hR⟩ : ∃ R, R = foldS l := ⟨_, rfl⟩
  rw [← hR]
  have HR := Lib.hid hR
  clear h hx hR
  go_enter Tryz.func236, Tryz.ntmps236
  go_upto_block 0 with fail
  go_cut [3] from 10 to 21 (fun s wc => ∃ j : Nat, s = .int .i64 j ∧ j ≤ l.length ∧ (∀ (k : Nat) (n : Int), k < j → l[k]? = some n → blankB n = true) ∧ (∀ n, l[j]? = some n → blankB n = false) ∧ wc = w)
  case first =>
    go_wp2_with fail
    go_loopg [3] l.length (fun g s wr => ∃ j : Nat, g = l.length - j ∧ j ≤ l.length ∧ s = .int .i64 j ∧ (∀ (k : Nat) (n : Int), k < j → l[k]? = some n → blankB n = true) ∧ wr = w)
    case atStart => exact ⟨0, rfl, Nat.zero_le _, rfl, fun k n hk => absurd hk (Nat.not_lt_zero _), rfl⟩
    case round =>
      obtain ⟨j, hg, hj, rfl, hall, rfl⟩ := hrel
      have HG := Lib.hid hg
      have HA := Lib.hid hall
      clear hg hall
      by_cases hjl : j < l.length
      · obtain ⟨b, off, rfl, hy⟩ := HX.out (by omega)
        obtain ⟨x, hxj⟩ : ∃ x, l[j]? = some x := ⟨_, List.getElem?_eq_getElem hjl⟩
        have ex := hy j x hxj
        have HXJ := Lib.hid hxj
        have q1 : (0 : Int) ≤ (j : Int) := by omega
        have q2 : (j : Int) < (l.length : Int) := by omega
        clear hy hxj
        rcases Bool.eq_false_or_eq_true (blankB x) with hb | hb
        · have HC := HBL.out x wr
          rw [hb] at HC
          have HCC := Lib.hid HC
          have HB := Lib.hid hb
          clear HC hb
          go_wp2_with fail
          refine HCC.out.mono ?_
          rintro e w' ⟨rfl, rfl⟩
          go_wp2_with fail
          go_roundg (l.length - (j + 1))
          case measure => rw [HG.out]; omega
          case rel =>
            refine ⟨j + 1, rfl, by omega, by go_num, fun k n hk hn => ?_, rfl⟩
            rcases Nat.lt_or_ge k j with h | h
            · exact HA.out k n h hn
            · obtain rfl : k = j := by omega
              rw [HXJ.out] at hn
              cases hn
              exact HB.out
        · have HC := HBL.out x wr
          rw [hb] at HC
          have HCC := Lib.hid HC
          have HB := Lib.hid hb
          clear HC hb
          go_wp2_with fail
          refine HCC.out.mono ?_
          rintro e w' ⟨rfl, rfl⟩
          go_wp2_with fail
          go_meet
          exact ⟨j, rfl, hj, HA.out, fun n hn => by rw [HXJ.out] at hn; cases hn; exact HB.out, rfl⟩
      · obtain rfl : j = l.length := by omega
        have q2 : ¬ (l.length : Int) < (l.length : Int) := by omega
        go_wp2_with fail
        go_meet
        exact ⟨l.length, rfl, Nat.le_refl _, HA.out, fun n hn => by simp at hn, rfl⟩
  case rest =>
    obtain ⟨fr, rfl, hfl, hfa, hfn, rfl⟩ := hcut
    have HFA := Lib.hid hfa
    have HFN := Lib.hid hfn
    clear hfa hfn
    go_upto_block 2 with fail
    go_cut [4] from 22 to 34 (fun s wx => ∃ t : Nat, s = .int .i64 t ∧ fr ≤ t ∧ t ≤ l.length ∧ (∀ (k : Nat) (n : Int), t ≤ k → l[k]? = some n → blankB n = true) ∧ (fr < t → ∀ p, l[t - 1]? = some p → blankB p = false) ∧ wx = wc)
    case first =>
      go_wp2_with fail
      go_loopg [4] l.length (fun g s wr => ∃ t : Nat, g = t ∧ fr ≤ t ∧ t ≤ l.length ∧ s = .int .i64 t ∧ (∀ (k : Nat) (n : Int), t ≤ k → l[k]? = some n → blankB n = true) ∧ wr = wc)
      case atStart =>
        have hn0 : ∀ (k : Nat) (n : Int), l.length ≤ k → l[k]? = some n → blankB n = true := fun k n hk hn => by
          rw [List.getElem?_eq_none hk] at hn
          cases hn
        refine ⟨l.length, rfl, hfl, Nat.le_refl _, ?_⟩
        first | exact ⟨rfl, hn0, rfl⟩ | exact ⟨hn0, rfl⟩
      case round =>
        obtain ⟨t, hg, hft, htl, rfl, hall, rfl⟩ := hrel
        have HG := Lib.hid hg
        have HA := Lib.hid hall
        clear hg hall
        by_cases hlt : fr < t
        · obtain ⟨b, off, rfl, hy⟩ := HX.out (by omega)
          obtain ⟨x, hxj⟩ : ∃ x, l[t - 1]? = some x := ⟨_, List.getElem?_eq_getElem (by omega)⟩
          have ex := hy (t - 1) x hxj
          have HXJ := Lib.hid hxj
          have q1 : (0 : Int) ≤ (t : Int) - 1 := by omega
          have q2 : (t : Int) - 1 < (l.length : Int) := by omega
          have q3 : (fr : Int) < (t : Int) := by omega
          have hin : ((t : Int) - 1).toNat = t - 1 := by omega
          clear hy hxj
          rcases Bool.eq_false_or_eq_true (blankB x) with hb | hb
          · have HC := HBL.out x wr
            rw [hb] at HC
            have HCC := Lib.hid HC
            have HB := Lib.hid hb
            clear HC hb
            go_wp2_with fail
            refine HCC.out.mono ?_
            rintro e w' ⟨rfl, rfl⟩
            go_wp2_with fail
            go_roundg (t - 1)
            case measure => rw [HG.out]; omega
            case rel =>
              refine ⟨t - 1, rfl, by omega, by omega, by congr 1; omega, fun k n hk hn => ?_, rfl⟩
              rcases Nat.lt_or_ge k t with h | h
              · obtain rfl : k = t - 1 := by omega
                rw [HXJ.out] at hn
                cases hn
                exact HB.out
              · exact HA.out k n h hn
          · have HC := HBL.out x wr
            rw [hb] at HC
            have HCC := Lib.hid HC
            have HB := Lib.hid hb
            clear HC hb
            go_wp2_with fail
            refine HCC.out.mono ?_
            rintro e w' ⟨rfl, rfl⟩
            go_wp2_with fail
            go_meet
            exact ⟨t, rfl, hft, htl, HA.out, fun _ p hp => by rw [HXJ.out] at hp; cases hp; exact HB.out, rfl⟩
        · have q3 : ¬ (fr : Int) < (t : Int) := by omega
          go_wp2_with fail
          go_meet
          exact ⟨t, rfl, hft, htl, HA.out, fun h => absurd h hlt, rfl⟩
    case rest =>
      obtain ⟨t, rfl, hft, htl, hback, hlast, rfl⟩ := hcut
      have HBK := Lib.hid hback
      have HLS := Lib.hid hlast
      have hf0 := fold_front l fr hfl HFA.out
      have HF0 := Lib.hid hf0
      clear hback hlast hf0
      go_wp2_with fail
      go_loopg [5, 6] (t - fr) (fun g u i wr => ∃ (j : Nat) (L : Nat) (a1 : Option Addr) (c1 : Nat), g = t - j ∧ fr ≤ j ∧ j ≤ t ∧ u = .slice a1 L c1 ∧ i = .int .i64 j ∧ L = (fOut l j).length ∧ fAt l fr j ∧ wr.ownsRow wc.heap.size 3 1 (.slice a1 L c1) L (intCells (fOut l j)) ∧ Fr (fun _ => False) wc wr)
      case atStart => exact ⟨fr, 0, none, 0, rfl, Nat.le_refl _, hft, rfl, rfl, by rw [fOut_front HF0.out]; rfl, .inl ⟨rfl, HF0.out⟩, by rw [fOut_front HF0.out]; exact ⟨rfl, .inl ⟨rfl, rfl⟩⟩, Fr.refl _⟩
      case round =>
        obtain ⟨j, L, a1, c1, hg, hfj, hjt, rfl, rfl, hL, hA, hO, F⟩ := hrel
        have HG := Lib.hid hg
        have HL := Lib.hid hL
        have HA := Lib.hid hA
        have HO := Lib.hid hO
        have HF := Lib.hid F
        have hLl : L ≤ 3000000000 := by have := fOut_len l j; omega
        clear hg hL hA hO
        by_cases hjl : j < t
        · obtain ⟨b, off, rfl, hy⟩ := HX.out (by omega)
          obtain ⟨x, hxj⟩ : ∃ x, l[j]? = some x := ⟨_, List.getElem?_eq_getElem (by omega)⟩
          have ex := F.cell (hy j x hxj) (fun h => h)
          have HXJ := Lib.hid hxj
          have q1 : (0 : Int) ≤ (j : Int) := by omega
          have q2 : (j : Int) < (l.length : Int) := by omega
          have q3 : (j : Int) < (t : Int) := by omega
          have hbase : wc.heap.size ≤ wr.heap.size := F.size
          have hvb := (Vals.of_own HO.out).2
          clear hxj
          rcases Bool.eq_false_or_eq_true (blankB x) with hb | hb
          · have hfr : fr < j := by
              rcases Nat.lt_or_ge fr j with h | h
              · exact h
              · obtain rfl : fr = j := by omega
                have := HFN.out x HXJ.out
                rw [hb] at this
                cases this
            obtain ⟨p, hp⟩ : ∃ p, l[j - 1]? = some p := ⟨_, List.getElem?_eq_getElem (by omega)⟩
            have ep := F.cell (hy (j - 1) p hp) (fun h => h)
            obtain ⟨hn1, hn2⟩ := fOut_blank HA.out hfr HXJ.out hp hb
            have HC := HBL.out x wr
            rw [hb] at HC
            have HCC := Lib.hid HC
            have q4 : (0 : Int) ≤ (j : Int) - 1 := by omega
            have q5 : (j : Int) - 1 < (l.length : Int) := by omega
            have hin : ((j : Int) - 1).toNat = j - 1 := by omega
            have HN1 := Lib.hid hn1
            have HN2 := Lib.hid hn2
            clear HC hy hn1 hn2 hp
            rcases Bool.eq_false_or_eq_true (blankB p) with hbp | hbp
            · have HP := HBL.out p wr
              rw [hbp] at HP
              have HPP := Lib.hid HP
              have hnx : fOut l (j + 1) = fOut l j := by rw [HN1.out, if_pos hbp, List.append_nil]
              have HNX := Lib.hid hnx
              clear HP hbp hb hnx hvb F
              go_wp2_with fail
              refine HCC.out.mono ?_
              rintro e w' ⟨rfl, rfl⟩
              go_wp2_with fail
              refine HPP.out.mono ?_
              rintro e w' ⟨rfl, rfl⟩
              go_wp2_with fail
              go_roundg (t - (j + 1))
              case measure => rw [HG.out]; omega
              case rel => exact ⟨j + 1, L, a1, c1, rfl, by omega, by omega, rfl, by go_num, by rw [HNX.out]; exact HL.out, HN2.out, by rw [HNX.out]; exact HO.out, HF.out⟩
            · have HP := HBL.out p wr
              rw [hbp] at HP
              have HPP := Lib.hid HP
              have hnx : fOut l (j + 1) = fOut l j ++ [32] := by rw [HN1.out, if_neg (by rw [hbp]; decide)]
              have HNX := Lib.hid hnx
              obtain ⟨a7, c7, w7, hr7, ho7, F7, -⟩ := add_int HO.out hbase (by omega) (32 : Int) wr.heap.size ((Fr.refl (S := fun _ => False) wr).alloc (.cells #[.int .i64 (32 : Int)] 3)) (Blk.new wr 3 #[.int .i64 (32 : Int)])
              have HF7 := Lib.hid (F.trans' F7 (fun i hi e => by have := hvb i e; omega))
              rw [← hnx] at ho7
              have HO7 := Lib.hid ho7
              have HRUN := Lib.hid hr7
              clear HP hbp hb hnx hvb F ho7 hr7 F7
              go_wp2_with fail
              refine HCC.out.mono ?_
              rintro e w' ⟨rfl, rfl⟩
              go_wp2_with fail
              refine HPP.out.mono ?_
              rintro e w' ⟨rfl, rfl⟩
              go_wp2_with (at_builtin; refine wpList_append_run (by rfl) (.tmp 54) (.tmp 55) 105 (by rfl) _ w7 (by exact HRUN.out) ?_)
              go_roundg (t - (j + 1))
              case measure => rw [HG.out]; omega
              case rel => exact ⟨j + 1, L + 1, a7, c7, rfl, by omega, by omega, rfl, by go_num, by rw [HNX.out, List.length_append, ← HL.out]; rfl, HN2.out, HO7.out, HF7.out⟩
          · obtain ⟨hn1, hn2⟩ := fOut_sign HA.out hfj HXJ.out hb
            have HC := HBL.out x wr
            rw [hb] at HC
            have HCC := Lib.hid HC
            obtain ⟨y, hyx⟩ : ∃ y, y = smallS x := ⟨_, rfl⟩
            rw [← hyx] at hn1
            obtain ⟨a7, c7, w7, hr7, ho7, F7, -⟩ := add_int HO.out hbase (by omega) y wr.heap.size ((Fr.refl (S := fun _ => False) wr).alloc (.cells #[.int .i64 y] 3)) (Blk.new wr 3 #[.int .i64 y])
            have HF7 := Lib.hid (F.trans' F7 (fun i hi e => by have := hvb i e; omega))
            rw [← hn1] at ho7
            have HO7 := Lib.hid ho7
            have HRUN := Lib.hid hr7
            have HN1 := Lib.hid hn1
            have HN2 := Lib.hid hn2
            have hcase : ((64 : Int) < x ∧ x < 91 ∧ x + 32 = y) ∨ ((64 : Int) < x ∧ ¬ x < 91 ∧ x = y) ∨ (¬ (64 : Int) < x ∧ x = y) := by
              unfold smallS at hyx
              split at hyx <;> omega
            clear HC hb hn1 hn2 hvb F ho7 hr7 F7 hyx hy
            rcases hcase with ⟨g1, g2, g3⟩ | ⟨g1, g2, g3⟩ | ⟨g1, g3⟩
            all_goals
              subst g3
              go_wp2_with fail
              refine HCC.out.mono ?_
              rintro e w' ⟨rfl, rfl⟩
              go_wp2_with (at_builtin; refine wpList_append_run (by rfl) (.tmp 65) (.tmp 67) 105 (by rfl) _ w7 (by exact HRUN.out) ?_)
              go_roundg (t - (j + 1))
              case measure => rw [HG.out]; omega
              case rel => exact ⟨j + 1, L + 1, a7, c7, rfl, by omega, by omega, rfl, by go_num, by rw [HN1.out, List.length_append, ← HL.out]; rfl, HN2.out, HO7.out, HF7.out⟩
        · obtain rfl : j = t := by omega
          have q3 : ¬ (j : Int) < (j : Int) := by omega
          have hres : R = fOut l j := by rw [HR.out]; exact fOut_all HA.out htl HLS.out HBK.out
          have HRES := Lib.hid hres
          clear hres
          go_wp2_with fail
          exact bodyPost_ret (v := .slice a1 L c1) (by simp [results, Tryz.results236, go_sem]) rfl ⟨_, rfl, by rw [HRES.out, ← HL.out]; exact HO.out, HF.out⟩
end Go.Proofs.YtacekpdjapgfcaaGreatDoor

namespace Go.Q
open Go Go.RowKit
theorem may_nats {l : List Int} (h : ∀ n ∈ l, mayS 12 n = true) : l = natInts (l.map Int.toNat) ∧ (∀ n ∈ l.map Int.toNat, n < 1114112) ∧ encAll (l.map Int.toNat) = ofS 12 l := by
  refine ⟨?_, ?_, ?_⟩
  · unfold natInts
    rw [List.map_map]
    refine ((List.map_congr_left (fun m hm => ?_)).trans (List.map_id l)).symm
    have := h m hm
    simp [mayS, surr] at this
    simp
    omega
  · intro n hn
    obtain ⟨m, hm, rfl⟩ := List.mem_map.1 hn
    have := h m hm
    simp [mayS, surr] at this
    omega
  · simp only [ofS, encAll, List.flatMap_map]
    rfl
end Go.Q
namespace Go.Proofs.YtacekpdjapgfcaaGreatDoor
open Go Go.RowKit Go.Q
set_option linter.unusedSimpArgs false
theorem r06Utf8_may (v : Value) (l : List Int) (w : World) (h : Ints w v l) (hm : ∀ n ∈ l, mayS 12 n = true) (hl : l.length ≤ 100000000) :
    Calls Tryz.prog 235 #[v] w fun e w' => ∃ v', e = .returned v' ∧ w'.ownsRow w.heap.size 5 1 v' (ofS 12 l).length (Lib.byteCells (ofS 12 l)) ∧ Fr (fun _ => False) w w' := by
  obtain ⟨h1, h2, h3⟩ := may_nats hm
  rw [h1] at h
  have := r06Utf8_any v (l.map Int.toNat) w h h2 (by simpa using hl)
  rw [h3] at this
  exact this
set_option maxRecDepth 20000 in
set_option maxHeartbeats 2000000 in
theorem r13Key_any (k : Int) (v : Value) (b : List UInt8) (w : World) (h : Bytes w v b) (hr : rightS k b = true) (hl : b.length ≤ 16777216) :
    Calls Tryz.prog 185 #[.agg #[.int .i64 k, v]] w fun e w' => e = .returned (.tuple #[str (foldKeyS k b), .bool true]) ∧ Fr (fun _ => False) w w' := by
  obtain ⟨a, cap, rfl, -⟩ := h.form
  have F0 : Fr (fun _ => False) w (w.alloc (.cells #[.int .i64 k, .slice a b.length cap] 249)) := (Fr.refl w).alloc _
  obtain ⟨z, hz⟩ : ∃ z, z = w.heap.size := ⟨_, rfl⟩
  have BZ := Blk.new w 249 #[.int .i64 k, .slice a b.length cap]
  rw [← hz] at BZ
  have HZ := Lib.hid hz
  have hS := r06Signs_any k _ b _ (h.old F0) hl
  unfold RSigOut at hS
  rw [sigR_right hr] at hS
  simp only [Option.isSome_some, Option.getD_some] at hS
  have HS := Lib.hid hS
  have hsl := signsS_len k b
  have HM := Lib.hid (fun n hn => may12 (right_all hr n hn))
  have hfk : foldKeyS k b = ofS 12 (foldS (signsS k b)) := rfl
  rw [hfk]
  obtain ⟨S, hSS⟩ : ∃ S, S = signsS k b := ⟨_, rfl⟩
  rw [← hSS] at HS HM hsl ⊢
  have hfl : (foldS S).length ≤ 2 * S.length := foldAcc_len S
  have HFM := Lib.hid (fold_may HM.out)
  obtain ⟨R, hR⟩ : ∃ R, R = foldS S := ⟨_, rfl⟩
  rw [← hR] at hfl HFM ⊢
  have HR := Lib.hid hR
  have HF0 := Lib.hid F0
  clear h hz hS hfk hSS hR F0 hr HM
  go_enter Tryz.func185, Tryz.ntmps185
  go_upto_region 1 with fail
  rw [← HZ.out]
  generalize (w.alloc (.cells #[.int .i64 k, .slice a b.length cap] 249)) = w0 at *
  have z0 := BZ.cell 0
  have z1 := BZ.cell 1
  simp only [List.getElem?_toArray, List.getElem?_cons_succ, List.getElem?_cons_zero] at z0 z1
  go_wp2_with fail
  refine HS.out.mono ?_
  rintro e w1 ⟨v1, rfl, h1, F1⟩
  obtain ⟨a1, c1, rfl, -⟩ := Ints.form h1
  have HG := Lib.hid (r13Signs_any _ S w1 h1 (by omega))
  rw [← HR.out] at HG
  have HF1 := Lib.hid (HF0.out.trans F1)
  clear h1 F1 HS z0 z1
  go_wp2_with fail
  refine HG.out.mono ?_
  rintro e w2 ⟨v2, rfl, ho2, F2⟩
  have hI2 := (Vals.of_own ho2).1
  obtain ⟨a2, c2, rfl, -⟩ := Ints.form hI2
  have HU := Lib.hid (r06Utf8_may _ R w2 hI2 HFM.out (by omega))
  have HF2 := Lib.hid (HF1.out.trans F2)
  clear ho2 hI2 F2 HG
  go_wp2_with fail
  refine HU.out.mono ?_
  rintro e w3 ⟨v3, rfl, ho3, F3⟩
  have hB3 := (Vals.of_own ho3).1
  obtain ⟨a3, c3, rfl, -⟩ := Vals.form hB3
  have hcv := str_of hB3
  have HF3 := Lib.hid (HF2.out.trans F3)
  clear ho3 hB3 F3 HU
  go_wp2_with fail
  exact bodyPost_ret (v := .tuple #[str (ofS 12 R), .bool true]) (by simp [results, Tryz.results185, go_sem]) rfl ⟨rfl, HF3.out⟩
end Go.Proofs.YtacekpdjapgfcaaGreatDoor

namespace Go.Q
open Go Go.RowKit
abbrev hexL : List UInt8 := [48, 49, 50, 51, 52, 53, 54, 55, 56, 57, 97, 98, 99, 100, 101, 102]
theorem hexL_fin : ∀ m : Fin 16, hexL[m.val]? = some (UInt8.ofNat (hexN (m.val : Int)).toNat) := by decide
theorem hexN_fin : ∀ m : Fin 16, (UInt8.ofNat (hexN (m.val : Int)).toNat).toNat = (hexN (m.val : Int)).toNat ∧ 0 ≤ hexN (m.val : Int) := by decide
end Go.Q
namespace Go.Proofs.YtacekpdjapgfcaaGreatDoor
open Go Go.RowKit Go.Q
set_option linter.unusedSimpArgs false
theorem hexL_index (m : Nat) (h : m < 16) (w : World) : (Instr.index 9 (.string ⟨#[48, 49, 50, 51, 52, 53, 54, 55, 56, 57, 97, 98, 99, 100, 101, 102]⟩) (.int .u8 m)).run Tryz.prog w = .ok (.int .u8 (hexN (m : Int))) w := by
  have hsz : (ByteArray.mk #[48, 49, 50, 51, 52, 53, 54, 55, 56, 57, 97, 98, 99, 100, 101, 102]).size = 16 := rfl
  rw [run_index_string w 9 _ .u8 m Tryz.underlying9, dif_pos ⟨by omega, by rw [hsz]; omega⟩]
  have h1 := hexL_fin ⟨m, h⟩
  have h2 := hexN_fin ⟨m, h⟩
  simp only at h1 h2
  obtain ⟨hl, he⟩ := List.getElem?_eq_some_iff.1 h1
  have h3 : ((UInt8.ofNat (hexN (m : Int)).toNat).toNat : Int) = hexN (m : Int) := by omega
  rw [← h3, ← he]
  simp [ByteArray.getElem_eq_getElem_data]
set_option maxRecDepth 20000 in
set_option maxHeartbeats 2000000 in
theorem r01Hex_any (v : Value) (l : List UInt8) (w : World) (h : Bytes w v l) (hl : l.length ≤ 109951162) :
    Calls Tryz.prog 98 #[v] w fun e w' => e = .returned (str (hexS l)) ∧ Fr (fun _ => False) w w' := by
  obtain ⟨a, cap, rfl, -, -, hx⟩ := h.form
  have HX := Lib.hid hx
  obtain ⟨R, hR⟩ : ∃ R, R = hexS l := ⟨_, rfl⟩
  rw [← hR]
  have HR := Lib.hid hR
  clear h hx hR
  go_enter Tryz.func98, Tryz.ntmps98
  go_wp2_with fail
  go_loopg [3, 4] l.length (fun g s i wr => ∃ (j L : Nat) (a1 : Option Addr) (c1 : Nat), g = l.length - j ∧ j ≤ l.length ∧ s = .slice a1 L c1 ∧ i = .int .i64 j ∧ L = (hexS (l.take j)).length ∧ wr.ownsRow w.heap.size 5 1 (.slice a1 L c1) L (Lib.byteCells (hexS (l.take j))) ∧ Fr (fun _ => False) w wr)
  case atStart => exact ⟨0, 0, none, 0, rfl, Nat.zero_le _, rfl, rfl, rfl, ⟨rfl, .inl ⟨rfl, rfl⟩⟩, Fr.refl _⟩
  case round =>
    obtain ⟨j, L, a1, c1, hg, hj, rfl, rfl, hL, hO, F⟩ := hrel
    have HG := Lib.hid hg
    have HL := Lib.hid hL
    have HO := Lib.hid hO
    have HF := Lib.hid F
    have hLl : L ≤ 300000000 := by rw [hL, hexS_len, List.length_take]; omega
    clear hg hL hO
    by_cases hjl : j < l.length
    · obtain ⟨b, off, rfl, hy⟩ := HX.out (by omega)
      obtain ⟨x, hxj⟩ : ∃ x, l[j]? = some x := ⟨_, List.getElem?_eq_getElem hjl⟩
      have ex := F.cell (hy j x hxj) (fun h => h)
      have HT := Lib.hid (hexS_take hxj)
      have hx256 := x.toNat_lt
      obtain ⟨y, hyx⟩ : ∃ y, y = x.toNat := ⟨_, rfl⟩
      rw [← hyx] at ex hx256
      obtain ⟨q, hq⟩ : ∃ q, q = y / 16 := ⟨_, rfl⟩
      obtain ⟨r, hr⟩ : ∃ r, r = y % 16 := ⟨_, rfl⟩
      have hq16 : q < 16 := by omega
      have hr16 : r < 16 := by omega
      have hqi : (y : Int) / 16 = (q : Int) := by omega
      have hri : (y : Int) % 16 = (r : Int) := by omega
      have hh : hex1 x = [UInt8.ofNat (hexN (q : Int)).toNat, UInt8.ofNat (hexN (r : Int)).toNat] := by
        unfold hex1
        rw [← hyx, hqi, ← hr]
      have i1 := hexL_index q hq16
      have i2 := hexL_index r hr16
      have k1 := hexN_fin ⟨q, hq16⟩
      have k2 := hexN_fin ⟨r, hr16⟩
      simp only at k1 k2
      generalize hexN (q : Int) = d1 at *
      generalize hexN (r : Int) = d2 at *
      have FD : Fr (fun _ => False) wr wr.drew := (Fr.refl wr).drew
      have hsrc : Bytes (wr.drew.alloc (.cells #[.int .u8 d1, .int .u8 d2] 5)) (.slice (some ⟨wr.drew.heap.size, 0, none⟩) 2 2) [UInt8.ofNat d1.toNat, UInt8.ofNat d2.toNat] := by
        have BX := Blk.new wr.drew 5 #[.int .u8 d1, .int .u8 d2]
        have e1 : ((UInt8.ofNat d1.toNat).toNat : Int) = d1 := by omega
        have e2 : ((UInt8.ofNat d2.toNat).toNat : Int) = d2 := by omega
        have ec : (#[.int .u8 d1, .int .u8 d2] : Array Value) = (Lib.byteCells [UInt8.ofNat d1.toNat, UInt8.ofNat d2.toNat]).toArray := by
          simp only [Lib.byteCells, List.map_cons, List.map_nil, e1, e2]
        have BX' : Blk (wr.drew.alloc (.cells #[.int .u8 d1, .int .u8 d2] 5)) wr.drew.heap.size 5 (Lib.byteCells [UInt8.ofNat d1.toNat, UInt8.ofNat d2.toNat]).toArray := by rw [← ec]; exact BX
        exact Vals.of_block BX' (by simp [Lib.byteCells]; unfold maxLen; omega)
      have F3 : Fr (fun _ => False) wr.drew (wr.drew.alloc (.cells #[.int .u8 d1, .int .u8 d2] 5)) := (Fr.refl wr.drew).alloc _
      obtain ⟨v4, w4, hr4, ho4, F4, _⟩ := append_bytes (ownsRow_fr (ownsRow_fr HO.out FD (fun _ _ h => h)) F3 (fun _ _ h => h)) (some ⟨wr.drew.heap.size, 0, none⟩) 2 2 _ hsrc (by omega) (Nat.le_trans (F.trans FD).size F3.size)
      have hvb := (Vals.of_own HO.out).2
      have HF4 := Lib.hid (((F.trans FD).trans F3).trans' F4 (fun i hi e => by have := hvb i e; omega))
      obtain ⟨a4, m4, c4, rfl, rfl⟩ := own_shape ho4
      have hT2 := HT.out
      rw [hh] at hT2
      rw [← hT2] at ho4
      have HO4 := Lib.hid ho4
      have HRUN := Lib.hid hr4
      have HT2 := Lib.hid hT2
      have q1 : (0 : Int) ≤ (j : Int) := by omega
      have q2 : (j : Int) < (l.length : Int) := by omega
      have hti : (y : Int).tmod 16 = (r : Int) := by rw [Int.tmod_eq_emod_of_nonneg (by omega)]; exact hri
      have w1 : IntKind.u8.wrap (q : Int) = (q : Int) := by simp [IntKind.wrap, IntKind.signed, IntKind.bits]; omega
      have w2 : IntKind.u8.wrap (r : Int) = (r : Int) := by simp [IntKind.wrap, IntKind.signed, IntKind.bits]; omega
      clear hy hxj hyx hq hr hh FD k1 k2 hsrc F3 hr4 ho4 F4 hvb hT2 HT F
      go_upto_region 5 with fail
      go_region_law (first | (refine step_append_run (by rfl) (.tmp 11) (.tmp 24) 23 (by rfl) _ w4 (by exact HRUN.out) ?_) | fail)
      all_goals
        go_wp2_with fail
        go_roundg (l.length - (j + 1))
        case measure => rw [HG.out]; omega
        case rel => exact ⟨j + 1, L + 2, a4, c4, rfl, by omega, rfl, by go_num, by rw [HT2.out, List.length_append, ← HL.out]; rfl, HO4.out, HF4.out⟩
    · obtain rfl : j = l.length := by omega
      have q2 : ¬ (l.length : Int) < (l.length : Int) := by omega
      have hO2 := HO.out
      have hL2 := HL.out
      rw [List.take_length, ← HR.out] at hO2 hL2
      have hb := (Vals.of_own hO2).1
      have hcv := str_of hb
      clear hb hO2 hL2
      go_wp2_with fail
      go_ret
      exact ⟨rfl, HF.out⟩
end Go.Proofs.YtacekpdjapgfcaaGreatDoor

namespace Go.Q
open Go Go.RowKit
theorem textRead_err {l : List UInt8} {e : Int} (h : textReadS l = .error e) : e ≠ 0 := by
  unfold textReadS at h
  split at h
  · rename_i e' he
    cases h
    exact Go.Proofs.YtacekpdjapgfcaaGreatDoor.readS_err he
  · split at h
    · cases h; decide
    · split at h
      · cases h; decide
      · split at h
        · cases h
        · cases h; decide
theorem oid_arcs {o : List Int} (ho : oidOk o = true) : ∀ n ∈ o, 0 ≤ n ∧ n ≤ 2147483647 := by
  intro n hn
  simp only [oidOk, Bool.and_eq_true, decide_eq_true_eq] at ho
  have := List.all_eq_true.1 ho.1.2 n hn
  simp only [arcOk, decide_eq_true_eq] at this
  omega
end Go.Q
namespace Go.Proofs.YtacekpdjapgfcaaGreatDoor
open Go Go.RowKit Go.Q
set_option linter.unusedSimpArgs false
set_option maxRecDepth 20000 in
set_option maxHeartbeats 1000000 in
theorem r14Text_any (v : Value) (b : List UInt8) (w : World) (h : Bytes w v b) (hl : b.length ≤ 16777216) :
    Calls Tryz.prog 184 #[v] w fun e w' => WordsOut w' b e ∧ Fr (fun _ => False) w w' := by
  obtain ⟨a, cap, rfl, -⟩ := h.form
  obtain ⟨z, hz⟩ : ∃ z, z = w.heap.size := ⟨_, rfl⟩
  have BZ := Blk.new w 249 #[.int .i64 0, .slice none 0 0]
  have F0 : Fr (fun _ => False) w (w.alloc (.cells #[.int .i64 0, .slice none 0 0] 249)) := (Fr.refl w).alloc _
  rw [← hz] at BZ
  have hzw : ∀ k, k < w.heap.size → k = z → False := fun k hk e => by omega
  have HZ := Lib.hid hz
  have hT := r06Read_any _ b 0 w _ h F0 (by omega) hl
  unfold RTextOut at hT
  rw [List.drop_zero] at hT
  have HT := Lib.hid hT
  have HF0 := Lib.hid F0
  have HZW := Lib.hid hzw
  clear h hz F0 hzw hT
  go_enter Tryz.func184, Tryz.ntmps184
  go_upto_region 1 with fail
  rw [← HZ.out]
  generalize (w.alloc (.cells #[.int .i64 0, .slice none 0 0] 249)) = w0 at *
  go_wp2_with fail
  refine HT.out.mono ?_
  rintro e w1 ⟨hout, F⟩
  replace BZ := BZ.fr F (fun h => h)
  have HF := Lib.hid (HF0.out.trans F)
  clear F HF0 HT
  cases hr : textReadS b with
  | error x =>
    rw [hr] at hout
    subst hout
    have hx := textRead_err hr
    have hx1 : (x == 0) = false := beq_eq_false_iff_ne.2 hx
    have HRR := Lib.hid hr
    go_upto_region 2 with fail
    have BZ4 := BZ.alloc (.cells #[.int .i64 0, .slice none 0 0] 249)
    have BY4 := Blk.new w1 249 #[.int .i64 0, .slice none 0 0]
    have F4 : Fr (fun _ => False) w1 (w1.alloc (.cells #[.int .i64 0, .slice none 0 0] 249)) := (Fr.refl w1).alloc _
    obtain ⟨y, hy⟩ : ∃ y, y = w1.heap.size := ⟨_, rfl⟩
    rw [← hy] at BY4 ⊢
    clear hy
    generalize (w1.alloc (.cells #[.int .i64 0, .slice none 0 0] 249)) = w4 at *
    have y0 := BY4.cell 0
    have y1 := BY4.cell 1
    simp only [List.getElem?_toArray, List.getElem?_cons_succ, List.getElem?_cons_zero] at y0 y1
    have SZ := BZ4.cell
    have ZZ := BZ4.frozen
    obtain ⟨BZ5, F5⟩ := set2 BZ4 (.int .i64 0) (.slice none 0 0)
    have n0 := BZ5.cell 0
    have n1 := BZ5.cell 1
    simp only [List.getElem?_toArray, List.getElem?_cons_succ, List.getElem?_cons_zero] at n0 n1
    have HF5 := Lib.hid ((HF.out.trans F4).trans' F5 HZW.out)
    clear hr F4 BZ BZ4 BZ5 F5 BY4 hx
    go_wp2_with fail
    refine bodyPost_ret (v := .tuple #[.agg #[.int .i64 0, .slice none 0 0], .bool false]) (by simp [results, Tryz.results184, go_sem, n0, n1]) rfl ⟨?_, HF5.out⟩
    unfold WordsOut
    rw [HRR.out]
  | ok kbn =>
    obtain ⟨k, t, n⟩ := kbn
    rw [hr] at hout
    obtain ⟨u, rfl, hu⟩ := hout
    have HRR := Lib.hid hr
    obtain ⟨au, cu, rfl, -⟩ := hu.form
    go_upto_region 2 with fail
    have BZ4 := BZ.alloc (.cells #[.int .i64 k, .slice au t.length cu] 249)
    have BY4 := Blk.new w1 249 #[.int .i64 k, .slice au t.length cu]
    have F4 : Fr (fun _ => False) w1 (w1.alloc (.cells #[.int .i64 k, .slice au t.length cu] 249)) := (Fr.refl w1).alloc _
    obtain ⟨y, hy⟩ : ∃ y, y = w1.heap.size := ⟨_, rfl⟩
    rw [← hy] at BY4 ⊢
    clear hy
    generalize (w1.alloc (.cells #[.int .i64 k, .slice au t.length cu] 249)) = w4 at *
    have y0 := BY4.cell 0
    have y1 := BY4.cell 1
    simp only [List.getElem?_toArray, List.getElem?_cons_succ, List.getElem?_cons_zero] at y0 y1
    have SZ := BZ4.cell
    have ZZ := BZ4.frozen
    obtain ⟨BZ5, F5⟩ := set2 BZ4 (.int .i64 k) (.slice au t.length cu)
    have n0 := BZ5.cell 0
    have n1 := BZ5.cell 1
    simp only [List.getElem?_toArray, List.getElem?_cons_succ, List.getElem?_cons_zero] at n0 n1
    have HF5 := Lib.hid ((HF.out.trans F4).trans' F5 HZW.out)
    have HB := Lib.hid (hu.old HF5.out)
    clear hr F4 BZ BZ4 BZ5 F5 BY4 hu
    go_wp2_with fail
    refine bodyPost_ret (v := .tuple #[.agg #[.int .i64 k, .slice au t.length cu], .bool true]) (by simp [results, Tryz.results184, go_sem, n0, n1]) rfl ⟨?_, HF5.out⟩
    unfold WordsOut
    rw [HRR.out]
    exact ⟨_, rfl, HB.out⟩
set_option maxRecDepth 20000 in
set_option maxHeartbeats 1000000 in
theorem r14partKey_any (x y : Value) (o : List Int) (b : List UInt8) (w : World) (hx : Ints w x o) (hy : Bytes w y b) (ho : oidOk o = true) (hl : b.length ≤ 10000000) :
    Calls Tryz.prog 143 #[.agg #[x, y]] w fun e w' => e = .returned (str (attrKeyS o b)) ∧ Fr (fun _ => False) w w' := by
  obtain ⟨ax, cx, rfl, -⟩ := Ints.form hx
  obtain ⟨ay, cy, rfl, -⟩ := Vals.form hy
  obtain ⟨z, hz⟩ : ∃ z, z = w.heap.size := ⟨_, rfl⟩
  have BZ := Blk.new w 107 #[.slice ax o.length cx, .slice ay b.length cy]
  have F0 : Fr (fun _ => False) w (w.alloc (.cells #[.slice ax o.length cx, .slice ay b.length cy] 107)) := (Fr.refl w).alloc _
  have HT := Lib.hid (r04Text_any _ o _ (hx.old F0) (oid_arcs ho) (by have := (nums_ok ho).2.1; omega))
  have HY := Lib.hid (hy.old F0)
  rw [← hz] at BZ
  have HF0 := Lib.hid F0
  have HZ := Lib.hid hz
  have hk : attrKeyS o b = oidTextS o ++ (match textReadS b with | .ok (k, t, _) => [61, 116] ++ hexS (foldKeyS k t) | .error _ => [61, 98] ++ hexS b) := rfl
  have HK := Lib.hid hk
  have ho0 := Lib.hid ho
  clear hx hy F0 hz ho hk
  have hol : o.length ≤ 32 := (nums_ok ho0.out).2.1
  have hot : (oidTextS o).length ≤ 1000 := by
    have hall := ho0.out
    simp only [oidOk, Bool.and_eq_true, decide_eq_true_eq] at hall
    have := oidText_len (o := o) (fun n hn => by
      have := List.all_eq_true.1 hall.1.2 n hn
      simp only [arcOk, decide_eq_true_eq] at this
      omega)
    omega
  have hos : (ByteArray.mk (oidTextS o).toArray).size = (oidTextS o).length := by simp [ByteArray.size]
  generalize oidTextS o = ot at *
  go_enter Tryz.func143, Tryz.ntmps143
  go_upto_region 1 with fail
  rw [← HZ.out]
  generalize (w.alloc (.cells #[.slice ax o.length cx, .slice ay b.length cy] 107)) = w0 at *
  have z0 := BZ.cell 0
  simp at z0
  go_wp2_with fail
  refine HT.out.mono ?_
  rintro e w1 ⟨rfl, F1⟩
  have BZ1 := BZ.fr F1 (fun h => h)
  have z1 := BZ1.cell 1
  simp at z1
  have HY1 := Lib.hid (HY.out.old F1)
  have HF1 := Lib.hid (HF0.out.trans F1)
  clear HT HY HF0 F1 z0 BZ
  go_wp2_with fail
  refine (r14Text_any _ b w1 HY1.out (by omega)).mono ?_
  rintro e w2 ⟨hout, F2⟩
  have BZ2 := BZ1.fr F2 (fun h => h)
  have HY2 := Lib.hid (HY1.out.old F2)
  have HF2 := Lib.hid (HF1.out.trans F2)
  unfold WordsOut at hout
  clear HY1 HF1 F2 z1 BZ1
  cases hr : textReadS b with
  | error x =>
    rw [hr] at hout
    subst hout
    have F3 : Fr (fun _ => False) w2 (w2.alloc (.cells #[.int .i64 0, .slice none 0 0] 249)) := (Fr.refl w2).alloc _
    have BZ3 := BZ2.fr F3 (fun h => h)
    have z1 := BZ3.cell 1
    simp only [List.getElem?_toArray, List.getElem?_cons_succ, List.getElem?_cons_zero] at z1
    have HX := Lib.hid (r01Hex_any _ b _ (HY2.out.old F3) (by omega))
    have HF3 := Lib.hid (HF2.out.trans F3)
    have hkk := HK.out
    rw [hr] at hkk
    have HKK := Lib.hid hkk
    have hhl := hexS_len b
    have hhs : (ByteArray.mk (hexS b).toArray).size = (hexS b).length := by simp [ByteArray.size]
    clear hr hkk HY2 HF2 F3 BZ2 BZ3
    generalize hexS b = hb at *
    go_wp2_with fail
    refine HX.out.mono ?_
    rintro e w4 ⟨rfl, F4⟩
    go_wp2_with fail
    go_ret
    refine ⟨congrArg (fun x : ByteArray => Ending.returned (.string x)) ?_, HF3.out.trans F4⟩
    rw [HKK.out, show ot ++ ([61, 98] ++ hb) = ((ot ++ [61]) ++ [98]) ++ hb from by simp, ← ba_cat, ← ba_cat, ← ba_cat]
  | ok kbn =>
    obtain ⟨k, t, n⟩ := kbn
    rw [hr] at hout
    obtain ⟨u, rfl, hu⟩ := hout
    obtain ⟨hrt, htl⟩ := textRead_ok hr
    obtain ⟨au, cu, rfl, -⟩ := hu.form
    have F3 : Fr (fun _ => False) w2 (w2.alloc (.cells #[.int .i64 k, .slice au t.length cu] 249)) := (Fr.refl w2).alloc _
    have HX := Lib.hid (r13Key_any k _ t _ (hu.old F3) hrt (by omega))
    have HF3 := Lib.hid (HF2.out.trans F3)
    have hkk := HK.out
    rw [hr] at hkk
    simp only at hkk
    have HKK := Lib.hid hkk
    have hfl := foldKey_len k t
    clear hr hkk HY2 HF2 F3 BZ2 hu hrt
    generalize foldKeyS k t = fk at *
    go_upto_region 4 with fail
    have BY := Blk.new w2 249 #[.int .i64 k, .slice au t.length cu]
    obtain ⟨y, hy⟩ : ∃ y, y = w2.heap.size := ⟨_, rfl⟩
    rw [← hy] at BY ⊢
    clear hy
    generalize (w2.alloc (.cells #[.int .i64 k, .slice au t.length cu] 249)) = w3 at *
    have y0 := BY.cell 0
    have y1 := BY.cell 1
    simp only [List.getElem?_toArray, List.getElem?_cons_succ, List.getElem?_cons_zero] at y0 y1
    go_wp2_with fail
    refine HX.out.mono ?_
    rintro e w4 ⟨rfl, F4⟩
    obtain ⟨cp, wc, hcv, hbv, FC, -⟩ := bytes_of_str w4 fk (by omega)
    have HXX := Lib.hid (r01Hex_any _ fk wc hbv (by omega))
    have HF4 := Lib.hid ((HF3.out.trans F4).trans FC)
    have hhl := hexS_len fk
    have hhs : (ByteArray.mk (hexS fk).toArray).size = (hexS fk).length := by simp [ByteArray.size]
    clear HX HF3 F4 hbv FC BY y0 y1
    generalize hexS fk = hb at *
    go_wp2_with fail
    refine HXX.out.mono ?_
    rintro e w5 ⟨rfl, F5⟩
    go_wp2_with fail
    go_ret
    refine ⟨congrArg (fun x : ByteArray => Ending.returned (.string x)) ?_, HF4.out.trans F5⟩
    rw [HKK.out, show ot ++ ([61, 116] ++ hb) = ((ot ++ [61]) ++ [116]) ++ hb from by simp, ← ba_cat, ← ba_cat, ← ba_cat]
end Go.Proofs.YtacekpdjapgfcaaGreatDoor

namespace Go.Proofs.YtacekpdjapgfcaaGreatDoor
open Go Go.RowKit Go.Q
set_option linter.unusedSimpArgs false
set_option maxRecDepth 20000 in
set_option maxHeartbeats 4000000 in
theorem r14Key_any (v : Value) (n : List (List Part)) (w : World) (h : NameAt w v n) (hf : ∀ r ∈ n, fewB r) (hok : nameOk n = true) :
    Calls Tryz.prog 96 #[v] w fun e w' => e = .returned (str (nameKeyS n)) ∧ Fr (fun _ => False) w w' := by
  have H := Lib.hid h
  obtain ⟨hn64, hrd⟩ := name_rdns hok
  have HRD := Lib.hid hrd
  obtain ⟨a, cap, rfl, hc, hm, -⟩ := h
  have hkl : ∀ k ∈ n.map rdnKeyS, k.length ≤ 2560017616 := fun k hk => by
    obtain ⟨r, hr, rfl⟩ := List.mem_map.1 hk
    exact rdnKey_len (hf r hr) (hrd r hr)
  have HPL := Lib.hid (joinF_len 47 2560017616 64 hkl (by rw [List.length_map]; exact hn64))
  have hJ : ∀ j, Lib.join ((n.map rdnKeyS).take j) [47] = Lib.join ((n.take j).map rdnKeyS) [47] := fun j => by rw [← List.map_take]
  have HNK := Lib.hid (show nameKeyS n = Lib.join ((n.map rdnKeyS).take n.length) [47] from by unfold nameKeyS; rw [List.take_of_length_le (by rw [List.length_map]; omega)])
  clear hkl hJ hok hrd
  go_enter Tryz.func96, Tryz.ntmps96
  go_wp2_with fail
  go_loopg [3, 4] n.length (fun g o i wr => ∃ j : Nat, g = n.length - j ∧ j ≤ n.length ∧ o = str (Lib.join ((n.map rdnKeyS).take j) [47]) ∧ i = .int .i64 j ∧ Fr (fun _ => False) w wr)
  case atStart => exact ⟨0, rfl, Nat.zero_le _, rfl, rfl, Fr.refl _⟩
  case round =>
    obtain ⟨j, hg, hj, rfl, rfl, F⟩ := hrel
    have HG := Lib.hid hg
    have HF := Lib.hid F
    obtain ⟨J, hJ⟩ : ∃ J, J = Lib.join ((n.map rdnKeyS).take j) [47] := ⟨_, rfl⟩
    have hJl : J.length ≤ 200000000000 := by rw [hJ]; have := HPL.out j; omega
    rw [← hJ]
    by_cases hjl : j < n.length
    · obtain ⟨a0, cap0, he, _, _, hx⟩ := H.out
      simp only [Value.slice.injEq, true_and] at he
      obtain ⟨rfl, rfl⟩ := he
      obtain ⟨b, off, rfl, hy⟩ := hx (by omega)
      obtain ⟨r, hr⟩ : ∃ r, n[j]? = some r := ⟨_, List.getElem?_eq_getElem hjl⟩
      obtain ⟨x, e0, hA⟩ := hy j r hr
      have hmem := List.mem_of_getElem? hr
      obtain ⟨hr16, hro⟩ := rdn_oids (HRD.out r hmem)
      have HRO := Lib.hid hro
      have HRF := Lib.hid (hf r hmem)
      obtain ⟨P, hP⟩ : ∃ P, P = if j = 0 then [] else J ++ [47] := ⟨_, rfl⟩
      have hnext : Lib.join ((n.map rdnKeyS).take (j + 1)) [47] = P ++ rdnKeyS r := by
        have := join_take 47 (ks := n.map rdnKeyS) (j := j) (k := rdnKeyS r) (by rw [List.getElem?_map, hr]; rfl)
        rw [this, hP, hJ]
      have hPl : P.length ≤ 200000000001 := by
        rw [hP]
        split
        · simp
        · rw [List.length_append]; simp; omega
      have HNX := Lib.hid hnext
      have HP := Lib.hid hP
      have HA := Lib.hid hA
      have HE0 := Lib.hid e0
      have HK2 := Lib.hid (show rdnKeyS r = Lib.join (keysS r) [43] from rfl)
      have hKl := keysS_len r
      have HNE := Lib.hid (fun c hc => keysS_next r c hc)
      have hkm : ∀ k ∈ keysS r, k.length ≤ 160001100 := fun k hk => by
        obtain ⟨p, hp, rfl⟩ := keysS_mem hk
        exact attrKey_len (hro p hp) (hf r hmem p hp)
      have HKM := Lib.hid hkm
      have HQL := Lib.hid (joinF_len 43 160001100 16 hkm (by omega))
      have r1 : (0 : Int) ≤ (j : Int) := by omega
      have r2 : (j : Int) < (n.length : Int) := by omega
      have hJ0 : j = 0 → J = [] := fun h => by rw [hJ, h]; simp [Lib.join]
      have HJ0 := Lib.hid hJ0
      clear hx hy hr hA hmem hro hP hnext hkm e0 hJ hg F hJ0
      obtain ⟨K, hK⟩ : ∃ K, K = keysS r := ⟨_, rfl⟩
      rw [← hK] at HK2 hKl HNE HKM HQL
      have hJs : (ByteArray.mk J.toArray).size = J.length := by simp [ByteArray.size]
      clear hK
      go_upto_region 5 with fail
      have hpos : j = 0 ∨ 0 < j := by omega
      rcases hpos with hj0 | hj0
      case' inl =>
        have q1 : decide ((0 : Int) < (j : Int)) = false := decide_eq_false (by omega)
        have q2 : decide (0 < j) = false := decide_eq_false (by omega)
        have hP0 : P = J := by rw [HP.out, if_pos hj0, HJ0.out hj0]
        clear HP HJ0 HPL hj0
        subst hP0
        go_upto_region 7 with fail
        clear q1 q2
      case' inr =>
        have q1 : (0 : Int) < (j : Int) := by omega
        have hP0 := HP.out
        rw [if_neg (by omega)] at hP0
        clear HP HJ0 HPL
        go_upto_region 7 with fail
        rw [show (Value.string ({ data := J.toArray } ++ { data := #[47] })) = str P from by rw [hP0]; exact congrArg Value.string (ba_cat _ _)]
        clear hP0 q1 hj0
      all_goals
        clear hJs hJl
        obtain ⟨wo, hwo⟩ : ∃ wo : World, wo = wr := ⟨_, rfl⟩
        obtain rfl := hwo
        go_wp2_with fail
        go_loopg [3, 5, 6] K.length (fun g o la an wr => ∃ c : Nat, g = K.length - c ∧ c ≤ K.length ∧ o = str (P ++ Lib.join (K.take c) [43]) ∧ la = str ((lastOf K c).getD []) ∧ an = .bool (lastOf K c).isSome ∧ Fr (fun _ => False) w wr)
        case atStart => exact ⟨0, rfl, Nat.zero_le _, by simp [Lib.join], rfl, rfl, HF.out⟩
        case round =>
          obtain ⟨c, hg, hcK, rfl, rfl, rfl, F⟩ := hrel
          have HG2 := Lib.hid hg
          have HF2 := Lib.hid F
          have hls := lastOf_isSome hcK
          have HLS := Lib.hid hls
          obtain ⟨lo, hlo⟩ : ∃ lo, lo = lastOf K c := ⟨_, rfl⟩
          have hN := HNE.out c hcK
          rw [← hlo] at hN HLS ⊢
          have HN2 := Lib.hid hN
          have HLO := Lib.hid hlo
          obtain ⟨Q, hQ⟩ : ∃ Q, Q = P ++ Lib.join (K.take c) [43] := ⟨_, rfl⟩
          have hQl : Q.length ≤ 300000000000 := by rw [hQ, List.length_append]; have := HQL.out c; omega
          rw [← hQ]
          have HQ := Lib.hid hQ
          obtain ⟨la, hla⟩ : ∃ la, la = lo.getD [] := ⟨_, rfl⟩
          obtain ⟨an, han⟩ : ∃ an, an = lo.isSome := ⟨_, rfl⟩
          rw [← hla, ← han]
          have HLA := Lib.hid hla
          have HAN := Lib.hid han
          clear hg F hls hN hlo hQ hla han
          obtain ⟨wo2, hwo⟩ : ∃ wo : World, wo = wr := ⟨_, rfl⟩
          obtain rfl := hwo
          go_wp2_with fail
          go_loopg [7, 8, 9] r.length (fun g nx fo k wr => ∃ i : Nat, g = r.length - i ∧ i ≤ r.length ∧ nx = str ((pickS lo (partKeys (r.take i))).getD []) ∧ fo = .bool (pickS lo (partKeys (r.take i))).isSome ∧ k = .int .i64 i ∧ Fr (fun _ => False) w wr)
          case atStart => exact ⟨0, rfl, Nat.zero_le _, rfl, rfl, rfl, HF2.out⟩
          case round =>
            obtain ⟨i, hg, hir, rfl, rfl, rfl, F⟩ := hrel
            have HG3 := Lib.hid hg
            have HF3 := Lib.hid F
            have e0 := F.cell HE0.out (fun h => h)
            obtain ⟨a1, c1, hxe, _, _, hx⟩ := HA.out.old F
            subst hxe
            obtain ⟨bo, hbo⟩ : ∃ bo, bo = pickS lo (partKeys (r.take i)) := ⟨_, rfl⟩
            rw [← hbo]
            have HBO := Lib.hid hbo
            obtain ⟨nx, hnx⟩ : ∃ nx, nx = bo.getD [] := ⟨_, rfl⟩
            obtain ⟨fo, hfo⟩ : ∃ fo, fo = bo.isSome := ⟨_, rfl⟩
            rw [← hnx, ← hfo]
            have HNX2 := Lib.hid hnx
            have HFO := Lib.hid hfo
            clear hg F hbo hnx hfo
            by_cases hil : i < r.length
            · obtain ⟨b1, o1, rfl, hy⟩ := hx (by omega)
              obtain ⟨p, hp⟩ : ∃ p, r[i]? = some p := ⟨_, List.getElem?_eq_getElem hil⟩
              obtain ⟨x, y, e1, e2, hpx, hpy⟩ := hy i p hp
              have hpm := List.mem_of_getElem? hp
              have HPK := Lib.hid (r14partKey_any x y p.o p.b wr hpx hpy (HRO.out p hpm) (HRF.out p hpm))
              have hst : pickS lo (partKeys (r.take (i + 1))) = pickStep lo bo (attrKeyS p.o p.b) := by rw [partKeys_snoc hp, pickS_snoc, HBO.out]
              have r3 : (0 : Int) ≤ (i : Int) := by omega
              have r4 : (i : Int) < (r.length : Int) := by omega
              obtain ⟨ax, cx, rfl, -⟩ := Ints.form hpx
              obtain ⟨ay, cy, rfl, -⟩ := Vals.form hpy
              have e1' : wr.cell? ⟨b1, o1 + i * 2, none⟩ = some (.slice ax p.o.length cx) := by rw [Nat.mul_comm]; exact e1
              have e2' : wr.cell? ⟨b1, o1 + i * 2 + 1, none⟩ = some (.slice ay p.b.length cy) := by rw [Nat.mul_comm]; exact e2
              obtain ⟨kp, hkp⟩ : ∃ kp, kp = attrKeyS p.o p.b := ⟨_, rfl⟩
              rw [← hkp] at HPK hst
              have HST := Lib.hid hst
              have hB : (an = false ∧ behindB lo kp = true) ∨ (an = true ∧ Op.bytesLess kp la = true ∧ behindB lo kp = false) ∨ (an = true ∧ Op.bytesLess kp la = false ∧ (kp == la) = true ∧ behindB lo kp = false) ∨ (an = true ∧ Op.bytesLess kp la = false ∧ (kp == la) = false ∧ behindB lo kp = true) := by
                rw [behind_eq, ← HLA.out, ← HAN.out, ← greater_of kp la]
                cases an <;> cases Op.bytesLess kp la <;> cases (kp == la) <;> simp
              have hT : (fo = false ∧ betterB bo kp = true) ∨ (fo = true ∧ Op.bytesLess kp nx = true ∧ betterB bo kp = true) ∨ (fo = true ∧ Op.bytesLess kp nx = false ∧ betterB bo kp = false) := by
                rw [better_eq, ← HNX2.out, ← HFO.out, ← less_of (x := kp)]
                cases fo <;> cases Op.bytesLess kp nx <;> simp
              have HB := Lib.hid hB
              have HT := Lib.hid hT
              clear hx hy hp hpx hpy hpm hkp e1 e2 hst hB hT
              go_wp2_with fail
              refine HPK.out.mono ?_
              rintro e w3 ⟨rfl, F3⟩
              have HF4 := Lib.hid (HF3.out.trans F3)
              clear HPK F3 e0 e1' e2'
              rcases HB.out with ⟨rfl, hb⟩ | ⟨rfl, d1, hb⟩ | ⟨rfl, d1, d2, hb⟩ | ⟨rfl, d1, d2, hb⟩ <;> rcases HT.out with ⟨rfl, ht⟩ | ⟨rfl, d3, ht⟩ | ⟨rfl, d3, ht⟩
              all_goals
                have HS2 := Lib.hid (And.intro hb ht)
                clear hb ht HB HT
                go_wp2_with fail
                go_roundg (r.length - (i + 1))
                case measure => rw [HG3.out]; omega
                case rel =>
                  have hst := HST.out
                  unfold pickStep at hst
                  rw [HS2.out.1, HS2.out.2] at hst
                  refine ⟨i + 1, rfl, by omega, ?_, ?_, by go_num, HF4.out⟩
                  · rw [hst]
                    first | rfl | (simp only [Bool.and_true, Bool.and_false, Bool.false_and, Bool.true_and, Bool.false_eq_true, if_true, if_false]; first | rfl | rw [HNX2.out])
                  · rw [hst]
                    first | rfl | (simp only [Bool.and_true, Bool.and_false, Bool.false_and, Bool.true_and, Bool.false_eq_true, if_true, if_false]; first | rfl | rw [HFO.out])
            · obtain rfl : i = r.length := by omega
              have hb := HBO.out
              rw [List.take_length, HN2.out] at hb
              clear hx
              rcases Nat.lt_or_ge c K.length with hcl | hcl
              · obtain ⟨m, hm2⟩ : ∃ m, K[c]? = some m := ⟨_, List.getElem?_eq_getElem hcl⟩
                have hml := HKM.out m (List.mem_of_getElem? hm2)
                have hjt := join_take 43 hm2
                rw [hm2] at hb
                have hn2 := HNX2.out
                have hf2 := HFO.out
                rw [hb] at hn2 hf2
                have hn3 : nx = m := hn2
                have hf3 : fo = true := hf2
                subst hn3; subst hf3
                have hlast : lastOf K (c + 1) = some nx := by rw [lastOf_succ]; exact hm2
                have HLT := Lib.hid hlast
                have hms : (ByteArray.mk nx.toArray).size = nx.length := by simp [ByteArray.size]
                have hQs : (ByteArray.mk Q.toArray).size = Q.length := by simp [ByteArray.size]
                have HJT := Lib.hid hjt
                clear hb hn2 hf2 hm2 hlast hjt
                by_cases hc0 : c = 0
                · have ha0 : an = false := by rw [HAN.out, HLS.out, hc0]; rfl
                  have hjt := HJT.out
                  rw [if_pos hc0] at hjt
                  have hQP : Q = P := by rw [HQ.out, hc0]; simp [Lib.join]
                  have HJ2 := Lib.hid hjt
                  have HQP := Lib.hid hQP
                  subst ha0
                  clear hjt hQP hc0
                  go_wp2_with fail
                  go_roundg (K.length - (c + 1))
                  case measure => rw [HG2.out]; omega
                  case rel => exact ⟨c + 1, rfl, by omega, by rw [HJ2.out, HQP.out]; exact congrArg Value.string (ba_cat _ _), by rw [HLT.out]; rfl, by rw [HLT.out]; rfl, HF3.out⟩
                · have ha0 : an = true := by rw [HAN.out, HLS.out]; exact decide_eq_true hc0
                  have hjt := HJT.out
                  rw [if_neg hc0] at hjt
                  have HJ2 := Lib.hid hjt
                  subst ha0
                  clear hjt hc0
                  go_wp2_with fail
                  go_roundg (K.length - (c + 1))
                  case measure => rw [HG2.out]; omega
                  case rel => exact ⟨c + 1, rfl, by omega, by rw [HJ2.out, ← List.append_assoc, ← List.append_assoc, ← HQ.out]; exact congrArg Value.string (by rw [ba_cat, ba_cat]), by rw [HLT.out]; rfl, by rw [HLT.out]; rfl, HF3.out⟩
              · rw [List.getElem?_eq_none hcl] at hb
                have hf2 := HFO.out
                rw [hb] at hf2
                have hf3 : fo = false := hf2
                subst hf3
                have hc2 : c = K.length := by omega
                have hres : Lib.join ((n.map rdnKeyS).take (j + 1)) [47] = Q := by rw [HNX.out, HK2.out, HQ.out, hc2, List.take_length]
                have HRES := Lib.hid hres
                clear hb hf2 hc2 hres
                go_wp2_with fail
                go_roundg (n.length - (j + 1))
                case measure => rw [HG.out]; omega
                case rel => exact ⟨j + 1, rfl, by omega, by rw [HRES.out], by go_num, HF3.out⟩
    · obtain rfl : j = n.length := by omega
      have hres : nameKeyS n = J := by rw [HNK.out, hJ]
      have HRES := Lib.hid hres
      clear hJ hres
      go_wp2_with fail
      go_ret
      exact ⟨by rw [HRES.out]; rfl, HF.out⟩
end Go.Proofs.YtacekpdjapgfcaaGreatDoor

namespace Go.Proofs.YtacekpdjapgfcaaGreatDoor
open Go Go.RowKit Go.Q
set_option linter.unusedSimpArgs false
theorem digit_itoa {k : Int} (h0 : 0 ≤ k) (h8 : k ≤ 8) {x : UInt8} (hx : (x.toNat : Int) = 48 + k) : Lib.itoa k = [x] := by
  unfold Lib.itoa
  rw [if_neg (by omega), Lib.decDigits_one (i := k.toNat) (by omega)]
  refine congrArg (fun y => [y]) (UInt8.toNat_inj.1 ?_)
  rw [Go.Q.u8 _ (by omega)]
  omega
set_option maxRecDepth 20000 in
set_option maxHeartbeats 4000000 in
theorem r15Key_any (u : Value) (g : Gen) (w : World) (h : GenAt w u g) (hf : fewG g) (hok : genOk g = true) :
    Calls Tryz.prog 45 #[u] w fun e w' => e = .returned (str (genKeyS g)) ∧ Fr (fun _ => False) w w' := by
  obtain ⟨ab, cb, an, cn, rfl, hb, hn⟩ := h.form
  obtain ⟨k0, k8⟩ := gen_kind hok
  have h4 : g.k = 4 → nameOk g.n = true := fun h2 => by
    unfold genOk at hok
    rw [if_pos h2, Bool.and_eq_true] at hok
    exact hok.2
  obtain ⟨x, hx⟩ : ∃ x : UInt8, (x.toNat : Int) = 48 + g.k := ⟨UInt8.ofNat (48 + g.k.toNat), by rw [Go.Q.u8 _ (by omega)]; omega⟩
  have hit := digit_itoa k0 k8 hx
  have hml := genMean_len hf h4
  obtain ⟨k, b, n⟩ := g
  obtain ⟨f1, f2⟩ := hf
  simp only at hb hn f1 f2 h4 hx hit k0 k8 ⊢
  have F0 : Fr (fun _ => False) w (w.alloc (.cells #[.int .i64 k, .slice ab b.length cb, .slice an n.length cn] 46)) := (Fr.refl w).alloc _
  have B := Blk.new w 46 #[.int .i64 k, .slice ab b.length cb, .slice an n.length cn]
  obtain ⟨z, hz⟩ : ∃ z, z = w.heap.size := ⟨_, rfl⟩
  rw [← hz] at B
  have HZ := Lib.hid hz
  have HB := Lib.hid (hb.old F0)
  have HN := Lib.hid (hn.old F0)
  have HF0 := Lib.hid F0
  have HF2 := Lib.hid f2
  have H4 := Lib.hid h4
  have hxn : x.toNat < 256 := x.toNat_lt
  have hg : genKeyS ⟨k, b, n⟩ = [x] ++ (if k = 4 then nameKeyS n else if k = 2 then (match hostS b with | some h => h | none => 35 :: hexS b) else if k = 1 then mailS b else hexS b) := by rw [← hit]; rfl
  have HG := Lib.hid hg
  have hm2 : (if k = 4 then nameKeyS n else if k = 2 then (match hostS b with | some h => h | none => 35 :: hexS b) else if k = 1 then mailS b else hexS b).length ≤ 1000000000000 := hml
  have HML := Lib.hid hm2
  obtain ⟨xn, hxe⟩ : ∃ xn, xn = x.toNat := ⟨_, rfl⟩
  rw [← hxe] at hx hxn
  have hw1 : wrap64 (48 + k) = (xn : Int) := by unfold wrap64; omega
  have hw2 : IntKind.u8.wrap (xn : Int) = (xn : Int) := by simp [IntKind.wrap, IntKind.signed, IntKind.bits]; omega
  have HXE := Lib.hid hxe
  have HCV := Lib.hid (fun W : World => str_of (bytes_marked W #[.int .u8 (48 + k)] (0, 0) [x] (by rw [← hx, hxe]; rfl) 1 rfl (by decide)))
  clear h hb hn hz F0 f2 h4 hg hml hm2 hit hxe hok
  go_enter Tryz.func45, Tryz.ntmps45
  go_upto_region 1 with fail
  rw [← HZ.out]
  generalize (w.alloc (.cells #[.int .i64 k, .slice ab b.length cb, .slice an n.length cn] 46)) = w0 at *
  have e0 := B.cell 0
  have e1 := B.cell 1
  have e2 := B.cell 2
  simp only [List.getElem?_toArray, List.getElem?_cons_succ, List.getElem?_cons_zero] at e0 e1 e2
  have hcv := HCV.out w0
  have F1 : Fr (fun _ => False) w0 (w0.alloc (.cells #[.int .u8 (48 + k)] 5)) := (Fr.refl w0).alloc _
  have B1 := B.fr F1 (fun h => h)
  have HB1 := Lib.hid (HB.out.old F1)
  have HN1 := Lib.hid (HN.out.old F1)
  have HF1 := Lib.hid (HF0.out.trans F1)
  clear F1 HB HN HF0 B
  go_upto_region 2 with fail
  generalize (w0.alloc (.cells #[.int .u8 (48 + k)] 5)) = w1 at *
  clear e0 e1 e2 hcv HCV hw1 hw2 hx hxn HXE
  have e0 := B1.cell 0
  have e1 := B1.cell 1
  have e2 := B1.cell 2
  simp only [List.getElem?_toArray, List.getElem?_cons_succ, List.getElem?_cons_zero] at e0 e1 e2
  have HB2 := Lib.hid B1
  have hk : k = 4 ∨ k = 2 ∨ k = 1 ∨ ((k == 4) = false ∧ (k == 2) = false ∧ (k == 1) = false) := by
    simp only [beq_eq_false_iff_ne]
    omega
  have x1 : (ByteArray.mk [x].toArray).size = 1 := rfl
  rcases hk with rfl | rfl | rfl | ⟨k4, k2, k1⟩
  · rw [if_pos rfl] at HG HML
    have z1 : (ByteArray.mk (nameKeyS n).toArray).size = (nameKeyS n).length := str_size _
    have hl := HML.out
    have z2 : ¬ 9223372036854775807 < 1 + (nameKeyS n).length := by omega
    have HO := Lib.hid (r14Key_any _ n w1 HN1.out HF2.out (H4.out rfl))
    generalize nameKeyS n = me at *
    go_wp2_with fail
    refine HO.out.mono ?_
    rintro e w2 ⟨rfl, F2⟩
    go_wp2_with fail
    go_ret
    exact ⟨by rw [HG.out]; exact congrArg (fun x : ByteArray => Ending.returned (.string x)) (ba_cat [x] me), HF1.out.trans F2⟩
  · rw [if_neg (by decide), if_pos rfl] at HG HML
    have hsr := str_of HB1.out
    have HO := Lib.hid (r13Host_any b w1 (by omega))
    cases hh : hostS b with
    | some ho =>
      rw [hh] at HG HML HO
      have z1 : (ByteArray.mk ho.toArray).size = ho.length := str_size _
      have hl : ho.length ≤ 1000000000000 := HML.out
      have z2 : ¬ 9223372036854775807 < 1 + ho.length := by omega
      have HR := Lib.hid (show rhostV (some ho) = .tuple #[str ho, .bool true] from rfl)
      rw [HR.out] at HO
      go_wp2_with fail
      refine HO.out.mono ?_
      rintro e w2 ⟨rfl, F2⟩
      go_wp2_with fail
      go_ret
      exact ⟨by rw [HG.out]; exact congrArg (fun x : ByteArray => Ending.returned (.string x)) (ba_cat [x] ho), HF1.out.trans F2⟩
    | none =>
      rw [hh] at HG HML HO
      have HR := Lib.hid (show rhostV none = .tuple #[str [], .bool false] from rfl)
      rw [HR.out] at HO
      have hxl := hexS_len b
      have HX := Lib.hid (fun w1 (h : Bytes w1 (.slice ab b.length cb) b) => r01Hex_any _ b w1 h (by omega))
      have z1 : (ByteArray.mk (hexS b).toArray).size = (hexS b).length := str_size _
      generalize hexS b = hb at *
      have z2 : ¬ 9223372036854775807 < 2 + hb.length := by omega
      go_wp2_with fail
      refine HO.out.mono ?_
      rintro e w2 ⟨rfl, F2⟩
      have HX2 := Lib.hid (HX.out w2 (HB1.out.old F2))
      have HF2 := Lib.hid (HF1.out.trans F2)
      have B2 := HB2.out.fr F2 (fun h => h)
      clear e0 e1 e2 hsr F2 HX HO
      have e0 := B2.cell 0
      have e1 := B2.cell 1
      simp only [List.getElem?_toArray, List.getElem?_cons_succ, List.getElem?_cons_zero] at e0 e1
      go_wp2_with fail
      refine HX2.out.mono ?_
      rintro e w3 ⟨rfl, F3⟩
      go_wp2_with fail
      go_ret
      refine ⟨?_, HF2.out.trans F3⟩
      rw [HG.out]
      refine congrArg (fun x : ByteArray => Ending.returned (.string x)) ?_
      exact ba_cat [x, 35] hb
  · rw [if_neg (by decide), if_neg (by decide), if_pos rfl] at HG HML
    obtain ⟨_, _, he, hc1, hm1, hxx⟩ := Vals.form HB1.out
    simp only [Value.slice.injEq] at he
    obtain ⟨rfl, -, rfl⟩ := he
    unfold maxLen at hm1
    have HMM := Lib.hid (show mailS b = if lastS 64 b < 0 then b else b.take (lastS 64 b).toNat ++ lowerS (b.drop (lastS 64 b).toNat) from rfl)
    have HLS := Lib.hid (show lastS 64 b = lastTo 64 b b.length from rfl)
    have HXX := Lib.hid hxx
    clear hxx
    go_wp2_with fail
    go_loopg [6, 7] b.length (fun g u i wr => ∃ j : Nat, g = b.length - j ∧ j ≤ b.length ∧ u = .int .i64 (lastTo 64 b j) ∧ i = .int .i64 j ∧ wr = w1)
    case atStart => exact ⟨0, rfl, Nat.zero_le _, rfl, rfl, rfl⟩
    case round =>
      obtain ⟨j, hg, hj, rfl, rfl, rfl⟩ := hrel
      have HGG := Lib.hid hg
      clear hg
      by_cases hjl : j < b.length
      · obtain ⟨y, hy⟩ : ∃ y, b[j]? = some y := ⟨_, List.getElem?_eq_getElem hjl⟩
        obtain ⟨b1, o1, rfl, hyy⟩ := HXX.out (by omega)
        have ey := hyy j y hy
        have r1 : (0 : Int) ≤ (j : Int) := by omega
        have r2 : (j : Int) < (b.length : Int) := by omega
        have hlt : lastTo 64 b (j + 1) = if b[j]? = some 64 then (j : Int) else lastTo 64 b j := rfl
        rw [hy] at hlt
        by_cases h64 : y = 64
        · subst h64
          rw [if_pos rfl] at hlt
          have HLT := Lib.hid hlt
          clear hlt hyy
          go_wp2_with fail
          go_roundg (b.length - (j + 1))
          case measure => rw [HGG.out]; omega
          case rel => exact ⟨j + 1, rfl, by omega, by rw [HLT.out], by go_num, rfl⟩
        · rw [if_neg (fun e => h64 (Option.some.inj e))] at hlt
          have HLT := Lib.hid hlt
          have q1 : ((y.toNat : Int) == 64) = false := beq_eq_false_iff_ne.2 (fun e => h64 (UInt8.toNat_inj.1 (by show y.toNat = 64; omega)))
          clear hlt hyy h64
          go_wp2_with fail
          go_roundg (b.length - (j + 1))
          case measure => rw [HGG.out]; omega
          case rel => exact ⟨j + 1, rfl, by omega, by rw [HLT.out], by go_num, rfl⟩
      · obtain rfl : j = b.length := by omega
        have hlo := lastTo_lt 64 b b.length
        rw [← HLS.out] at hlo ⊢
        generalize lastS 64 b = i at *
        obtain ⟨i0, i1, i2⟩ := hlo
        have hsr := str_of HB1.out
        have z1 : (ByteArray.mk b.toArray).size = b.length := str_size _
        have z2 : ¬ 9223372036854775807 < 1 + b.length := by omega
        by_cases hi : i < 0
        · rw [if_pos hi] at HMM
          rw [HMM.out] at HG
          go_wp2_with fail
          go_ret
          exact ⟨by rw [HG.out]; exact congrArg (fun x : ByteArray => Ending.returned (.string x)) (ba_cat [x] b), HF1.out⟩
        · rw [if_neg hi] at HMM
          obtain ⟨n1, rfl⟩ : ∃ n1 : Nat, i = n1 := ⟨i.toNat, by omega⟩
          rw [HMM.out, Int.toNat_natCast] at HG
          obtain ⟨A, hrs, hrb⟩ := bytes_rest HB1.out n1 (by omega)
          have FD : Fr (fun _ => False) wr wr.drew := (Fr.refl wr).drew
          have HCA := Lib.hid ((Vals.cut HB1.out n1 n1 (by omega)).old FD)
          have HCB := Lib.hid (hrb _ (HB1.out.old FD))
          have hpl : (b.take n1).length = n1 := by rw [List.length_take]; omega
          have hql : (b.drop n1).length = b.length - n1 := List.length_drop
          have hll : (lowerS (b.drop n1)).length = b.length - n1 := by rw [lower_len, hql]
          have HLO := Lib.hid (fun W => r13Lower_any (b.drop n1) W (by omega))
          have HQL := Lib.hid hql
          generalize b.take n1 = pp at *
          generalize b.drop n1 = qq at *
          generalize lowerS qq = lo at *
          have y1 : (ByteArray.mk pp.toArray).size = n1 := by rw [str_size, hpl]
          have y2 : (ByteArray.mk lo.toArray).size = b.length - n1 := by rw [str_size, hll]
          have y3 : ¬ 9223372036854775807 < 1 + n1 := by omega
          have y4 : ¬ 9223372036854775807 < 1 + n1 + (b.length - n1) := by omega
          have hc1 : ∀ W, Fr (fun _ => False) wr.drew W → (Go.convert 23 9 (.slice ab n1 cb)).run Tryz.prog W = .ok (str pp) W := fun W F => str_of (HCA.out.old F)
          have hc2 : ∀ W, Fr (fun _ => False) wr.drew W → (Go.convert 23 9 (.slice A (b.length - n1) (cb - n1))).run Tryz.prog W = .ok (str qq) W := fun W F => by
            have h := HCB.out.old F
            rw [← HQL.out]
            exact str_of (by rw [HQL.out]; exact h)
          have e1D := FD.cell e1 (fun h => h)
          have G : Fr (fun _ => False) wr.drew wr.drew := Fr.refl _
          have HFD := Lib.hid FD
          have r1 : (0 : Int) ≤ (n1 : Int) := by omega
          have r2 : (n1 : Int) ≤ (cb : Int) := by omega
          have r3 : (n1 : Int) ≤ (b.length : Int) := by omega
          clear hsr z1 z2 hpl hql hll FD hrb HMM HLS
          go_upto_region 19 with fail
          go_region_held3 (fun w' => Fr (fun _ => False) wr.drew w' ∧ w'.cell? ⟨z, 1, none⟩ = some (.slice ab b.length cb)) (exact ⟨G, e1D⟩) (first
            | (go_at_call 99; refine (HLO.out _).mono ?_; rintro e w' ⟨rfl, F⟩; replace e1D := F.cell e1D (fun h => h); replace G := G.trans F; clear F))
          all_goals
            have HG9 := Lib.hid ((HF1.out.trans HFD.out).trans G)
            go_wp2_with fail
            go_ret
            refine ⟨?_, HG9.out⟩
            rw [HG.out]
            refine congrArg (fun x : ByteArray => Ending.returned (.string x)) ?_
            have h1 := ba_cat [x] pp
            have h2 := ba_cat ([x] ++ pp) lo
            rw [← h1, List.append_assoc] at h2
            exact h2
  · rw [if_neg (by simpa using k4), if_neg (by simpa using k2), if_neg (by simpa using k1)] at HG HML
    have z1 : (ByteArray.mk (hexS b).toArray).size = (hexS b).length := str_size _
    have hxl := hexS_len b
    have HO := Lib.hid (r01Hex_any _ b w1 HB1.out (by omega))
    generalize hexS b = hb at *
    have z2 : ¬ 9223372036854775807 < 1 + hb.length := by omega
    go_wp2_with fail
    refine HO.out.mono ?_
    rintro e w2 ⟨rfl, F2⟩
    go_wp2_with fail
    go_ret
    exact ⟨by rw [HG.out]; exact congrArg (fun x : ByteArray => Ending.returned (.string x)) (ba_cat [x] hb), HF1.out.trans F2⟩
end Go.Proofs.YtacekpdjapgfcaaGreatDoor

namespace Go.Proofs.YtacekpdjapgfcaaGreatDoor
open Go Go.RowKit Go.Q
set_option linter.unusedSimpArgs false
set_option maxRecDepth 20000 in
set_option maxHeartbeats 4000000 in
theorem r15Same_any (u v : Value) (g p : Gen) (w : World) (h : GenAt w u g) (hp : GenAt w v p) (hf : fewG g) (hfp : fewG p) :
    Calls Tryz.prog 32 #[u, v] w fun e w' => e = .returned (.bool (genSameS g p)) ∧ Fr (fun _ => False) w w' := by
  obtain ⟨ab, cb, an, cn, rfl, -, -⟩ := h.form
  obtain ⟨ab2, cb2, an2, cn2, rfl, -, -⟩ := hp.form
  have HGA := Lib.hid h
  have HPA := Lib.hid hp
  have HW1 := Lib.hid hf
  have HW2 := Lib.hid hfp
  obtain ⟨z, hz⟩ : ∃ z, z = w.heap.size := ⟨_, rfl⟩
  have B := (Blk.new w 46 #[.int .i64 g.k, .slice ab g.b.length cb, .slice an g.n.length cn]).alloc (.cells #[.int .i64 p.k, .slice ab2 p.b.length cb2, .slice an2 p.n.length cn2] 46)
  have D := Blk.new (w.alloc (.cells #[.int .i64 g.k, .slice ab g.b.length cb, .slice an g.n.length cn] 46)) 46 #[.int .i64 p.k, .slice ab2 p.b.length cb2, .slice an2 p.n.length cn2]
  have F0 : Fr (fun _ => False) w ((w.alloc (.cells #[.int .i64 g.k, .slice ab g.b.length cb, .slice an g.n.length cn] 46)).alloc (.cells #[.int .i64 p.k, .slice ab2 p.b.length cb2, .slice an2 p.n.length cn2] 46)) := ((Fr.refl w).alloc _).alloc _
  rw [World.size_alloc, ← hz] at D
  rw [← hz] at B
  have HZ := Lib.hid hz
  have HF0 := Lib.hid F0
  have hs : genSameS g p = (genOk g && genOk p && decide (genKeyS g = genKeyS p)) := rfl
  have HS := Lib.hid hs
  have HG1 := Lib.hid (fun W (F : Fr (fun _ => False) w W) => r15Right_any _ g W (HGA.out.old F) HW1.out)
  have HP1 := Lib.hid (fun W (F : Fr (fun _ => False) w W) => r15Right_any _ p W (HPA.out.old F) HW2.out)
  have HGK := Lib.hid (fun (hok : genOk g = true) W (F : Fr (fun _ => False) w W) => r15Key_any _ g W (HGA.out.old F) HW1.out hok)
  have HPK := Lib.hid (fun (hok : genOk p = true) W (F : Fr (fun _ => False) w W) => r15Key_any _ p W (HPA.out.old F) HW2.out hok)
  have hcase : (genOk g = false) ∨ (genOk g = true ∧ genOk p = false) ∨ (genOk g = true ∧ genOk p = true) := by
    cases genOk g <;> cases genOk p <;> simp
  clear h hp hf hfp hz F0 hs HGA HPA HW1 HW2
  go_enter Tryz.func32, Tryz.ntmps32
  go_upto_region 1 with fail
  rw [← HZ.out]
  generalize ((w.alloc (.cells #[.int .i64 g.k, .slice ab g.b.length cb, .slice an g.n.length cn] 46)).alloc (.cells #[.int .i64 p.k, .slice ab2 p.b.length cb2, .slice an2 p.n.length cn2] 46)) = w0 at *
  replace B := B.drew
  replace D := D.drew
  have G : Fr (fun _ => False) w w0.drew := HF0.out.drew
  have HG0 := Lib.hid G
  clear HZ HF0
  rcases hcase with g1 | ⟨g1, p1⟩ | ⟨g1, p1⟩
  case inr.inr =>
    have HS2 := Lib.hid (show genSameS g p = decide (genKeyS g = genKeyS p) from HS.out.trans (by rw [g1, p1]; simp))
    have HGK1 := Lib.hid (HGK.out g1)
    have HPK1 := Lib.hid (HPK.out p1)
    rw [g1] at HG1
    rw [p1] at HP1
    clear HS HGK HPK g1 p1
    generalize genKeyS g = kg at *
    generalize genKeyS p = kp at *
    by_cases hkk : kg = kp
    case' pos =>
      subst hkk
      have q1 : (kg == kg) = true := by simp
      rw [decide_eq_true rfl] at HS2
    case' neg =>
      have q1 : (kg == kp) = false := by simpa using hkk
      rw [decide_eq_false hkk] at HS2
      clear hkk
    all_goals
      go_region_held3 (fun w' => (∀ j, w'.cell? ⟨z, j, none⟩ = (#[.int .i64 g.k, .slice ab g.b.length cb, .slice an g.n.length cn] : Array Value)[j]?) ∧ ∀ j, w'.cell? ⟨z + 1, j, none⟩ = (#[.int .i64 p.k, .slice ab2 p.b.length cb2, .slice an2 p.n.length cn2] : Array Value)[j]?) (exact ⟨B.cell, D.cell⟩) (first
        | (go_at_call 37; with_reducible refine (HG1.out _ G).mono ?_; rintro e w' ⟨rfl, F⟩; replace B := B.fr F (fun h => h); replace D := D.fr F (fun h => h); replace G := G.trans F; clear F HG1)
        | (go_at_call 37; with_reducible refine (HP1.out _ G).mono ?_; rintro e w' ⟨rfl, F⟩; replace B := B.fr F (fun h => h); replace D := D.fr F (fun h => h); replace G := G.trans F; clear F HP1)
        | (go_at_call 45; with_reducible refine (HGK1.out _ G).mono ?_; rintro e w' ⟨rfl, F⟩; replace B := B.fr F (fun h => h); replace D := D.fr F (fun h => h); replace G := G.trans F; clear F)
        | (go_at_call 45; with_reducible refine (HPK1.out _ G).mono ?_; rintro e w' ⟨rfl, F⟩; replace B := B.fr F (fun h => h); replace D := D.fr F (fun h => h); replace G := G.trans F; clear F))
      all_goals
        go_wp2_with fail
        go_ret
        exact ⟨by rw [HS2.out]; rfl, G⟩
  case inl =>
    have HS2 := Lib.hid (show genSameS g p = false from HS.out.trans (by rw [g1]; rfl))
    rw [g1] at HG1
    clear HS HGK HPK HP1 g1
    have e0 := B.cell 0
    have e1 := B.cell 1
    have e2 := B.cell 2
    have d0 := D.cell 0
    have d1 := D.cell 1
    have d2 := D.cell 2
    simp only [List.getElem?_toArray, List.getElem?_cons_succ, List.getElem?_cons_zero] at e0 e1 e2 d0 d1 d2
    go_region_law (first
      | (go_simp; go_at_call 37; with_reducible refine (HG1.out _ G).mono ?_; rintro e w' ⟨rfl, F⟩; replace d0 := F.cell d0 (fun h => h); replace d1 := F.cell d1 (fun h => h); replace d2 := F.cell d2 (fun h => h); replace G := G.trans F; clear F HG1))
    all_goals
      go_wp2_with fail
      go_ret
      exact ⟨by rw [HS2.out]; rfl, G⟩
  case inr.inl =>
    have HS2 := Lib.hid (show genSameS g p = false from HS.out.trans (by rw [g1, p1]; rfl))
    rw [g1] at HG1
    rw [p1] at HP1
    clear HS HGK HPK g1 p1
    have e0 := B.cell 0
    have e1 := B.cell 1
    have e2 := B.cell 2
    have d0 := D.cell 0
    have d1 := D.cell 1
    have d2 := D.cell 2
    simp only [List.getElem?_toArray, List.getElem?_cons_succ, List.getElem?_cons_zero] at e0 e1 e2 d0 d1 d2
    go_region_law (first
      | (go_simp; go_at_call 37; with_reducible refine (HG1.out _ G).mono ?_; rintro e w' ⟨rfl, F⟩; replace d0 := F.cell d0 (fun h => h); replace d1 := F.cell d1 (fun h => h); replace d2 := F.cell d2 (fun h => h); replace G := G.trans F; clear F HG1)
      | (go_simp; go_at_call 37; with_reducible refine (HP1.out _ G).mono ?_; rintro e w' ⟨rfl, F⟩; replace G := G.trans F; clear F HP1))
    all_goals
      go_wp2_with fail
      go_ret
      exact ⟨by rw [HS2.out]; rfl, G⟩
end Go.Proofs.YtacekpdjapgfcaaGreatDoor

namespace Go.Q
open Go Go.RowKit
theorem meet_hit {a b : List Gen} {x y : Gen} (hx : x ∈ a) (hy : y ∈ b) (h : genSameS x y = true) : genMeetS a b = true :=
  List.any_eq_true.2 ⟨x, hx, List.any_eq_true.2 ⟨y, hy, h⟩⟩
theorem meet_miss {a b : List Gen} (h : ∀ x ∈ a, ∀ y ∈ b, genSameS x y = false) : genMeetS a b = false := by
  unfold genMeetS
  rw [List.any_eq_false]
  intro x hx
  rw [Bool.not_eq_true, List.any_eq_false]
  intro y hy
  rw [h x hx y hy]
  decide
theorem met_next {α : Type} {p : α → Prop} {l : List α} {j : Nat} {x : α} (hx : l[j]? = some x) (h : ∀ y ∈ l.take j, p y) (hp : p x) : ∀ y ∈ l.take (j + 1), p y := fun y hy => by
  rw [List.take_add_one, hx] at hy
  rcases List.mem_append.1 hy with h1 | h1
  · exact h y h1
  · simp at h1
    rw [h1]
    exact hp
end Go.Q
namespace Go.Proofs.YtacekpdjapgfcaaGreatDoor
open Go Go.RowKit Go.Q
set_option linter.unusedSimpArgs false
set_option maxRecDepth 20000 in
set_option maxHeartbeats 4000000 in
theorem r15Meet_any (v u : Value) (a b : List Gen) (w : World) (ha : Gens w v a) (hb : Gens w u b) (hfa : ∀ g ∈ a, fewG g) (hfb : ∀ g ∈ b, fewG g) :
    Calls Tryz.prog 34 #[v, u] w fun e w' => e = .returned (.bool (genMeetS a b)) ∧ Fr (fun _ => False) w w' := by
  have HA := Lib.hid ha
  have HB := Lib.hid hb
  have HFA := Lib.hid hfa
  have HFB := Lib.hid hfb
  obtain ⟨a0, cap0, rfl, hc, hm, -⟩ := ha
  obtain ⟨a1, cap1, rfl, hc1, hm1, -⟩ := hb
  have hm2 : a.length ≤ 9223372036854775807 := by unfold maxLen at hm; omega
  have hm3 : b.length ≤ 9223372036854775807 := by unfold maxLen at hm1; omega
  clear hc hm hc1 hm1
  clear hfa hfb
  go_enter Tryz.func34, Tryz.ntmps34
  go_wp2_with fail
  go_loopg [5] a.length (fun g s wr => ∃ i : Nat, g = a.length - i ∧ i ≤ a.length ∧ s = .int .i64 i ∧ Hid (∀ x ∈ a.take i, ∀ y ∈ b, genSameS x y = false) ∧ Fr (fun _ => False) w wr)
  case atStart => exact ⟨0, rfl, Nat.zero_le _, rfl, Lib.hid (by simp), Fr.refl _⟩
  case round =>
    obtain ⟨i, hg, hi, rfl, HN, F⟩ := hrel
    have HG := Lib.hid hg
    have HF := Lib.hid F
    clear hg F
    by_cases hil : i < a.length
    · obtain ⟨x, hx⟩ : ∃ x, a[i]? = some x := ⟨_, List.getElem?_eq_getElem hil⟩
      have HX := Lib.hid hx
      have r1 : (0 : Int) ≤ (i : Int) := by omega
      have r2 : (i : Int) < (a.length : Int) := by omega
      obtain ⟨wo, hwo⟩ : ∃ wo : World, wo = wr := ⟨_, rfl⟩
      obtain rfl := hwo
      have HFO := HF
      clear hx HF
      go_wp2_with fail
      go_loopg [6] b.length (fun g s wr => ∃ j : Nat, g = b.length - j ∧ j ≤ b.length ∧ s = .int .i64 j ∧ Hid (∀ y ∈ b.take j, genSameS x y = false) ∧ Fr (fun _ => False) w wr)
      case atStart => exact ⟨0, rfl, Nat.zero_le _, rfl, Lib.hid (by simp), HFO.out⟩
      case round =>
        obtain ⟨j, hg, hj, rfl, HM, F⟩ := hrel
        have HG2 := Lib.hid hg
        have HF := Lib.hid F
        clear hg
        by_cases hjl : j < b.length
        · obtain ⟨y, hy⟩ : ∃ y, b[j]? = some y := ⟨_, List.getElem?_eq_getElem hjl⟩
          have HY := Lib.hid hy
          obtain ⟨b1, o1, ab, cb, an, cn, rfl, -, hgx, e0, e1, e2⟩ := HA.out.get HX.out
          obtain ⟨b2, o2, ab2, cb2, an2, cn2, rfl, -, hgy, d0, d1, d2⟩ := HB.out.get hy
          have HO := Lib.hid (fun W (F2 : Fr (fun _ => False) w W) => r15Same_any _ _ x y W (hgx.old F2) (hgy.old F2) (HFA.out x (List.mem_of_getElem? HX.out)) (HFB.out y (List.mem_of_getElem? hy)))
          replace e0 := F.cell e0 (fun h => h)
          replace e1 := F.cell e1 (fun h => h)
          replace e2 := F.cell e2 (fun h => h)
          replace d0 := F.cell d0 (fun h => h)
          replace d1 := F.cell d1 (fun h => h)
          replace d2 := F.cell d2 (fun h => h)
          have r3 : (0 : Int) ≤ (j : Int) := by omega
          have r4 : (j : Int) < (b.length : Int) := by omega
          clear hy hgx hgy F
          go_upto_region 7 with fail
          have G : Fr (fun _ => False) w wr.drew := HF.out.drew
          go_region_law (go_simp; go_at_call 32; refine (HO.out _ G).mono ?_; rintro e w' ⟨rfl, F2⟩)
          all_goals
            have HF2 := Lib.hid (G.trans F2)
            clear F2 G e0 e1 e2 d0 d1 d2 HO
            cases hs : genSameS x y with
            | true =>
              have HR := Lib.hid (meet_hit (List.mem_of_getElem? HX.out) (List.mem_of_getElem? HY.out) hs)
              clear hs
              go_wp2_with fail
              go_ret
              exact ⟨by rw [HR.out]; rfl, HF2.out⟩
            | false =>
              have HM2 := Lib.hid (met_next (p := fun y => genSameS x y = false) HY.out HM.out hs)
              clear hs
              go_wp2_with fail
              go_roundg (b.length - (j + 1))
              case measure => rw [HG2.out]; omega
              case rel => exact ⟨j + 1, rfl, by omega, by go_num, HM2, HF2.out⟩
        · have hall := HM.out
          rw [List.take_of_length_le (by omega)] at hall
          have HN2 := Lib.hid (met_next (p := fun x => ∀ y ∈ b, genSameS x y = false) HX.out HN.out hall)
          have HF2 := HF
          clear hall F
          go_wp2_with fail
          go_roundg (a.length - (i + 1))
          case measure => rw [HG.out]; omega
          case rel => exact ⟨i + 1, rfl, by omega, by go_num, HN2, HF2.out⟩
    · have hall := HN.out
      rw [List.take_of_length_le (by omega)] at hall
      have HR := Lib.hid (meet_miss hall)
      clear hall
      go_wp2_with fail
      go_ret
      exact ⟨by rw [HR.out]; rfl, HF.out⟩
end Go.Proofs.YtacekpdjapgfcaaGreatDoor

namespace Go.Proofs.YtacekpdjapgfcaaGreatDoor
open Go Go.RowKit Go.Q
set_option linter.unusedSimpArgs false
set_option maxRecDepth 100000 in
set_option maxHeartbeats 8000000 in
theorem gmWalk_any (v u : Value) (a0 b0 : List Gen) (w : World) (ha : Gens w v a0) (hb : Gens w u b0) (hE : Env w) :
    Calls Tryz.prog 5 #[v, u] w fun e w' => e = .returned (.bool true) ∧ Fr (fun _ => False) w w' := by
  have HE := Lib.hid hE
  have HO := Lib.hid (lawFew_any v a0 w ha)
  have HO2 := Lib.hid (fun W (F : Fr (fun _ => False) w W) => lawFew_any u b0 W (hb.old F))
  obtain ⟨a, hga⟩ : ∃ a, a = fewS a0 := ⟨_, rfl⟩
  obtain ⟨b, hgb⟩ : ∃ b, b = fewS b0 := ⟨_, rfl⟩
  have fa := few_few (l := a0)
  have fb := few_few (l := b0)
  have ba := few_big (l := a0)
  have bb := few_big (l := b0)
  have la := few_len a0
  have lb := few_len b0
  rw [← hga] at HO fa ba la
  rw [← hgb] at HO2 fb bb lb
  have FA := Lib.hid fa
  have FB := Lib.hid fb
  have BA := Lib.hid ba
  have BB := Lib.hid bb
  clear ha hb hE hga hgb fa fb ba bb
  go_enter Tryz.func5, Tryz.ntmps5
  go_wp2_with fail
  refine HO.out.mono ?_
  rintro e w1 ⟨⟨p1, c1, rfl, hx⟩, F1⟩
  have HA1 := Lib.hid hx
  have HF1 := Lib.hid F1
  clear HO hx F1
  go_wp2_with fail
  refine (HO2.out _ HF1.out).mono ?_
  rintro e w2 ⟨⟨p2, c2, rfl, hx⟩, F2⟩
  have HB2 := Lib.hid hx
  have HA2 := Lib.hid (HA1.out.old F2)
  have HF2 := Lib.hid (HF1.out.trans F2)
  clear HO2 hx F2 HA1 HF1
  have HO := Lib.hid (lawAll_any _ a w2 HA2.out BA.out (by omega))
  go_wp2_with fail
  refine HO.out.mono ?_
  rintro e w3 ⟨⟨p3, c3, rfl, hx⟩, F3⟩
  have HC3 := Lib.hid hx
  have HA3 := Lib.hid (HA2.out.old F3)
  have HB3 := Lib.hid (HB2.out.old F3)
  have HF3 := Lib.hid (HF2.out.trans F3)
  clear HO hx F3 HA2 HB2 HF2
  have HO := Lib.hid (lawAll_any _ b w3 HB3.out BB.out (by omega))
  go_wp2_with fail
  refine HO.out.mono ?_
  rintro e w4 ⟨⟨p4, c4, rfl, hx⟩, F4⟩
  have HD4 := Lib.hid hx
  have HC4 := Lib.hid (HC3.out.old F4)
  have HA4 := Lib.hid (HA3.out.old F4)
  have HB4 := Lib.hid (HB3.out.old F4)
  have HF4 := Lib.hid (HF3.out.trans F4)
  clear HO hx F4 HA3 HB3 HC3 HF3
  go_wp2_with fail
  go_loopg [9] a.length (fun g s wr => ∃ j : Nat, g = a.length - j ∧ j ≤ a.length ∧ j ≤ b.length ∧ s = .int .i64 j ∧ Fr (fun _ => False) w4 wr)
  case atStart => exact ⟨0, rfl, Nat.zero_le _, Nat.zero_le _, rfl, Fr.refl _⟩
  case round =>
    obtain ⟨j, hg, hj, hjb, rfl, F⟩ := hrel
    have HG := Lib.hid hg
    have HF := Lib.hid F
    clear hg
    by_cases hjl : j < a.length ∧ j < b.length
    · obtain ⟨x, hx⟩ : ∃ x, a[j]? = some x := ⟨_, List.getElem?_eq_getElem hjl.1⟩
      obtain ⟨y, hy⟩ : ∃ y, b[j]? = some y := ⟨_, List.getElem?_eq_getElem hjl.2⟩
      obtain ⟨b1, o1, ab1, cb1, an1, cn1, rfl, -, hgx, e0, e1, e2⟩ := HA4.out.get hx
      obtain ⟨b2, o2, ab2, cb2, an2, cn2, rfl, -, hgy, d0, d1, d2⟩ := HB4.out.get hy
      obtain ⟨b3, o3, ab3, cb3, an3, cn3, rfl, -, hrx, f0, f1, f2⟩ := HC4.out.get hx
      obtain ⟨b4, o4, ab4, cb4, an4, cn4, rfl, -, hry, g0, g1, g2⟩ := HD4.out.get hy
      have fx := FA.out x (List.mem_of_getElem? hx)
      have fy := FB.out y (List.mem_of_getElem? hy)
      have HS1 := Lib.hid (fun W (F2 : Fr (fun _ => False) w4 W) => genSame_any _ _ x y W (hgx.old F2) (hgy.old F2) fx fy (HE.out.old (HF4.out.trans F2)))
      have HS2 := Lib.hid (fun W (F2 : Fr (fun _ => False) w4 W) => r15Same_any _ _ x y W (hrx.old F2) (hry.old F2) fx fy)
      have hS : ∀ W, Fr (fun _ => False) w4 W → (W.cell? ⟨b1, o1 + j * 3, none⟩ = some (.int .i64 x.k) ∧ W.cell? ⟨b1, o1 + j * 3 + 1, none⟩ = some (.slice ab1 x.b.length cb1) ∧ W.cell? ⟨b1, o1 + j * 3 + 2, none⟩ = some (.slice an1 x.n.length cn1)) ∧ (W.cell? ⟨b2, o2 + j * 3, none⟩ = some (.int .i64 y.k) ∧ W.cell? ⟨b2, o2 + j * 3 + 1, none⟩ = some (.slice ab2 y.b.length cb2) ∧ W.cell? ⟨b2, o2 + j * 3 + 2, none⟩ = some (.slice an2 y.n.length cn2)) ∧ (W.cell? ⟨b3, o3 + j * 3, none⟩ = some (.int .i64 x.k) ∧ W.cell? ⟨b3, o3 + j * 3 + 1, none⟩ = some (.slice ab3 x.b.length cb3) ∧ W.cell? ⟨b3, o3 + j * 3 + 2, none⟩ = some (.slice an3 x.n.length cn3)) ∧ (W.cell? ⟨b4, o4 + j * 3, none⟩ = some (.int .i64 y.k) ∧ W.cell? ⟨b4, o4 + j * 3 + 1, none⟩ = some (.slice ab4 y.b.length cb4) ∧ W.cell? ⟨b4, o4 + j * 3 + 2, none⟩ = some (.slice an4 y.n.length cn4)) := fun W f => ⟨⟨f.cell e0 (fun h => h), f.cell e1 (fun h => h), f.cell e2 (fun h => h)⟩, ⟨f.cell d0 (fun h => h), f.cell d1 (fun h => h), f.cell d2 (fun h => h)⟩, ⟨f.cell f0 (fun h => h), f.cell f1 (fun h => h), f.cell f2 (fun h => h)⟩, ⟨f.cell g0 (fun h => h), f.cell g1 (fun h => h), f.cell g2 (fun h => h)⟩⟩
      have HS := Lib.hid hS
      have r1 : (0 : Int) ≤ (j : Int) := by omega
      have r2 : (j : Int) < (a.length : Int) := by omega
      have r3 : (j : Int) < (b.length : Int) := by omega
      obtain ⟨sb, hsb⟩ : ∃ sb, sb = genSameS x y := ⟨_, rfl⟩
      rw [← hsb] at HS1 HS2
      clear hsb fx fy hgx hgy hrx hry e0 e1 e2 d0 d1 d2 f0 f1 f2 g0 g1 g2 hS hx hy
      have G : Fr (fun _ => False) w4 wr.drew := F.drew
      clear F
      cases sb
      all_goals
        go_upto_region 6 with fail
        go_region_held3 (fun W => (W.cell? ⟨b1, o1 + j * 3, none⟩ = some (.int .i64 x.k) ∧ W.cell? ⟨b1, o1 + j * 3 + 1, none⟩ = some (.slice ab1 x.b.length cb1) ∧ W.cell? ⟨b1, o1 + j * 3 + 2, none⟩ = some (.slice an1 x.n.length cn1)) ∧ (W.cell? ⟨b2, o2 + j * 3, none⟩ = some (.int .i64 y.k) ∧ W.cell? ⟨b2, o2 + j * 3 + 1, none⟩ = some (.slice ab2 y.b.length cb2) ∧ W.cell? ⟨b2, o2 + j * 3 + 2, none⟩ = some (.slice an2 y.n.length cn2)) ∧ (W.cell? ⟨b3, o3 + j * 3, none⟩ = some (.int .i64 x.k) ∧ W.cell? ⟨b3, o3 + j * 3 + 1, none⟩ = some (.slice ab3 x.b.length cb3) ∧ W.cell? ⟨b3, o3 + j * 3 + 2, none⟩ = some (.slice an3 x.n.length cn3)) ∧ (W.cell? ⟨b4, o4 + j * 3, none⟩ = some (.int .i64 y.k) ∧ W.cell? ⟨b4, o4 + j * 3 + 1, none⟩ = some (.slice ab4 y.b.length cb4) ∧ W.cell? ⟨b4, o4 + j * 3 + 2, none⟩ = some (.slice an4 y.n.length cn4))) (exact HS.out _ G) (first
          | (go_at_call 31; with_reducible refine (HS1.out _ G).mono ?_; rintro e w' ⟨rfl, F2⟩; replace G := G.trans F2; clear F2 HS1)
          | (go_at_call 32; with_reducible refine (HS2.out _ G).mono ?_; rintro e w' ⟨rfl, F2⟩; replace G := G.trans F2; clear F2 HS2))
        all_goals
          have HG2 := Lib.hid G
          clear G
          go_wp2_with fail
          go_roundg (a.length - (j + 1))
          case measure => rw [HG.out]; omega
          case rel => exact ⟨j + 1, rfl, by omega, by omega, by go_num, HG2.out⟩
    · have HA5 := Lib.hid (HA4.out.old F)
      have HB5 := Lib.hid (HB4.out.old F)
      have HC5 := Lib.hid (HC4.out.old F)
      have HD5 := Lib.hid (HD4.out.old F)
      have HF5 := Lib.hid (HF4.out.trans F)
      have HK := Lib.hid (gnKnown_any _ (HE.out.old HF5.out))
      clear F HF
      have hab : ((j : Int) < (a.length : Int) ∧ ¬ (j : Int) < (b.length : Int)) ∨ ¬ (j : Int) < (a.length : Int) := by omega
      clear hjl
      rcases hab with ⟨r1, r2⟩ | r1
      all_goals
        go_wp2_with fail
        refine HK.out.mono ?_
        rintro e w6 ⟨rfl, F6⟩
        have HA6 := Lib.hid (HA5.out.old F6)
        have HB6 := Lib.hid (HB5.out.old F6)
        have HC6 := Lib.hid (HC5.out.old F6)
        have HD6 := Lib.hid (HD5.out.old F6)
        have HF6 := Lib.hid (HF5.out.trans F6)
        clear F6 HK HA5 HB5 HC5 HD5 HF5
        have HO := Lib.hid (genMeet_any _ _ a b w6 HA6.out HB6.out FA.out FB.out (HE.out.old HF6.out))
        go_wp2_with fail
        refine HO.out.mono ?_
        rintro e w7 ⟨rfl, F7⟩
        have HA7 := Lib.hid (HA6.out.old F7)
        have HB7 := Lib.hid (HB6.out.old F7)
        have HC7 := Lib.hid (HC6.out.old F7)
        have HD7 := Lib.hid (HD6.out.old F7)
        have HF7 := Lib.hid (HF6.out.trans F7)
        clear F7 HO HA6 HB6 HC6 HD6 HF6
        have HO := Lib.hid (r15Meet_any _ _ a b w7 HC7.out HD7.out FA.out FB.out)
        go_wp2_with fail
        refine HO.out.mono ?_
        rintro e w8 ⟨rfl, F8⟩
        have HA8 := Lib.hid (HA7.out.old F8)
        have HB8 := Lib.hid (HB7.out.old F8)
        have HC8 := Lib.hid (HC7.out.old F8)
        have HD8 := Lib.hid (HD7.out.old F8)
        have HF8 := Lib.hid (HF7.out.trans F8)
        clear F8 HO HA7 HB7 HC7 HD7 HF7
        have HO := Lib.hid (genMeet_any _ _ b a w8 HB8.out HA8.out FB.out FA.out (HE.out.old HF8.out))
        rw [meet_swap] at HO
        go_wp2_with fail
        refine HO.out.mono ?_
        rintro e w9 ⟨rfl, F9⟩
        have HF9 := Lib.hid (HF8.out.trans F9)
        have HO := Lib.hid (r15Meet_any _ _ a b w9 (HC8.out.old F9) (HD8.out.old F9) FA.out FB.out)
        clear F9 HA8 HB8 HC8 HD8 HF8
        go_wp2_with fail
        refine HO.out.mono ?_
        rintro e w10 ⟨rfl, F10⟩
        have HF10 := Lib.hid (HF9.out.trans F10)
        clear F10 HO HF9
        go_wp2_with fail
        go_ret
        exact ⟨rfl, HF10.out⟩
end Go.Proofs.YtacekpdjapgfcaaGreatDoor
