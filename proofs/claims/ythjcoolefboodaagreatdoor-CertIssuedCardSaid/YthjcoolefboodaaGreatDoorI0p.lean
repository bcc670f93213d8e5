/-
  Merged by program: XR14T XKyS XKyT XR14K XR14KS.
-/
import Derived.Test.YthjcoolefboodaaGreatDoorI0i
import Derived.Test.YthjcoolefboodaaGreatDoorI0o
import Derived.Test.YthjcoolefboodaaGreatDoorI0j
import Derived.Test.YthjcoolefboodaaGreatDoorI0k
import Derived.Sort.Walk0
import Derived.Laws.Cover1
namespace Go.Q
open Go Go.RowKit
theorem textRead_err {l : List UInt8} {e : Int} (h : textReadS l = .error e) : e ≠ 0 := by
  unfold textReadS at h
  split at h
  · rename_i e' he
    cases h
    exact Go.Proofs.YthjcoolefboodaaGreatDoor.readS_err he
  · split at h
    · cases h; decide
    · split at h
      · cases h; decide
      · split at h
        · cases h
        · cases h; decide
theorem oid_arcs {o : List Int} (ho : oidOk o = true) : ∀ n ∈ o, 0 ≤ n ∧ n ≤ 2147483647 := by
  intro n hn
  simp only [oidOk, Bool.and_eq_true, decide_eq_true_eq] at ho
  have := List.all_eq_true.1 ho.1.2 n hn
  simp only [arcOk, decide_eq_true_eq] at this
  omega
end Go.Q
namespace Go.Proofs.YthjcoolefboodaaGreatDoor
open Go Go.RowKit Go.Q
set_option linter.unusedSimpArgs false
set_option maxRecDepth 20000 in
set_option maxHeartbeats 1000000 in
theorem r14Text_any (v : Value) (b : List UInt8) (w : World) (h : Bytes w v b) (hl : b.length ≤ 16777216) :
    Calls Tryz.prog 77 #[v] w fun e w' => WordsOut w' b e ∧ Fr (fun _ => False) w w' := by
  obtain ⟨a, cap, rfl, -⟩ := h.form
  obtain ⟨z, hz⟩ : ∃ z, z = w.heap.size := ⟨_, rfl⟩
  have BZ := Blk.new w 143 #[.int .i64 0, .slice none 0 0]
  have F0 : Fr (fun _ => False) w (w.alloc (.cells #[.int .i64 0, .slice none 0 0] 143)) := (Fr.refl w).alloc _
  rw [← hz] at BZ
  have hzw : ∀ k, k < w.heap.size → k = z → False := fun k hk e => by omega
  have HZ := Lib.hid hz
  have hT := r06Read_any _ b 0 w _ h F0 (by omega) hl
  unfold RTextOut at hT
  rw [List.drop_zero] at hT
  have HT := Lib.hid hT
  have HF0 := Lib.hid F0
  have HZW := Lib.hid hzw
  clear h hz F0 hzw hT
  go_enter Tryz.func77, Tryz.ntmps77
  go_upto_region 1 with fail
  rw [← HZ.out]
  generalize (w.alloc (.cells #[.int .i64 0, .slice none 0 0] 143)) = w0 at *
  go_wp2_with fail
  refine HT.out.mono ?_
  rintro e w1 ⟨hout, F⟩
  replace BZ := BZ.fr F (fun h => h)
  have HF := Lib.hid (HF0.out.trans F)
  clear F HF0 HT
  cases hr : textReadS b with
  | error x =>
    rw [hr] at hout
    subst hout
    have hx := textRead_err hr
    have hx1 : (x == 0) = false := beq_eq_false_iff_ne.2 hx
    have HRR := Lib.hid hr
    go_upto_region 2 with fail
    have BZ4 := BZ.alloc (.cells #[.int .i64 0, .slice none 0 0] 143)
    have BY4 := Blk.new w1 143 #[.int .i64 0, .slice none 0 0]
    have F4 : Fr (fun _ => False) w1 (w1.alloc (.cells #[.int .i64 0, .slice none 0 0] 143)) := (Fr.refl w1).alloc _
    obtain ⟨y, hy⟩ : ∃ y, y = w1.heap.size := ⟨_, rfl⟩
    rw [← hy] at BY4 ⊢
    clear hy
    generalize (w1.alloc (.cells #[.int .i64 0, .slice none 0 0] 143)) = w4 at *
    have y0 := BY4.cell 0
    have y1 := BY4.cell 1
    simp only [List.getElem?_toArray, List.getElem?_cons_succ, List.getElem?_cons_zero] at y0 y1
    have SZ := BZ4.cell
    have ZZ := BZ4.frozen
    obtain ⟨BZ5, F5⟩ := set2 BZ4 (.int .i64 0) (.slice none 0 0)
    have n0 := BZ5.cell 0
    have n1 := BZ5.cell 1
    simp only [List.getElem?_toArray, List.getElem?_cons_succ, List.getElem?_cons_zero] at n0 n1
    have HF5 := Lib.hid ((HF.out.trans F4).trans' F5 HZW.out)
    clear hr F4 BZ BZ4 BZ5 F5 BY4 hx
    go_wp2_with fail
    refine bodyPost_ret (v := .tuple #[.agg #[.int .i64 0, .slice none 0 0], .bool false]) (by simp [results, Tryz.results77, go_sem, n0, n1]) rfl ⟨?_, HF5.out⟩
    unfold WordsOut
    rw [HRR.out]
  | ok kbn =>
    obtain ⟨k, t, n⟩ := kbn
    rw [hr] at hout
    obtain ⟨u, rfl, hu⟩ := hout
    have HRR := Lib.hid hr
    obtain ⟨au, cu, rfl, -⟩ := hu.form
    go_upto_region 2 with fail
    have BZ4 := BZ.alloc (.cells #[.int .i64 k, .slice au t.length cu] 143)
    have BY4 := Blk.new w1 143 #[.int .i64 k, .slice au t.length cu]
    have F4 : Fr (fun _ => False) w1 (w1.alloc (.cells #[.int .i64 k, .slice au t.length cu] 143)) := (Fr.refl w1).alloc _
    obtain ⟨y, hy⟩ : ∃ y, y = w1.heap.size := ⟨_, rfl⟩
    rw [← hy] at BY4 ⊢
    clear hy
    generalize (w1.alloc (.cells #[.int .i64 k, .slice au t.length cu] 143)) = w4 at *
    have y0 := BY4.cell 0
    have y1 := BY4.cell 1
    simp only [List.getElem?_toArray, List.getElem?_cons_succ, List.getElem?_cons_zero] at y0 y1
    have SZ := BZ4.cell
    have ZZ := BZ4.frozen
    obtain ⟨BZ5, F5⟩ := set2 BZ4 (.int .i64 k) (.slice au t.length cu)
    have n0 := BZ5.cell 0
    have n1 := BZ5.cell 1
    simp only [List.getElem?_toArray, List.getElem?_cons_succ, List.getElem?_cons_zero] at n0 n1
    have HF5 := Lib.hid ((HF.out.trans F4).trans' F5 HZW.out)
    have HB := Lib.hid (hu.old HF5.out)
    clear hr F4 BZ BZ4 BZ5 F5 BY4 hu
    go_wp2_with fail
    refine bodyPost_ret (v := .tuple #[.agg #[.int .i64 k, .slice au t.length cu], .bool true]) (by simp [results, Tryz.results77, go_sem, n0, n1]) rfl ⟨?_, HF5.out⟩
    unfold WordsOut
    rw [HRR.out]
    exact ⟨_, rfl, HB.out⟩
set_option maxRecDepth 20000 in
set_option maxHeartbeats 1000000 in
theorem r14partKey_any (x y : Value) (o : List Int) (b : List UInt8) (w : World) (hx : Ints w x o) (hy : Bytes w y b) (ho : oidOk o = true) (hl : b.length ≤ 10000000) :
    Calls Tryz.prog 51 #[.agg #[x, y]] w fun e w' => e = .returned (str (attrKeyS o b)) ∧ Fr (fun _ => False) w w' := by
  obtain ⟨ax, cx, rfl, -⟩ := Ints.form hx
  obtain ⟨ay, cy, rfl, -⟩ := Vals.form hy
  obtain ⟨z, hz⟩ : ∃ z, z = w.heap.size := ⟨_, rfl⟩
  have BZ := Blk.new w 106 #[.slice ax o.length cx, .slice ay b.length cy]
  have F0 : Fr (fun _ => False) w (w.alloc (.cells #[.slice ax o.length cx, .slice ay b.length cy] 106)) := (Fr.refl w).alloc _
  have HT := Lib.hid (r04Text_any _ o _ (hx.old F0) (oid_arcs ho) (by have := (nums_ok ho).2.1; omega))
  have HY := Lib.hid (hy.old F0)
  rw [← hz] at BZ
  have HF0 := Lib.hid F0
  have HZ := Lib.hid hz
  have hk : attrKeyS o b = oidTextS o ++ (match textReadS b with | .ok (k, t, _) => [61, 116] ++ hexS (foldKeyS k t) | .error _ => [61, 98] ++ hexS b) := rfl
  have HK := Lib.hid hk
  have ho0 := Lib.hid ho
  clear hx hy F0 hz ho hk
  have hol : o.length ≤ 32 := (nums_ok ho0.out).2.1
  have hot : (oidTextS o).length ≤ 1000 := by
    have hall := ho0.out
    simp only [oidOk, Bool.and_eq_true, decide_eq_true_eq] at hall
    have := oidText_len (o := o) (fun n hn => by
      have := List.all_eq_true.1 hall.1.2 n hn
      simp only [arcOk, decide_eq_true_eq] at this
      omega)
    omega
  have hos : (ByteArray.mk (oidTextS o).toArray).size = (oidTextS o).length := by simp [ByteArray.size]
  generalize oidTextS o = ot at *
  go_enter Tryz.func51, Tryz.ntmps51
  go_upto_region 1 with fail
  rw [← HZ.out]
  generalize (w.alloc (.cells #[.slice ax o.length cx, .slice ay b.length cy] 106)) = w0 at *
  have z0 := BZ.cell 0
  simp at z0
  go_wp2_with fail
  refine HT.out.mono ?_
  rintro e w1 ⟨rfl, F1⟩
  have BZ1 := BZ.fr F1 (fun h => h)
  have z1 := BZ1.cell 1
  simp at z1
  have HY1 := Lib.hid (HY.out.old F1)
  have HF1 := Lib.hid (HF0.out.trans F1)
  clear HT HY HF0 F1 z0 BZ
  go_wp2_with fail
  refine (r14Text_any _ b w1 HY1.out (by omega)).mono ?_
  rintro e w2 ⟨hout, F2⟩
  have BZ2 := BZ1.fr F2 (fun h => h)
  have HY2 := Lib.hid (HY1.out.old F2)
  have HF2 := Lib.hid (HF1.out.trans F2)
  unfold WordsOut at hout
  clear HY1 HF1 F2 z1 BZ1
  cases hr : textReadS b with
  | error x =>
    rw [hr] at hout
    subst hout
    have F3 : Fr (fun _ => False) w2 (w2.alloc (.cells #[.int .i64 0, .slice none 0 0] 143)) := (Fr.refl w2).alloc _
    have BZ3 := BZ2.fr F3 (fun h => h)
    have z1 := BZ3.cell 1
    simp only [List.getElem?_toArray, List.getElem?_cons_succ, List.getElem?_cons_zero] at z1
    have HX := Lib.hid (r01Hex_any _ b _ (HY2.out.old F3) (by omega))
    have HF3 := Lib.hid (HF2.out.trans F3)
    have hkk := HK.out
    rw [hr] at hkk
    have HKK := Lib.hid hkk
    have hhl := hexS_len b
    have hhs : (ByteArray.mk (hexS b).toArray).size = (hexS b).length := by simp [ByteArray.size]
    clear hr hkk HY2 HF2 F3 BZ2 BZ3
    generalize hexS b = hb at *
    go_wp2_with fail
    refine HX.out.mono ?_
    rintro e w4 ⟨rfl, F4⟩
    go_wp2_with fail
    go_ret
    refine ⟨congrArg (fun x : ByteArray => Ending.returned (.string x)) ?_, HF3.out.trans F4⟩
    rw [HKK.out, show ot ++ ([61, 98] ++ hb) = ((ot ++ [61]) ++ [98]) ++ hb from by simp, ← ba_cat, ← ba_cat, ← ba_cat]
  | ok kbn =>
    obtain ⟨k, t, n⟩ := kbn
    rw [hr] at hout
    obtain ⟨u, rfl, hu⟩ := hout
    obtain ⟨hrt, htl⟩ := textRead_ok hr
    obtain ⟨au, cu, rfl, -⟩ := hu.form
    have F3 : Fr (fun _ => False) w2 (w2.alloc (.cells #[.int .i64 k, .slice au t.length cu] 143)) := (Fr.refl w2).alloc _
    have HX := Lib.hid (r13Key_any k _ t _ (hu.old F3) hrt (by omega))
    have HF3 := Lib.hid (HF2.out.trans F3)
    have hkk := HK.out
    rw [hr] at hkk
    simp only at hkk
    have HKK := Lib.hid hkk
    have hfl := foldKey_len k t
    clear hr hkk HY2 HF2 F3 BZ2 hu hrt
    generalize foldKeyS k t = fk at *
    go_upto_region 4 with fail
    have BY := Blk.new w2 143 #[.int .i64 k, .slice au t.length cu]
    obtain ⟨y, hy⟩ : ∃ y, y = w2.heap.size := ⟨_, rfl⟩
    rw [← hy] at BY ⊢
    clear hy
    generalize (w2.alloc (.cells #[.int .i64 k, .slice au t.length cu] 143)) = w3 at *
    have y0 := BY.cell 0
    have y1 := BY.cell 1
    simp only [List.getElem?_toArray, List.getElem?_cons_succ, List.getElem?_cons_zero] at y0 y1
    go_wp2_with fail
    refine HX.out.mono ?_
    rintro e w4 ⟨rfl, F4⟩
    obtain ⟨cp, wc, hcv, hbv, FC, -⟩ := bytes_of_str w4 fk (by omega)
    have HXX := Lib.hid (r01Hex_any _ fk wc hbv (by omega))
    have HF4 := Lib.hid ((HF3.out.trans F4).trans FC)
    have hhl := hexS_len fk
    have hhs : (ByteArray.mk (hexS fk).toArray).size = (hexS fk).length := by simp [ByteArray.size]
    clear HX HF3 F4 hbv FC BY y0 y1
    generalize hexS fk = hb at *
    go_wp2_with fail
    refine HXX.out.mono ?_
    rintro e w5 ⟨rfl, F5⟩
    go_wp2_with fail
    go_ret
    refine ⟨congrArg (fun x : ByteArray => Ending.returned (.string x)) ?_, HF4.out.trans F5⟩
    rw [HKK.out, show ot ++ ([61, 116] ++ hb) = ((ot ++ [61]) ++ [116]) ++ hb from by simp, ← ba_cat, ← ba_cat, ← ba_cat]
end Go.Proofs.YthjcoolefboodaaGreatDoor

namespace Go.Q
open Go
abbrev Key1 := List UInt8
theorem k_lt_of {a b : Key1} (h : a ≤ b) (hn : a ≠ b) : a < b := Std.lt_of_le_of_ne h hn
def behindB (last : Option Key1) (k : Key1) : Bool := match last with | none => true | some l => decide (l < k)
def betterB (best : Option Key1) (k : Key1) : Bool := match best with | none => true | some b => decide (k < b)
def pickStep (last best : Option Key1) (k : Key1) : Option Key1 := if (behindB last k && betterB best k) = true then some k else best
def pickS (last : Option Key1) (ks : List Key1) : Option Key1 := ks.foldl (pickStep last) none
theorem pickS_snoc (last : Option Key1) (ks : List Key1) (k : Key1) : pickS last (ks ++ [k]) = pickStep last (pickS last ks) k := by
  unfold pickS
  simp [List.foldl_append]
theorem pickS_spec (last : Option Key1) : ∀ ks : List Key1, match pickS last ks with
    | none => ∀ k ∈ ks, behindB last k = false
    | some m => m ∈ ks ∧ behindB last m = true ∧ ∀ k ∈ ks, behindB last k = true → m ≤ k := by
  intro ks
  induction hn : ks.length generalizing ks with
  | zero =>
    obtain rfl := List.length_eq_zero_iff.1 hn
    intro k hk
    cases hk
  | succ n ih =>
    have hne : ks ≠ [] := fun e => by simp [e] at hn
    obtain ⟨ts, k, rfl⟩ : ∃ ts k, ks = ts ++ [k] := ⟨ks.dropLast, ks.getLast hne, (List.dropLast_concat_getLast hne).symm⟩
    have hi := ih ts (by simpa using hn)
    rw [pickS_snoc]
    cases hp : pickS last ts with
    | none =>
      rw [hp] at hi
      simp only at hi
      unfold pickStep betterB
      cases hb : behindB last k with
      | true =>
        simp only [Bool.and_self, if_true]
        refine ⟨by simp, hb, fun x hx hxb => ?_⟩
        rcases List.mem_append.1 hx with h | h
        · rw [hi x h] at hxb; cases hxb
        · rw [List.mem_singleton.1 h]; exact Std.le_refl k
      | false =>
        simp only [Bool.false_and, Bool.false_eq_true, if_false]
        intro x hx
        rcases List.mem_append.1 hx with h | h
        · exact hi x h
        · rw [List.mem_singleton.1 h]; exact hb
    | some m =>
      rw [hp] at hi
      simp only at hi
      obtain ⟨h1, h2, h3⟩ := hi
      unfold pickStep betterB
      by_cases hc : (behindB last k && decide (k < m)) = true
      · simp only [hc, if_true]
        rw [Bool.and_eq_true, decide_eq_true_eq] at hc
        refine ⟨by simp, hc.1, fun x hx hxb => ?_⟩
        rcases List.mem_append.1 hx with h | h
        · exact Std.le_of_lt (Std.lt_of_lt_of_le hc.2 (h3 x h hxb))
        · rw [List.mem_singleton.1 h]; exact Std.le_refl k
      · simp only [if_neg hc]
        refine ⟨List.mem_append_left _ h1, h2, fun x hx hxb => ?_⟩
        rcases List.mem_append.1 hx with h | h
        · exact h3 x h hxb
        · rw [List.mem_singleton.1 h] at hxb ⊢
          rw [hxb, Bool.true_and, decide_eq_true_eq] at hc
          exact Std.not_lt.1 hc
theorem up_get {D : List Key1} (hD : D.Pairwise (· < ·)) {i j : Nat} {x y : Key1} (hx : D[i]? = some x) (hy : D[j]? = some y) (h : x < y) : i < j := by
  rcases Nat.lt_or_ge i j with hl | hl
  · exact hl
  · obtain ⟨hi, rfl⟩ := List.getElem?_eq_some_iff.1 hx
    obtain ⟨hj, rfl⟩ := List.getElem?_eq_some_iff.1 hy
    rcases Nat.lt_or_ge j i with h2 | h2
    · exact absurd (Std.lt_trans h (List.pairwise_iff_getElem.1 hD j i hj hi h2)) (Std.lt_irrefl)
    · have : i = j := by omega
      subst this
      exact absurd h (Std.lt_irrefl)
def lastOf (D : List Key1) (j : Nat) : Option Key1 := if j = 0 then none else D[j - 1]?
theorem pick_next {D ks : List Key1} (hD : D.Pairwise (· < ·)) (hm : ∀ x, x ∈ D ↔ x ∈ ks) (j : Nat) (hj : j ≤ D.length) : pickS (lastOf D j) ks = D[j]? := by
  have hbeh : ∀ i x, D[i]? = some x → (behindB (lastOf D j) x = true ↔ j ≤ i) := by
    intro i x hx
    unfold lastOf
    by_cases h0 : j = 0
    · subst h0; simp [behindB]
    · rw [if_neg h0]
      obtain ⟨y, hy⟩ : ∃ y, D[j - 1]? = some y := ⟨_, List.getElem?_eq_getElem (by omega)⟩
      rw [hy]
      simp only [behindB, decide_eq_true_eq]
      constructor
      · intro h
        have := up_get hD hy hx h
        omega
      · intro h
        obtain ⟨hi, rfl⟩ := List.getElem?_eq_some_iff.1 hx
        obtain ⟨hj1, rfl⟩ := List.getElem?_eq_some_iff.1 hy
        exact List.pairwise_iff_getElem.1 hD (j - 1) i hj1 hi (by omega)
  have hs := pickS_spec (lastOf D j) ks
  rcases Nat.lt_or_ge j D.length with hl | hl
  · obtain ⟨y, hy⟩ : ∃ y, D[j]? = some y := ⟨_, List.getElem?_eq_getElem hl⟩
    have hyk := (hm y).1 (List.mem_of_getElem? hy)
    have hyb := (hbeh j y hy).2 (Nat.le_refl _)
    cases hp : pickS (lastOf D j) ks with
    | none =>
      rw [hp] at hs
      rw [hs y hyk] at hyb
      cases hyb
    | some m =>
      rw [hp] at hs
      obtain ⟨h1, h2, h3⟩ := hs
      obtain ⟨i, hi⟩ := List.mem_iff_getElem?.1 ((hm m).2 h1)
      have hji := (hbeh i m hi).1 h2
      have hle := h3 y hyk hyb
      rcases Nat.lt_or_ge j i with h4 | h4
      · obtain ⟨hi', rfl⟩ := List.getElem?_eq_some_iff.1 hi
        obtain ⟨hj', rfl⟩ := List.getElem?_eq_some_iff.1 hy
        have := List.pairwise_iff_getElem.1 hD j i hj' hi' h4
        exact absurd (Std.lt_of_lt_of_le this hle) (Std.lt_irrefl)
      · have : i = j := by omega
        rw [← this, hi]
  · rw [List.getElem?_eq_none hl]
    cases hp : pickS (lastOf D j) ks with
    | none => rfl
    | some m =>
      rw [hp] at hs
      obtain ⟨h1, h2, -⟩ := hs
      obtain ⟨i, hi⟩ := List.mem_iff_getElem?.1 ((hm m).2 h1)
      have := (hbeh i m hi).1 h2
      have := (List.getElem?_eq_some_iff.1 hi).1
      omega
theorem sortS_up (ks : List Key1) : (sortS ks).Pairwise (· ≤ ·) := by
  have := List.pairwise_mergeSort (le := fun x y : Key1 => decide (x ≤ y)) (fun a b c h1 h2 => by
    simp only [decide_eq_true_eq] at h1 h2 ⊢
    exact Std.le_trans h1 h2) (fun a b => by
    rcases Std.le_total (a := a) (b := b) with h | h
    · simp [h]
    · simp [h]) ks
  exact this.imp (fun h => by simpa using h)
theorem get_bang {S : List Key1} {m : Nat} (h : m < S.length) : S.toArray[m]! = S[m] := by simp [getElem!_pos, h]
theorem compact_up {S : List Key1} (hS : S.Pairwise (· ≤ ·)) : ∀ m, m ≤ S.length → (Lib.compactUpTo S.toArray m).Pairwise (· < ·) ∧ ∀ x, x ∈ Lib.compactUpTo S.toArray m ↔ x ∈ S.take m
  | 0, _ => by simp [Lib.compactUpTo]
  | m + 1, hm => by
    obtain ⟨h1, h2⟩ := compact_up hS m (by omega)
    rw [Lib.compactUpTo_succ]
    have hml : m < S.length := by omega
    have ht : S.take (m + 1) = S.take m ++ [S[m]] := by rw [List.take_add_one, List.getElem?_eq_getElem hml]; rfl
    rw [ht, get_bang hml]
    by_cases hk : Lib.keeps S.toArray m = true
    · rw [if_pos hk]
      refine ⟨?_, fun x => by simp only [List.mem_append, h2]⟩
      refine List.pairwise_append.2 ⟨h1, by simp, fun x hx y hy => ?_⟩
      rw [List.mem_singleton.1 hy]
      have hx2 := (h2 x).1 hx
      obtain ⟨i, hi⟩ := List.mem_iff_getElem?.1 hx2
      rw [List.getElem?_take] at hi
      split at hi
      · rename_i him
        obtain ⟨hil, rfl⟩ := List.getElem?_eq_some_iff.1 hi
        unfold Lib.keeps at hk
        have hm0 : m ≠ 0 := by omega
        simp only [decide_eq_true_eq, hm0, false_or] at hk
        rw [get_bang hml, get_bang (show m - 1 < S.length by omega)] at hk
        have hle : S[i] ≤ S[m - 1] := by
          rcases Nat.lt_or_ge i (m - 1) with h | h
          · exact List.pairwise_iff_getElem.1 hS i (m - 1) hil (by omega) h
          · have : i = m - 1 := by omega
            subst this
            exact Std.le_refl _
        have hle2 : S[m - 1] ≤ S[m] := List.pairwise_iff_getElem.1 hS (m - 1) m (by omega) hml (by omega)
        exact Std.lt_of_le_of_lt hle (k_lt_of hle2 (fun e => hk e.symm))
      · cases hi
    · rw [if_neg hk, List.append_nil]
      refine ⟨h1, fun x => ?_⟩
      rw [h2, List.mem_append, List.mem_singleton]
      constructor
      · exact .inl
      · rintro (h | rfl)
        · exact h
        · unfold Lib.keeps at hk
          simp only [decide_eq_true_eq, not_or, Classical.not_not] at hk
          obtain ⟨hm0, he⟩ := hk
          rw [get_bang hml, get_bang (show m - 1 < S.length by omega)] at he
          rw [he]
          exact List.mem_iff_getElem?.2 ⟨m - 1, by rw [List.getElem?_take, if_pos (by omega), List.getElem?_eq_getElem (by omega)]⟩
def keysS (l : List Part) : List Key1 := Lib.compact (sortS (partKeys l))
theorem keysS_up (l : List Part) : (keysS l).Pairwise (· < ·) ∧ ∀ x, x ∈ keysS l ↔ x ∈ partKeys l := by
  obtain ⟨h1, h2⟩ := compact_up (sortS_up (partKeys l)) (sortS (partKeys l)).length (Nat.le_refl _)
  refine ⟨h1, fun x => ?_⟩
  have := h2 x
  rw [List.take_length] at this
  exact this.trans (by simp [sortS])
theorem keysS_next (l : List Part) (j : Nat) (hj : j ≤ (keysS l).length) : pickS (lastOf (keysS l) j) (partKeys l) = (keysS l)[j]? := pick_next (keysS_up l).1 (keysS_up l).2 j hj
theorem join_take (c : UInt8) {ks : List Key1} {j : Nat} {k : Key1} (h : ks[j]? = some k) : Lib.join (ks.take (j + 1)) [c] = (if j = 0 then [] else Lib.join (ks.take j) [c] ++ [c]) ++ k := by
  induction ks generalizing j with
  | nil => simp at h
  | cons x t ih =>
    cases j with
    | zero =>
      simp at h
      subst h
      simp [Lib.join]
    | succ j =>
      rw [List.getElem?_cons_succ] at h
      have e := ih h
      rw [List.take_succ_cons, List.take_succ_cons]
      cases t with
      | nil => simp at h
      | cons y s =>
        rw [List.take_succ_cons] at e ⊢
        have e1 : ∀ z, Lib.join (x :: y :: z) [c] = x ++ ([c] ++ Lib.join (y :: z) [c]) := fun z => by simp [Lib.join, List.intercalate]
        rw [e1, e, if_neg (Nat.succ_ne_zero j)]
        cases j with
        | zero => simp [Lib.join]
        | succ j =>
          rw [List.take_succ_cons, e1, if_neg (Nat.succ_ne_zero j)]
          simp
end Go.Q

namespace Go.Q
open Go
theorem behind_eq (o : Option Key1) (p : Key1) : behindB o p = (!o.isSome || decide (o.getD [] < p)) := by cases o <;> rfl
theorem better_eq (o : Option Key1) (p : Key1) : betterB o p = (!o.isSome || decide (p < o.getD [])) := by cases o <;> rfl
theorem partKeys_snoc {r : List Part} {k : Nat} {p : Part} (h : r[k]? = some p) : partKeys (r.take (k + 1)) = partKeys (r.take k) ++ [attrKeyS p.o p.b] := by
  unfold partKeys
  rw [List.take_add_one, h]
  simp
theorem keysS_len (r : List Part) : (keysS r).length ≤ r.length := by
  have hcl := Lib.compact_length_le (sortS (partKeys r))
  have hsl : (sortS (partKeys r)).length = r.length := by simp [sortS, partKeys]
  unfold keysS
  omega
theorem keysS_mem {r : List Part} {x : Key1} (h : x ∈ keysS r) : ∃ p ∈ r, x = attrKeyS p.o p.b := by
  have h3 := sort_mem (compact_mem h)
  obtain ⟨p, hp, rfl⟩ := List.mem_map.1 h3
  exact ⟨p, hp, rfl⟩
theorem lastOf_isSome {D : List Key1} {c : Nat} (hc : c ≤ D.length) : (lastOf D c).isSome = decide (c ≠ 0) := by
  unfold lastOf
  by_cases h0 : c = 0
  · rw [if_pos h0, decide_eq_false (fun h => h h0)]
    rfl
  · rw [if_neg h0, decide_eq_true h0, List.getElem?_eq_getElem (by omega)]
    rfl
theorem lastOf_succ {D : List Key1} {c : Nat} : lastOf D (c + 1) = D[c]? := by
  unfold lastOf
  rw [if_neg (Nat.succ_ne_zero c), Nat.add_sub_cancel]
theorem joinF_len (c : UInt8) (M N : Nat) {ks : List Key1} (h : ∀ k ∈ ks, k.length ≤ M) (hn : ks.length ≤ N) (j : Nat) : (Lib.join (ks.take j) [c]).length ≤ N * (M + 1) := by
  have := join_len c M (ks.take j) (fun k hk => h k (List.mem_of_mem_take hk))
  have h2 : (ks.take j).length * (M + 1) ≤ N * (M + 1) := Nat.mul_le_mul_right _ (by rw [List.length_take]; omega)
  omega
theorem less_of {x y : Key1} : Op.bytesLess x y = decide (x < y) := Go.Proofs.bytesLess_eq x y
theorem greater_of (x y : Key1) : (!(Op.bytesLess x y || x == y)) = decide (y < x) := by
  rw [less_of]
  by_cases h : y < x
  · rw [decide_eq_true h]
    have h1 : ¬ x < y := fun h2 => absurd (Std.lt_trans h h2) (Std.lt_irrefl)
    have h2 : x ≠ y := fun e => absurd (e ▸ h) (Std.lt_irrefl)
    rw [decide_eq_false h1, Bool.false_or]
    simpa using h2
  · rw [decide_eq_false h]
    rcases Classical.em (x = y) with rfl | hne
    · simp
    · have := k_lt_of (Std.not_lt.1 h) hne
      rw [decide_eq_true this]
      rfl
end Go.Q

namespace Go.Proofs.YthjcoolefboodaaGreatDoor
open Go Go.RowKit Go.Q
set_option linter.unusedSimpArgs false
set_option maxRecDepth 20000 in
set_option maxHeartbeats 4000000 in
theorem r14Key_any (v : Value) (n : List (List Part)) (w : World) (h : NameAt w v n) (hf : ∀ r ∈ n, fewB r) (hok : nameOk n = true) :
    Calls Tryz.prog 19 #[v] w fun e w' => e = .returned (str (nameKeyS n)) ∧ Fr (fun _ => False) w w' := by
  have H := Lib.hid h
  obtain ⟨hn64, hrd⟩ := name_rdns hok
  have HRD := Lib.hid hrd
  obtain ⟨a, cap, rfl, hc, hm, -⟩ := h
  have hkl : ∀ k ∈ n.map rdnKeyS, k.length ≤ 2560017616 := fun k hk => by
    obtain ⟨r, hr, rfl⟩ := List.mem_map.1 hk
    exact rdnKey_len (hf r hr) (hrd r hr)
  have HPL := Lib.hid (joinF_len 47 2560017616 64 hkl (by rw [List.length_map]; exact hn64))
  have hJ : ∀ j, Lib.join ((n.map rdnKeyS).take j) [47] = Lib.join ((n.take j).map rdnKeyS) [47] := fun j => by rw [← List.map_take]
  have HNK := Lib.hid (show nameKeyS n = Lib.join ((n.map rdnKeyS).take n.length) [47] from by unfold nameKeyS; rw [List.take_of_length_le (by rw [List.length_map]; omega)])
  clear hkl hJ hok hrd
  go_enter Tryz.func19, Tryz.ntmps19
  go_wp2_with fail
  go_loopg [3, 4] n.length (fun g o i wr => ∃ j : Nat, g = n.length - j ∧ j ≤ n.length ∧ o = str (Lib.join ((n.map rdnKeyS).take j) [47]) ∧ i = .int .i64 j ∧ Fr (fun _ => False) w wr)
  case atStart => exact ⟨0, rfl, Nat.zero_le _, rfl, rfl, Fr.refl _⟩
  case round =>
    obtain ⟨j, hg, hj, rfl, rfl, F⟩ := hrel
    have HG := Lib.hid hg
    have HF := Lib.hid F
    obtain ⟨J, hJ⟩ : ∃ J, J = Lib.join ((n.map rdnKeyS).take j) [47] := ⟨_, rfl⟩
    have hJl : J.length ≤ 200000000000 := by rw [hJ]; have := HPL.out j; omega
    rw [← hJ]
    by_cases hjl : j < n.length
    · obtain ⟨a0, cap0, he, _, _, hx⟩ := H.out
      simp only [Value.slice.injEq, true_and] at he
      obtain ⟨rfl, rfl⟩ := he
      obtain ⟨b, off, rfl, hy⟩ := hx (by omega)
      obtain ⟨r, hr⟩ : ∃ r, n[j]? = some r := ⟨_, List.getElem?_eq_getElem hjl⟩
      obtain ⟨x, e0, hA⟩ := hy j r hr
      have hmem := List.mem_of_getElem? hr
      obtain ⟨hr16, hro⟩ := rdn_oids (HRD.out r hmem)
      have HRO := Lib.hid hro
      have HRF := Lib.hid (hf r hmem)
      obtain ⟨P, hP⟩ : ∃ P, P = if j = 0 then [] else J ++ [47] := ⟨_, rfl⟩
      have hnext : Lib.join ((n.map rdnKeyS).take (j + 1)) [47] = P ++ rdnKeyS r := by
        have := join_take 47 (ks := n.map rdnKeyS) (j := j) (k := rdnKeyS r) (by rw [List.getElem?_map, hr]; rfl)
        rw [this, hP, hJ]
      have hPl : P.length ≤ 200000000001 := by
        rw [hP]
        split
        · simp
        · rw [List.length_append]; simp; omega
      have HNX := Lib.hid hnext
      have HP := Lib.hid hP
      have HA := Lib.hid hA
      have HE0 := Lib.hid e0
      have HK2 := Lib.hid (show rdnKeyS r = Lib.join (keysS r) [43] from rfl)
      have hKl := keysS_len r
      have HNE := Lib.hid (fun c hc => keysS_next r c hc)
      have hkm : ∀ k ∈ keysS r, k.length ≤ 160001100 := fun k hk => by
        obtain ⟨p, hp, rfl⟩ := keysS_mem hk
        exact attrKey_len (hro p hp) (hf r hmem p hp)
      have HKM := Lib.hid hkm
      have HQL := Lib.hid (joinF_len 43 160001100 16 hkm (by omega))
      have r1 : (0 : Int) ≤ (j : Int) := by omega
      have r2 : (j : Int) < (n.length : Int) := by omega
      have hJ0 : j = 0 → J = [] := fun h => by rw [hJ, h]; simp [Lib.join]
      have HJ0 := Lib.hid hJ0
      clear hx hy hr hA hmem hro hP hnext hkm e0 hJ hg F hJ0
      obtain ⟨K, hK⟩ : ∃ K, K = keysS r := ⟨_, rfl⟩
      rw [← hK] at HK2 hKl HNE HKM HQL
      have hJs : (ByteArray.mk J.toArray).size = J.length := by simp [ByteArray.size]
      clear hK
      go_upto_region 5 with fail
      have hpos : j = 0 ∨ 0 < j := by omega
      rcases hpos with hj0 | hj0
      case' inl =>
        have q1 : decide ((0 : Int) < (j : Int)) = false := decide_eq_false (by omega)
        have q2 : decide (0 < j) = false := decide_eq_false (by omega)
        have hP0 : P = J := by rw [HP.out, if_pos hj0, HJ0.out hj0]
        clear HP HJ0 HPL hj0
        subst hP0
        go_upto_region 7 with fail
        clear q1 q2
      case' inr =>
        have q1 : (0 : Int) < (j : Int) := by omega
        have hP0 := HP.out
        rw [if_neg (by omega)] at hP0
        clear HP HJ0 HPL
        go_upto_region 7 with fail
        rw [show (Value.string ({ data := J.toArray } ++ { data := #[47] })) = str P from by rw [hP0]; exact congrArg Value.string (ba_cat _ _)]
        clear hP0 q1 hj0
      all_goals
        clear hJs hJl
        obtain ⟨wo, hwo⟩ : ∃ wo : World, wo = wr := ⟨_, rfl⟩
        obtain rfl := hwo
        go_wp2_with fail
        go_loopg [3, 5, 6] K.length (fun g o la an wr => ∃ c : Nat, g = K.length - c ∧ c ≤ K.length ∧ o = str (P ++ Lib.join (K.take c) [43]) ∧ la = str ((lastOf K c).getD []) ∧ an = .bool (lastOf K c).isSome ∧ Fr (fun _ => False) w wr)
        case atStart => exact ⟨0, rfl, Nat.zero_le _, by simp [Lib.join], rfl, rfl, HF.out⟩
        case round =>
          obtain ⟨c, hg, hcK, rfl, rfl, rfl, F⟩ := hrel
          have HG2 := Lib.hid hg
          have HF2 := Lib.hid F
          have hls := lastOf_isSome hcK
          have HLS := Lib.hid hls
          obtain ⟨lo, hlo⟩ : ∃ lo, lo = lastOf K c := ⟨_, rfl⟩
          have hN := HNE.out c hcK
          rw [← hlo] at hN HLS ⊢
          have HN2 := Lib.hid hN
          have HLO := Lib.hid hlo
          obtain ⟨Q, hQ⟩ : ∃ Q, Q = P ++ Lib.join (K.take c) [43] := ⟨_, rfl⟩
          have hQl : Q.length ≤ 300000000000 := by rw [hQ, List.length_append]; have := HQL.out c; omega
          rw [← hQ]
          have HQ := Lib.hid hQ
          obtain ⟨la, hla⟩ : ∃ la, la = lo.getD [] := ⟨_, rfl⟩
          obtain ⟨an, han⟩ : ∃ an, an = lo.isSome := ⟨_, rfl⟩
          rw [← hla, ← han]
          have HLA := Lib.hid hla
          have HAN := Lib.hid han
          clear hg F hls hN hlo hQ hla han
          obtain ⟨wo2, hwo⟩ : ∃ wo : World, wo = wr := ⟨_, rfl⟩
          obtain rfl := hwo
          go_wp2_with fail
          go_loopg [7, 8, 9] r.length (fun g nx fo k wr => ∃ i : Nat, g = r.length - i ∧ i ≤ r.length ∧ nx = str ((pickS lo (partKeys (r.take i))).getD []) ∧ fo = .bool (pickS lo (partKeys (r.take i))).isSome ∧ k = .int .i64 i ∧ Fr (fun _ => False) w wr)
          case atStart => exact ⟨0, rfl, Nat.zero_le _, rfl, rfl, rfl, HF2.out⟩
          case round =>
            obtain ⟨i, hg, hir, rfl, rfl, rfl, F⟩ := hrel
            have HG3 := Lib.hid hg
            have HF3 := Lib.hid F
            have e0 := F.cell HE0.out (fun h => h)
            obtain ⟨a1, c1, hxe, _, _, hx⟩ := HA.out.old F
            subst hxe
            obtain ⟨bo, hbo⟩ : ∃ bo, bo = pickS lo (partKeys (r.take i)) := ⟨_, rfl⟩
            rw [← hbo]
            have HBO := Lib.hid hbo
            obtain ⟨nx, hnx⟩ : ∃ nx, nx = bo.getD [] := ⟨_, rfl⟩
            obtain ⟨fo, hfo⟩ : ∃ fo, fo = bo.isSome := ⟨_, rfl⟩
            rw [← hnx, ← hfo]
            have HNX2 := Lib.hid hnx
            have HFO := Lib.hid hfo
            clear hg F hbo hnx hfo
            by_cases hil : i < r.length
            · obtain ⟨b1, o1, rfl, hy⟩ := hx (by omega)
              obtain ⟨p, hp⟩ : ∃ p, r[i]? = some p := ⟨_, List.getElem?_eq_getElem hil⟩
              obtain ⟨x, y, e1, e2, hpx, hpy⟩ := hy i p hp
              have hpm := List.mem_of_getElem? hp
              have HPK := Lib.hid (r14partKey_any x y p.o p.b wr hpx hpy (HRO.out p hpm) (HRF.out p hpm))
              have hst : pickS lo (partKeys (r.take (i + 1))) = pickStep lo bo (attrKeyS p.o p.b) := by rw [partKeys_snoc hp, pickS_snoc, HBO.out]
              have r3 : (0 : Int) ≤ (i : Int) := by omega
              have r4 : (i : Int) < (r.length : Int) := by omega
              obtain ⟨ax, cx, rfl, -⟩ := Ints.form hpx
              obtain ⟨ay, cy, rfl, -⟩ := Vals.form hpy
              have e1' : wr.cell? ⟨b1, o1 + i * 2, none⟩ = some (.slice ax p.o.length cx) := by rw [Nat.mul_comm]; exact e1
              have e2' : wr.cell? ⟨b1, o1 + i * 2 + 1, none⟩ = some (.slice ay p.b.length cy) := by rw [Nat.mul_comm]; exact e2
              obtain ⟨kp, hkp⟩ : ∃ kp, kp = attrKeyS p.o p.b := ⟨_, rfl⟩
              rw [← hkp] at HPK hst
              have HST := Lib.hid hst
              have hB : (an = false ∧ behindB lo kp = true) ∨ (an = true ∧ Op.bytesLess kp la = true ∧ behindB lo kp = false) ∨ (an = true ∧ Op.bytesLess kp la = false ∧ (kp == la) = true ∧ behindB lo kp = false) ∨ (an = true ∧ Op.bytesLess kp la = false ∧ (kp == la) = false ∧ behindB lo kp = true) := by
                rw [behind_eq, ← HLA.out, ← HAN.out, ← greater_of kp la]
                cases an <;> cases Op.bytesLess kp la <;> cases (kp == la) <;> simp
              have hT : (fo = false ∧ betterB bo kp = true) ∨ (fo = true ∧ Op.bytesLess kp nx = true ∧ betterB bo kp = true) ∨ (fo = true ∧ Op.bytesLess kp nx = false ∧ betterB bo kp = false) := by
                rw [better_eq, ← HNX2.out, ← HFO.out, ← less_of (x := kp)]
                cases fo <;> cases Op.bytesLess kp nx <;> simp
              have HB := Lib.hid hB
              have HT := Lib.hid hT
              clear hx hy hp hpx hpy hpm hkp e1 e2 hst hB hT
              go_wp2_with fail
              refine HPK.out.mono ?_
              rintro e w3 ⟨rfl, F3⟩
              have HF4 := Lib.hid (HF3.out.trans F3)
              clear HPK F3 e0 e1' e2'
              rcases HB.out with ⟨rfl, hb⟩ | ⟨rfl, d1, hb⟩ | ⟨rfl, d1, d2, hb⟩ | ⟨rfl, d1, d2, hb⟩ <;> rcases HT.out with ⟨rfl, ht⟩ | ⟨rfl, d3, ht⟩ | ⟨rfl, d3, ht⟩
              all_goals
                have HS2 := Lib.hid (And.intro hb ht)
                clear hb ht HB HT
                go_wp2_with fail
                go_roundg (r.length - (i + 1))
                case measure => rw [HG3.out]; omega
                case rel =>
                  have hst := HST.out
                  unfold pickStep at hst
                  rw [HS2.out.1, HS2.out.2] at hst
                  refine ⟨i + 1, rfl, by omega, ?_, ?_, by go_num, HF4.out⟩
                  · rw [hst]
                    first | rfl | (simp only [Bool.and_true, Bool.and_false, Bool.false_and, Bool.true_and, Bool.false_eq_true, if_true, if_false]; first | rfl | rw [HNX2.out])
                  · rw [hst]
                    first | rfl | (simp only [Bool.and_true, Bool.and_false, Bool.false_and, Bool.true_and, Bool.false_eq_true, if_true, if_false]; first | rfl | rw [HFO.out])
            · obtain rfl : i = r.length := by omega
              have hb := HBO.out
              rw [List.take_length, HN2.out] at hb
              clear hx
              rcases Nat.lt_or_ge c K.length with hcl | hcl
              · obtain ⟨m, hm2⟩ : ∃ m, K[c]? = some m := ⟨_, List.getElem?_eq_getElem hcl⟩
                have hml := HKM.out m (List.mem_of_getElem? hm2)
                have hjt := join_take 43 hm2
                rw [hm2] at hb
                have hn2 := HNX2.out
                have hf2 := HFO.out
                rw [hb] at hn2 hf2
                have hn3 : nx = m := hn2
                have hf3 : fo = true := hf2
                subst hn3; subst hf3
                have hlast : lastOf K (c + 1) = some nx := by rw [lastOf_succ]; exact hm2
                have HLT := Lib.hid hlast
                have hms : (ByteArray.mk nx.toArray).size = nx.length := by simp [ByteArray.size]
                have hQs : (ByteArray.mk Q.toArray).size = Q.length := by simp [ByteArray.size]
                have HJT := Lib.hid hjt
                clear hb hn2 hf2 hm2 hlast hjt
                by_cases hc0 : c = 0
                · have ha0 : an = false := by rw [HAN.out, HLS.out, hc0]; rfl
                  have hjt := HJT.out
                  rw [if_pos hc0] at hjt
                  have hQP : Q = P := by rw [HQ.out, hc0]; simp [Lib.join]
                  have HJ2 := Lib.hid hjt
                  have HQP := Lib.hid hQP
                  subst ha0
                  clear hjt hQP hc0
                  go_wp2_with fail
                  go_roundg (K.length - (c + 1))
                  case measure => rw [HG2.out]; omega
                  case rel => exact ⟨c + 1, rfl, by omega, by rw [HJ2.out, HQP.out]; exact congrArg Value.string (ba_cat _ _), by rw [HLT.out]; rfl, by rw [HLT.out]; rfl, HF3.out⟩
                · have ha0 : an = true := by rw [HAN.out, HLS.out]; exact decide_eq_true hc0
                  have hjt := HJT.out
                  rw [if_neg hc0] at hjt
                  have HJ2 := Lib.hid hjt
                  subst ha0
                  clear hjt hc0
                  go_wp2_with fail
                  go_roundg (K.length - (c + 1))
                  case measure => rw [HG2.out]; omega
                  case rel => exact ⟨c + 1, rfl, by omega, by rw [HJ2.out, ← List.append_assoc, ← List.append_assoc, ← HQ.out]; exact congrArg Value.string (by rw [ba_cat, ba_cat]), by rw [HLT.out]; rfl, by rw [HLT.out]; rfl, HF3.out⟩
              · rw [List.getElem?_eq_none hcl] at hb
                have hf2 := HFO.out
                rw [hb] at hf2
                have hf3 : fo = false := hf2
                subst hf3
                have hc2 : c = K.length := by omega
                have hres : Lib.join ((n.map rdnKeyS).take (j + 1)) [47] = Q := by rw [HNX.out, HK2.out, HQ.out, hc2, List.take_length]
                have HRES := Lib.hid hres
                clear hb hf2 hc2 hres
                go_wp2_with fail
                go_roundg (n.length - (j + 1))
                case measure => rw [HG.out]; omega
                case rel => exact ⟨j + 1, rfl, by omega, by rw [HRES.out], by go_num, HF3.out⟩
    · obtain rfl : j = n.length := by omega
      have hres : nameKeyS n = J := by rw [HNK.out, hJ]
      have HRES := Lib.hid hres
      clear hJ hres
      go_wp2_with fail
      go_ret
      exact ⟨by rw [HRES.out]; rfl, HF.out⟩
end Go.Proofs.YthjcoolefboodaaGreatDoor

namespace Go.Proofs.YthjcoolefboodaaGreatDoor
open Go Go.RowKit Go.Q
set_option linter.unusedSimpArgs false
set_option maxRecDepth 20000 in
set_option maxHeartbeats 2000000 in
theorem r14Same_any (v u : Value) (n m : List (List Part)) (w : World) (h : NameAt w v n) (hm : NameAt w u m) (hf : ∀ r ∈ n, fewB r) (hfm : ∀ r ∈ m, fewB r) :
    Calls Tryz.prog 7 #[v, u] w fun e w' => e = .returned (.bool (nameSameS n m)) ∧ Fr (fun _ => False) w w' := by
  have H := Lib.hid h
  have HM := Lib.hid hm
  have HR := Lib.hid (r14Right_any v n w h hf)
  have HS := Lib.hid (show nameSameS n m = (nameOk n && (nameOk m && decide (nameKeyS n = nameKeyS m))) from rfl)
  clear h hm
  go_enter Tryz.func7, Tryz.ntmps7
  go_wp2_with fail
  refine HR.out.mono ?_
  rintro e w1 ⟨rfl, F1⟩
  have HF1 := Lib.hid F1
  have HR2 := Lib.hid (r14Right_any u m w1 (HM.out.old F1) hfm)
  clear HR F1
  cases hok : nameOk n with
  | false =>
    rw [hok] at HS
    clear hok
    go_wp2_with fail
    go_ret
    exact ⟨by rw [HS.out]; rfl, HF1.out⟩
  | true =>
    have HOK := Lib.hid hok
    rw [hok] at HS
    clear hok
    go_wp2_with fail
    refine HR2.out.mono ?_
    rintro e w2 ⟨rfl, F2⟩
    have HF2 := Lib.hid (HF1.out.trans F2)
    clear HR2 F2 HF1
    cases hok2 : nameOk m with
    | false =>
      rw [hok2] at HS
      clear hok2
      go_wp2_with fail
      go_ret
      exact ⟨by rw [HS.out]; rfl, HF2.out⟩
    | true =>
      have HOK2 := Lib.hid hok2
      rw [hok2] at HS
      have HK := Lib.hid (r14Key_any v n w2 (H.out.old HF2.out) hf HOK.out)
      clear hok2
      go_wp2_with fail
      refine HK.out.mono ?_
      rintro e w3 ⟨rfl, F3⟩
      have HF3 := Lib.hid (HF2.out.trans F3)
      have HK2 := Lib.hid (r14Key_any u m w3 (HM.out.old HF3.out) hfm HOK2.out)
      clear HK F3 HF2
      go_wp2_with fail
      refine HK2.out.mono ?_
      rintro e w4 ⟨rfl, F4⟩
      have HF4 := Lib.hid (HF3.out.trans F4)
      clear HK2 F4 HF3
      generalize nameKeyS n = kn at *
      generalize nameKeyS m = km at *
      by_cases hkk : kn = km
      · have hq2 : (kn == km) = true := by simpa using hkk
        have HKK := Lib.hid (decide_eq_true hkk)
        clear hkk
        go_wp2_with fail
        go_ret
        exact ⟨by rw [HS.out, HKK.out]; rfl, HF4.out⟩
      · have hq2 : (kn == km) = false := by simpa using hkk
        have HKK := Lib.hid (decide_eq_false hkk)
        clear hkk
        go_wp2_with fail
        go_ret
        exact ⟨by rw [HS.out, HKK.out]; rfl, HF4.out⟩
end Go.Proofs.YthjcoolefboodaaGreatDoor
