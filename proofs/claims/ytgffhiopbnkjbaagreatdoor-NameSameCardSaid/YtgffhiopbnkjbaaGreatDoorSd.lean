/-
  The reference's folding of signs: plain laws: cut at both ends, and a blank where blanks begin. The reference of the layer 13: blank, Signs. The reference of the layer 13: Key. The reference of the layer 1: Compare, Same, Hex. The reference of the layer 1: Hex. The reference of the layer 14: Text, partKey. The reference of the layer 8: Wholes. The reference of the layer 4: digits, Contents, Whole. The reference of the layer 4: Right, Compare, Same. The reference of the layer 14: Whole. The reference of the layer 14: Step, Right. The least key that is greater than the last one, again and again: plain laws: it goes through the sorted ones, each once. The reference's Key: plain laws. The reference of the layer 14: Key, Same. The walk of the names' example. The walk of NameSame: it answers true.
-/
import Derived.Test.YtgffhiopbnkjbaaGreatDoorSb
import Derived.Test.YtgffhiopbnkjbaaGreatDoorSc
import Derived.Deep.CutBlock
import Derived.Deep.CutRange
import Derived.Deep.Cut
import Derived.Test.YtgffhiopbnkjbaaGreatDoorSa
import Derived.Deep.RegionLaw
import Derived.Sort.Walk0
import Derived.Laws.Cover1
namespace Go.Q
open Go
theorem fold_blank {s : List Int × Bool} {n : Int} (h : blankB n = true) : foldStep s n = (s.1, decide (0 < s.1.length)) := by unfold foldStep; rw [if_pos h]
theorem fold_sign {s : List Int × Bool} {n : Int} (h : blankB n = false) : foldStep s n = ((if s.2 = true then s.1 ++ [32] else s.1) ++ [smallS n], false) := by unfold foldStep; rw [if_neg (by rw [h]; decide)]
/-- Blanks in front leave nothing. -/
theorem fold_front (l : List Int) : ∀ j, j ≤ l.length → (∀ (k : Nat) (n : Int), k < j → l[k]? = some n → blankB n = true) → foldAcc (l.take j) = ([], false)
  | 0, _, _ => rfl
  | j + 1, hj, h => by
    obtain ⟨n, hn⟩ : ∃ n, l[j]? = some n := ⟨_, List.getElem?_eq_getElem (by omega)⟩
    rw [foldAcc_take hn, fold_front l j (by omega) (fun k n hk => h k n (by omega)), fold_blank (h j n (by omega) hn)]
    rfl
/-- Blanks behind change no sign. -/
theorem fold_back (l : List Int) (t : Nat) : ∀ d, t + d ≤ l.length → (∀ (k : Nat) (n : Int), t ≤ k → l[k]? = some n → blankB n = true) → (foldAcc (l.take (t + d))).1 = (foldAcc (l.take t)).1
  | 0, _, _ => rfl
  | d + 1, hd, h => by
    obtain ⟨n, hn⟩ : ∃ n, l[t + d]? = some n := ⟨_, List.getElem?_eq_getElem (by omega)⟩
    rw [← Nat.add_assoc, foldAcc_take hn, fold_blank (h (t + d) n (by omega) hn)]
    exact fold_back l t d (by omega) h
/-- What is out behind i signs, in the reference's way. -/
def fOut (l : List Int) (i : Nat) : List Int := (foldAcc (l.take i)).1 ++ (if (foldAcc (l.take i)).2 = true then [32] else [])
/-- How it stands there. -/
def fAt (l : List Int) (fr i : Nat) : Prop := (i = fr ∧ foldAcc (l.take i) = ([], false)) ∨ (fr < i ∧ (foldAcc (l.take i)).1 ≠ [] ∧ ∀ p, l[i - 1]? = some p → (foldAcc (l.take i)).2 = blankB p)
theorem fOut_front {l : List Int} {fr : Nat} (h : foldAcc (l.take fr) = ([], false)) : fOut l fr = [] := by unfold fOut; rw [h]; rfl
theorem fOut_sign {l : List Int} {fr i : Nat} {n : Int} (_h : fAt l fr i) (hfr : fr ≤ i) (hn : l[i]? = some n) (hb : blankB n = false) : fOut l (i + 1) = fOut l i ++ [smallS n] ∧ fAt l fr (i + 1) := by
  have e := foldAcc_take hn
  rw [fold_sign hb] at e
  refine ⟨?_, .inr ⟨by omega, by rw [e]; simp, fun p hp => ?_⟩⟩
  · unfold fOut
    rw [e]
    simp only [Bool.false_eq_true, if_false, List.append_nil]
    split <;> simp
  · rw [Nat.add_sub_cancel, hn] at hp
    cases hp
    rw [e, hb]
theorem fOut_blank {l : List Int} {fr i : Nat} {n p : Int} (h : fAt l fr i) (hfr : fr < i) (hn : l[i]? = some n) (hp : l[i - 1]? = some p) (hb : blankB n = true) : fOut l (i + 1) = fOut l i ++ (if blankB p = true then [] else [32]) ∧ fAt l fr (i + 1) := by
  have e := foldAcc_take hn
  rw [fold_blank hb] at e
  rcases h with ⟨h1, -⟩ | ⟨-, h2, h3⟩
  · omega
  · have hlen : 0 < (foldAcc (l.take i)).1.length := List.length_pos_iff.2 h2
    have hd : decide (0 < (foldAcc (l.take i)).1.length) = true := decide_eq_true hlen
    rw [hd] at e
    have h3p := h3 p hp
    refine ⟨?_, .inr ⟨by omega, by rw [e]; exact h2, fun q hq => ?_⟩⟩
    · unfold fOut
      rw [e, h3p]
      cases hbp : blankB p <;> simp
    · rw [Nat.add_sub_cancel, hn] at hq
      cases hq
      rw [e, hb]
/-- All of it. -/
theorem fOut_all {l : List Int} {fr t : Nat} (h : fAt l fr t) (ht : t ≤ l.length) (hl : fr < t → ∀ p, l[t - 1]? = some p → blankB p = false) (hb : ∀ (k : Nat) (n : Int), t ≤ k → l[k]? = some n → blankB n = true) : foldS l = fOut l t := by
  have e := fold_back l t (l.length - t) (by omega) hb
  rw [show t + (l.length - t) = l.length from by omega, List.take_length] at e
  have e2 : foldS l = (foldAcc l).1 := rfl
  rw [e2, e]
  unfold fOut
  rcases h with ⟨-, h1⟩ | ⟨h1, h2, h3⟩
  · rw [h1]; rfl
  · obtain ⟨p, hp⟩ : ∃ p, l[t - 1]? = some p := ⟨_, List.getElem?_eq_getElem (by omega)⟩
    rw [h3 p hp, hl h1 p hp]
    simp
theorem fOut_len (l : List Int) (i : Nat) : (fOut l i).length ≤ 2 * i + 1 := by
  unfold fOut
  have h1 := foldAcc_len (l.take i)
  have h2 : (l.take i).length ≤ i := by rw [List.length_take]; omega
  rw [List.length_append]
  split <;> simp only [List.length_cons, List.length_nil] <;> omega
end Go.Q

namespace Go.Proofs.YtgffhiopbnkjbaaGreatDoor
open Go Go.RowKit Go.Q
set_option linter.unusedSimpArgs false

set_option maxRecDepth 20000 in
theorem r13blank_any (n : Int) (w : World) :
    Calls Tryz.prog 207 #[.int .i64 n] w fun e w' => e = .returned (.bool (blankB n)) ∧ w = w' := by
  have hc : n = 32 ∨ n = 9 ∨ n = 10 ∨ n = 11 ∨ n = 12 ∨ n = 13 ∨ (n ≠ 32 ∧ n ≠ 9 ∧ n ≠ 10 ∧ n ≠ 11 ∧ n ≠ 12 ∧ n ≠ 13) := by omega
  rcases hc with rfl | rfl | rfl | rfl | rfl | rfl | ⟨h0, h1, h2, h3, h4, h5⟩
  case' inr.inr.inr.inr.inr.inr =>
    have hb : blankB n = false := decide_eq_false (by omega)
    rw [hb]
    have q0 : (n == 32) = false := beq_eq_false_iff_ne.2 h0
    have q1 : (n == 9) = false := beq_eq_false_iff_ne.2 h1
    have q2 : (n == 10) = false := beq_eq_false_iff_ne.2 h2
    have q3 : (n == 11) = false := beq_eq_false_iff_ne.2 h3
    have q4 : (n == 12) = false := beq_eq_false_iff_ne.2 h4
    have q5 : (n == 13) = false := beq_eq_false_iff_ne.2 h5
    clear hb h0 h1 h2 h3 h4 h5
  all_goals
    go_enter Tryz.func207, Tryz.ntmps207
    go_wp2_with fail
    go_ret
    exact ⟨rfl, rfl⟩

set_option maxRecDepth 20000 in
set_option maxHeartbeats 4000000 in
theorem r13Signs_any (v : Value) (l : List Int) (w : World) (h : Ints w v l) (hl : l.length ≤ 1099511627) :
    Calls Tryz.prog 162 #[v] w fun e w' => ∃ u, e = .returned u ∧ w'.ownsRow w.heap.size 3 1 u (foldS l).length (intCells (foldS l)) ∧ Fr (fun _ => False) w w' := by
  obtain ⟨a, cap, rfl, -, -, hx⟩ := Ints.form h
  have HX := Lib.hid hx
  have HBL := Lib.hid r13blank_any
  obtain ⟨R, hR⟩ : ∃ R, R = foldS l := ⟨_, rfl⟩
  rw [← hR]
  have HR := Lib.hid hR
  clear h hx hR
  go_enter Tryz.func162, Tryz.ntmps162
  go_upto_block 0 with fail
  go_cut [3] from 10 to 21 (fun s wc => ∃ j : Nat, s = .int .i64 j ∧ j ≤ l.length ∧ (∀ (k : Nat) (n : Int), k < j → l[k]? = some n → blankB n = true) ∧ (∀ n, l[j]? = some n → blankB n = false) ∧ wc = w)
  case first =>
    go_wp2_with fail
    go_loopg [3] l.length (fun g s wr => ∃ j : Nat, g = l.length - j ∧ j ≤ l.length ∧ s = .int .i64 j ∧ (∀ (k : Nat) (n : Int), k < j → l[k]? = some n → blankB n = true) ∧ wr = w)
    case atStart => exact ⟨0, rfl, Nat.zero_le _, rfl, fun k n hk => absurd hk (Nat.not_lt_zero _), rfl⟩
    case round =>
      obtain ⟨j, hg, hj, rfl, hall, rfl⟩ := hrel
      have HG := Lib.hid hg
      have HA := Lib.hid hall
      clear hg hall
      by_cases hjl : j < l.length
      · obtain ⟨b, off, rfl, hy⟩ := HX.out (by omega)
        obtain ⟨x, hxj⟩ : ∃ x, l[j]? = some x := ⟨_, List.getElem?_eq_getElem hjl⟩
        have ex := hy j x hxj
        have HXJ := Lib.hid hxj
        have q1 : (0 : Int) ≤ (j : Int) := by omega
        have q2 : (j : Int) < (l.length : Int) := by omega
        clear hy hxj
        rcases Bool.eq_false_or_eq_true (blankB x) with hb | hb
        · have HC := HBL.out x wr
          rw [hb] at HC
          have HCC := Lib.hid HC
          have HB := Lib.hid hb
          clear HC hb
          go_wp2_with fail
          refine HCC.out.mono ?_
          rintro e w' ⟨rfl, rfl⟩
          go_wp2_with fail
          go_roundg (l.length - (j + 1))
          case measure => rw [HG.out]; omega
          case rel =>
            refine ⟨j + 1, rfl, by omega, by go_num, fun k n hk hn => ?_, rfl⟩
            rcases Nat.lt_or_ge k j with h | h
            · exact HA.out k n h hn
            · obtain rfl : k = j := by omega
              rw [HXJ.out] at hn
              cases hn
              exact HB.out
        · have HC := HBL.out x wr
          rw [hb] at HC
          have HCC := Lib.hid HC
          have HB := Lib.hid hb
          clear HC hb
          go_wp2_with fail
          refine HCC.out.mono ?_
          rintro e w' ⟨rfl, rfl⟩
          go_wp2_with fail
          go_meet
          exact ⟨j, rfl, hj, HA.out, fun n hn => by rw [HXJ.out] at hn; cases hn; exact HB.out, rfl⟩
      · obtain rfl : j = l.length := by omega
        have q2 : ¬ (l.length : Int) < (l.length : Int) := by omega
        go_wp2_with fail
        go_meet
        exact ⟨l.length, rfl, Nat.le_refl _, HA.out, fun n hn => by simp at hn, rfl⟩
  case rest =>
    obtain ⟨fr, rfl, hfl, hfa, hfn, rfl⟩ := hcut
    have HFA := Lib.hid hfa
    have HFN := Lib.hid hfn
    clear hfa hfn
    go_upto_block 2 with fail
    go_cut [4] from 22 to 34 (fun s wx => ∃ t : Nat, s = .int .i64 t ∧ fr ≤ t ∧ t ≤ l.length ∧ (∀ (k : Nat) (n : Int), t ≤ k → l[k]? = some n → blankB n = true) ∧ (fr < t → ∀ p, l[t - 1]? = some p → blankB p = false) ∧ wx = wc)
    case first =>
      go_wp2_with fail
      go_loopg [4] l.length (fun g s wr => ∃ t : Nat, g = t ∧ fr ≤ t ∧ t ≤ l.length ∧ s = .int .i64 t ∧ (∀ (k : Nat) (n : Int), t ≤ k → l[k]? = some n → blankB n = true) ∧ wr = wc)
      case atStart =>
        have hn0 : ∀ (k : Nat) (n : Int), l.length ≤ k → l[k]? = some n → blankB n = true := fun k n hk hn => by
          rw [List.getElem?_eq_none hk] at hn
          cases hn
        refine ⟨l.length, rfl, hfl, Nat.le_refl _, ?_⟩
        first | exact ⟨rfl, hn0, rfl⟩ | exact ⟨hn0, rfl⟩
      case round =>
        obtain ⟨t, hg, hft, htl, rfl, hall, rfl⟩ := hrel
        have HG := Lib.hid hg
        have HA := Lib.hid hall
        clear hg hall
        by_cases hlt : fr < t
        · obtain ⟨b, off, rfl, hy⟩ := HX.out (by omega)
          obtain ⟨x, hxj⟩ : ∃ x, l[t - 1]? = some x := ⟨_, List.getElem?_eq_getElem (by omega)⟩
          have ex := hy (t - 1) x hxj
          have HXJ := Lib.hid hxj
          have q1 : (0 : Int) ≤ (t : Int) - 1 := by omega
          have q2 : (t : Int) - 1 < (l.length : Int) := by omega
          have q3 : (fr : Int) < (t : Int) := by omega
          have hin : ((t : Int) - 1).toNat = t - 1 := by omega
          clear hy hxj
          rcases Bool.eq_false_or_eq_true (blankB x) with hb | hb
          · have HC := HBL.out x wr
            rw [hb] at HC
            have HCC := Lib.hid HC
            have HB := Lib.hid hb
            clear HC hb
            go_wp2_with fail
            refine HCC.out.mono ?_
            rintro e w' ⟨rfl, rfl⟩
            go_wp2_with fail
            go_roundg (t - 1)
            case measure => rw [HG.out]; omega
            case rel =>
              refine ⟨t - 1, rfl, by omega, by omega, by congr 1; omega, fun k n hk hn => ?_, rfl⟩
              rcases Nat.lt_or_ge k t with h | h
              · obtain rfl : k = t - 1 := by omega
                rw [HXJ.out] at hn
                cases hn
                exact HB.out
              · exact HA.out k n h hn
          · have HC := HBL.out x wr
            rw [hb] at HC
            have HCC := Lib.hid HC
            have HB := Lib.hid hb
            clear HC hb
            go_wp2_with fail
            refine HCC.out.mono ?_
            rintro e w' ⟨rfl, rfl⟩
            go_wp2_with fail
            go_meet
            exact ⟨t, rfl, hft, htl, HA.out, fun _ p hp => by rw [HXJ.out] at hp; cases hp; exact HB.out, rfl⟩
        · have q3 : ¬ (fr : Int) < (t : Int) := by omega
          go_wp2_with fail
          go_meet
          exact ⟨t, rfl, hft, htl, HA.out, fun h => absurd h hlt, rfl⟩
    case rest =>
      obtain ⟨t, rfl, hft, htl, hback, hlast, rfl⟩ := hcut
      have HBK := Lib.hid hback
      have HLS := Lib.hid hlast
      have hf0 := fold_front l fr hfl HFA.out
      have HF0 := Lib.hid hf0
      clear hback hlast hf0
      go_wp2_with fail
      go_loopg [5, 6] (t - fr) (fun g u i wr => ∃ (j : Nat) (L : Nat) (a1 : Option Addr) (c1 : Nat), g = t - j ∧ fr ≤ j ∧ j ≤ t ∧ u = .slice a1 L c1 ∧ i = .int .i64 j ∧ L = (fOut l j).length ∧ fAt l fr j ∧ wr.ownsRow wc.heap.size 3 1 (.slice a1 L c1) L (intCells (fOut l j)) ∧ Fr (fun _ => False) wc wr)
      case atStart => exact ⟨fr, 0, none, 0, rfl, Nat.le_refl _, hft, rfl, rfl, by rw [fOut_front HF0.out]; rfl, .inl ⟨rfl, HF0.out⟩, by rw [fOut_front HF0.out]; exact ⟨rfl, .inl ⟨rfl, rfl⟩⟩, Fr.refl _⟩
      case round =>
        obtain ⟨j, L, a1, c1, hg, hfj, hjt, rfl, rfl, hL, hA, hO, F⟩ := hrel
        have HG := Lib.hid hg
        have HL := Lib.hid hL
        have HA := Lib.hid hA
        have HO := Lib.hid hO
        have HF := Lib.hid F
        have hLl : L ≤ 3000000000 := by have := fOut_len l j; omega
        clear hg hL hA hO
        by_cases hjl : j < t
        · obtain ⟨b, off, rfl, hy⟩ := HX.out (by omega)
          obtain ⟨x, hxj⟩ : ∃ x, l[j]? = some x := ⟨_, List.getElem?_eq_getElem (by omega)⟩
          have ex := F.cell (hy j x hxj) (fun h => h)
          have HXJ := Lib.hid hxj
          have q1 : (0 : Int) ≤ (j : Int) := by omega
          have q2 : (j : Int) < (l.length : Int) := by omega
          have q3 : (j : Int) < (t : Int) := by omega
          have hbase : wc.heap.size ≤ wr.heap.size := F.size
          have hvb := (Vals.of_own HO.out).2
          clear hxj
          rcases Bool.eq_false_or_eq_true (blankB x) with hb | hb
          · have hfr : fr < j := by
              rcases Nat.lt_or_ge fr j with h | h
              · exact h
              · obtain rfl : fr = j := by omega
                have := HFN.out x HXJ.out
                rw [hb] at this
                cases this
            obtain ⟨p, hp⟩ : ∃ p, l[j - 1]? = some p := ⟨_, List.getElem?_eq_getElem (by omega)⟩
            have ep := F.cell (hy (j - 1) p hp) (fun h => h)
            obtain ⟨hn1, hn2⟩ := fOut_blank HA.out hfr HXJ.out hp hb
            have HC := HBL.out x wr
            rw [hb] at HC
            have HCC := Lib.hid HC
            have q4 : (0 : Int) ≤ (j : Int) - 1 := by omega
            have q5 : (j : Int) - 1 < (l.length : Int) := by omega
            have hin : ((j : Int) - 1).toNat = j - 1 := by omega
            have HN1 := Lib.hid hn1
            have HN2 := Lib.hid hn2
            clear HC hy hn1 hn2 hp
            rcases Bool.eq_false_or_eq_true (blankB p) with hbp | hbp
            · have HP := HBL.out p wr
              rw [hbp] at HP
              have HPP := Lib.hid HP
              have hnx : fOut l (j + 1) = fOut l j := by rw [HN1.out, if_pos hbp, List.append_nil]
              have HNX := Lib.hid hnx
              clear HP hbp hb hnx hvb F
              go_wp2_with fail
              refine HCC.out.mono ?_
              rintro e w' ⟨rfl, rfl⟩
              go_wp2_with fail
              refine HPP.out.mono ?_
              rintro e w' ⟨rfl, rfl⟩
              go_wp2_with fail
              go_roundg (t - (j + 1))
              case measure => rw [HG.out]; omega
              case rel => exact ⟨j + 1, L, a1, c1, rfl, by omega, by omega, rfl, by go_num, by rw [HNX.out]; exact HL.out, HN2.out, by rw [HNX.out]; exact HO.out, HF.out⟩
            · have HP := HBL.out p wr
              rw [hbp] at HP
              have HPP := Lib.hid HP
              have hnx : fOut l (j + 1) = fOut l j ++ [32] := by rw [HN1.out, if_neg (by rw [hbp]; decide)]
              have HNX := Lib.hid hnx
              obtain ⟨a7, c7, w7, hr7, ho7, F7, -⟩ := add_int HO.out hbase (by omega) (32 : Int) wr.heap.size ((Fr.refl (S := fun _ => False) wr).alloc (.cells #[.int .i64 (32 : Int)] 3)) (Blk.new wr 3 #[.int .i64 (32 : Int)])
              have HF7 := Lib.hid (F.trans' F7 (fun i hi e => by have := hvb i e; omega))
              rw [← hnx] at ho7
              have HO7 := Lib.hid ho7
              have HRUN := Lib.hid hr7
              clear HP hbp hb hnx hvb F ho7 hr7 F7
              go_wp2_with fail
              refine HCC.out.mono ?_
              rintro e w' ⟨rfl, rfl⟩
              go_wp2_with fail
              refine HPP.out.mono ?_
              rintro e w' ⟨rfl, rfl⟩
              go_wp2_with (at_builtin; refine wpList_append_run (by rfl) (.tmp 54) (.tmp 55) 22 (by rfl) _ w7 (by exact HRUN.out) ?_)
              go_roundg (t - (j + 1))
              case measure => rw [HG.out]; omega
              case rel => exact ⟨j + 1, L + 1, a7, c7, rfl, by omega, by omega, rfl, by go_num, by rw [HNX.out, List.length_append, ← HL.out]; rfl, HN2.out, HO7.out, HF7.out⟩
          · obtain ⟨hn1, hn2⟩ := fOut_sign HA.out hfj HXJ.out hb
            have HC := HBL.out x wr
            rw [hb] at HC
            have HCC := Lib.hid HC
            obtain ⟨y, hyx⟩ : ∃ y, y = smallS x := ⟨_, rfl⟩
            rw [← hyx] at hn1
            obtain ⟨a7, c7, w7, hr7, ho7, F7, -⟩ := add_int HO.out hbase (by omega) y wr.heap.size ((Fr.refl (S := fun _ => False) wr).alloc (.cells #[.int .i64 y] 3)) (Blk.new wr 3 #[.int .i64 y])
            have HF7 := Lib.hid (F.trans' F7 (fun i hi e => by have := hvb i e; omega))
            rw [← hn1] at ho7
            have HO7 := Lib.hid ho7
            have HRUN := Lib.hid hr7
            have HN1 := Lib.hid hn1
            have HN2 := Lib.hid hn2
            have hcase : ((64 : Int) < x ∧ x < 91 ∧ x + 32 = y) ∨ ((64 : Int) < x ∧ ¬ x < 91 ∧ x = y) ∨ (¬ (64 : Int) < x ∧ x = y) := by
              unfold smallS at hyx
              split at hyx <;> omega
            clear HC hb hn1 hn2 hvb F ho7 hr7 F7 hyx hy
            rcases hcase with ⟨g1, g2, g3⟩ | ⟨g1, g2, g3⟩ | ⟨g1, g3⟩
            all_goals
              subst g3
              go_wp2_with fail
              refine HCC.out.mono ?_
              rintro e w' ⟨rfl, rfl⟩
              go_wp2_with (at_builtin; refine wpList_append_run (by rfl) (.tmp 65) (.tmp 67) 22 (by rfl) _ w7 (by exact HRUN.out) ?_)
              go_roundg (t - (j + 1))
              case measure => rw [HG.out]; omega
              case rel => exact ⟨j + 1, L + 1, a7, c7, rfl, by omega, by omega, rfl, by go_num, by rw [HN1.out, List.length_append, ← HL.out]; rfl, HN2.out, HO7.out, HF7.out⟩
        · obtain rfl : j = t := by omega
          have q3 : ¬ (j : Int) < (j : Int) := by omega
          have hres : R = fOut l j := by rw [HR.out]; exact fOut_all HA.out htl HLS.out HBK.out
          have HRES := Lib.hid hres
          clear hres
          go_wp2_with fail
          exact bodyPost_ret (v := .slice a1 L c1) (by simp [results, Tryz.results162, go_sem]) rfl ⟨_, rfl, by rw [HRES.out, ← HL.out]; exact HO.out, HF.out⟩
end Go.Proofs.YtgffhiopbnkjbaaGreatDoor

namespace Go.Q
open Go Go.RowKit
theorem may_nats {l : List Int} (h : ∀ n ∈ l, mayS 12 n = true) : l = natInts (l.map Int.toNat) ∧ (∀ n ∈ l.map Int.toNat, n < 1114112) ∧ encAll (l.map Int.toNat) = ofS 12 l := by
  refine ⟨?_, ?_, ?_⟩
  · unfold natInts
    rw [List.map_map]
    refine ((List.map_congr_left (fun m hm => ?_)).trans (List.map_id l)).symm
    have := h m hm
    simp [mayS, surr] at this
    simp
    omega
  · intro n hn
    obtain ⟨m, hm, rfl⟩ := List.mem_map.1 hn
    have := h m hm
    simp [mayS, surr] at this
    omega
  · simp only [ofS, encAll, List.flatMap_map]
    rfl
end Go.Q
namespace Go.Proofs.YtgffhiopbnkjbaaGreatDoor
open Go Go.RowKit Go.Q
set_option linter.unusedSimpArgs false

/-- UTF-8 of signs that may be. -/
theorem r06Utf8_may (v : Value) (l : List Int) (w : World) (h : Ints w v l) (hm : ∀ n ∈ l, mayS 12 n = true) (hl : l.length ≤ 100000000) :
    Calls Tryz.prog 28 #[v] w fun e w' => ∃ v', e = .returned v' ∧ w'.ownsRow w.heap.size 5 1 v' (ofS 12 l).length (Lib.byteCells (ofS 12 l)) ∧ Fr (fun _ => False) w w' := by
  obtain ⟨h1, h2, h3⟩ := may_nats hm
  rw [h1] at h
  have := r06Utf8_any v (l.map Int.toNat) w h h2 (by simpa using hl)
  rw [h3] at this
  exact this

set_option maxRecDepth 20000 in
set_option maxHeartbeats 2000000 in
theorem r13Key_any (k : Int) (v : Value) (b : List UInt8) (w : World) (h : Bytes w v b) (hr : rightS k b = true) (hl : b.length ≤ 16777216) :
    Calls Tryz.prog 121 #[.agg #[.int .i64 k, v]] w fun e w' => e = .returned (.tuple #[str (foldKeyS k b), .bool true]) ∧ Fr (fun _ => False) w w' := by
  obtain ⟨a, cap, rfl, -⟩ := h.form
  have F0 : Fr (fun _ => False) w (w.alloc (.cells #[.int .i64 k, .slice a b.length cap] 25)) := (Fr.refl w).alloc _
  obtain ⟨z, hz⟩ : ∃ z, z = w.heap.size := ⟨_, rfl⟩
  have BZ := Blk.new w 25 #[.int .i64 k, .slice a b.length cap]
  rw [← hz] at BZ
  have HZ := Lib.hid hz
  have hS := r06Signs_any k _ b _ (h.old F0) hl
  unfold RSigOut at hS
  rw [sigR_right hr] at hS
  simp only [Option.isSome_some, Option.getD_some] at hS
  have HS := Lib.hid hS
  have hsl := signsS_len k b
  have HM := Lib.hid (fun n hn => may12 (right_all hr n hn))
  have hfk : foldKeyS k b = ofS 12 (foldS (signsS k b)) := rfl
  rw [hfk]
  obtain ⟨S, hSS⟩ : ∃ S, S = signsS k b := ⟨_, rfl⟩
  rw [← hSS] at HS HM hsl ⊢
  have hfl : (foldS S).length ≤ 2 * S.length := foldAcc_len S
  have HFM := Lib.hid (fold_may HM.out)
  obtain ⟨R, hR⟩ : ∃ R, R = foldS S := ⟨_, rfl⟩
  rw [← hR] at hfl HFM ⊢
  have HR := Lib.hid hR
  have HF0 := Lib.hid F0
  clear h hz hS hfk hSS hR F0 hr HM
  go_enter Tryz.func121, Tryz.ntmps121
  go_upto_region 1 with fail
  rw [← HZ.out]
  generalize (w.alloc (.cells #[.int .i64 k, .slice a b.length cap] 25)) = w0 at *
  have z0 := BZ.cell 0
  have z1 := BZ.cell 1
  simp only [List.getElem?_toArray, List.getElem?_cons_succ, List.getElem?_cons_zero] at z0 z1
  go_wp2_with fail
  refine HS.out.mono ?_
  rintro e w1 ⟨v1, rfl, h1, F1⟩
  obtain ⟨a1, c1, rfl, -⟩ := Ints.form h1
  have HG := Lib.hid (r13Signs_any _ S w1 h1 (by omega))
  rw [← HR.out] at HG
  have HF1 := Lib.hid (HF0.out.trans F1)
  clear h1 F1 HS z0 z1
  go_wp2_with fail
  refine HG.out.mono ?_
  rintro e w2 ⟨v2, rfl, ho2, F2⟩
  have hI2 := (Vals.of_own ho2).1
  obtain ⟨a2, c2, rfl, -⟩ := Ints.form hI2
  have HU := Lib.hid (r06Utf8_may _ R w2 hI2 HFM.out (by omega))
  have HF2 := Lib.hid (HF1.out.trans F2)
  clear ho2 hI2 F2 HG
  go_wp2_with fail
  refine HU.out.mono ?_
  rintro e w3 ⟨v3, rfl, ho3, F3⟩
  have hB3 := (Vals.of_own ho3).1
  obtain ⟨a3, c3, rfl, -⟩ := Vals.form hB3
  have hcv := str_of hB3
  have HF3 := Lib.hid (HF2.out.trans F3)
  clear ho3 hB3 F3 HU
  go_wp2_with fail
  exact bodyPost_ret (v := .tuple #[str (ofS 12 R), .bool true]) (by simp [results, Tryz.results121, go_sem]) rfl ⟨rfl, HF3.out⟩
end Go.Proofs.YtgffhiopbnkjbaaGreatDoor

namespace Go.Q
open Go Go.RowKit
theorem cmpS_drop {a b : List UInt8} {j : Nat} {x y : UInt8} (hx : a[j]? = some x) (hy : b[j]? = some y) : cmpS (a.drop j) (b.drop j) = if x.toNat < y.toNat then -1 else if y.toNat < x.toNat then 1 else cmpS (a.drop (j + 1)) (b.drop (j + 1)) := by
  have h1 : a.drop j = x :: a.drop (j + 1) := by
    obtain ⟨h, rfl⟩ := List.getElem?_eq_some_iff.1 hx
    exact List.drop_eq_getElem_cons h
  have h2 : b.drop j = y :: b.drop (j + 1) := by
    obtain ⟨h, rfl⟩ := List.getElem?_eq_some_iff.1 hy
    exact List.drop_eq_getElem_cons h
  rw [h1, h2]
  simp only [cmpS]
  by_cases h : x = y
  · subst h; simp
  · rw [if_neg h]
    by_cases h3 : x.toNat < y.toNat
    · rw [if_pos h3, if_pos h3]
    · rw [if_neg h3, if_neg h3, if_pos]
      rcases Nat.lt_or_ge y.toNat x.toNat with h4 | h4
      · exact h4
      · exact absurd (UInt8.toNat_inj.1 (by omega)) h
theorem cmpS_zero : ∀ (s t : List UInt8), cmpS s t = 0 ↔ s = t
  | [], [] => by simp [cmpS]
  | [], _ :: _ => by simp [cmpS]
  | _ :: _, [] => by simp [cmpS]
  | x :: s, y :: t => by
    have ih := cmpS_zero s t
    unfold cmpS
    split
    · rename_i h; subst h; rw [ih]; simp
    · rename_i h
      split <;> simp [h]
end Go.Q
namespace Go.Proofs.YtgffhiopbnkjbaaGreatDoor
open Go Go.RowKit Go.Q

set_option maxRecDepth 20000 in
set_option maxHeartbeats 1000000 in
theorem r01Compare_any (v u : Value) (o p : List UInt8) (w : World) (h : Bytes w v o) (hu : Bytes w u p) :
    Calls Tryz.prog 69 #[v, u] w fun e w' => e = .returned (.int .i64 (cmpS o p)) ∧ Fr (fun _ => False) w w' := by
  obtain ⟨a, cap, rfl, hc1, hm1, hx⟩ := Vals.form h
  obtain ⟨b, cbp, rfl, hc2, hm2, hy⟩ := Vals.form hu
  have HX := Lib.hid hx
  have HY := Lib.hid hy
  unfold maxLen at hm1 hm2
  clear h hu hx hy
  go_enter Tryz.func69, Tryz.ntmps69
  go_wp2_with fail
  go_loopg [5] (o.length + p.length) (fun g i wr => ∃ j : Nat, g = o.length + p.length - j ∧ j ≤ o.length ∧ j ≤ p.length ∧ i = .int .i64 j ∧ cmpS o p = cmpS (o.drop j) (p.drop j) ∧ Fr (fun _ => False) w wr)
  case atStart => exact ⟨0, rfl, Nat.zero_le _, Nat.zero_le _, rfl, rfl, Fr.refl _⟩
  case round =>
    obtain ⟨j, hg, hj, hjp, rfl, hE, F⟩ := hrel
    have HG := Lib.hid hg
    have HE := Lib.hid hE
    have HF := Lib.hid F
    clear hg hE
    by_cases hjl : j < o.length
    · obtain ⟨ba, oa, rfl, ha⟩ := HX.out (by omega)
      obtain ⟨x, hxj⟩ : ∃ x, o[j]? = some x := ⟨_, List.getElem?_eq_getElem hjl⟩
      have e1 := F.cell (ha j x hxj) (fun h => h)
      have r1 : (0 : Int) ≤ (j : Int) := by omega
      have r2 : (j : Int) < (o.length : Int) := by omega
      have r5 : decide ((o.length : Int) ≤ (j : Int)) = false := decide_eq_false (by omega)
      have r5N : decide (o.length ≤ j) = false := decide_eq_false (by omega)
      have r5' : decide ((j : Int) < (o.length : Int)) = true := decide_eq_true (by omega)
      have r5'N : decide (j < o.length) = true := decide_eq_true (by omega)
      by_cases hjl2 : j < p.length
      · obtain ⟨bb, ob, rfl, hb⟩ := HY.out (by omega)
        obtain ⟨y, hyj⟩ : ∃ y, p[j]? = some y := ⟨_, List.getElem?_eq_getElem hjl2⟩
        have e2 := F.cell (hb j y hyj) (fun h => h)
        have r4 : (j : Int) < (p.length : Int) := by omega
        have r3 : decide ((p.length : Int) ≤ (j : Int)) = false := decide_eq_false (by omega)
        have r3N : decide (p.length ≤ j) = false := decide_eq_false (by omega)
        have r4' : decide ((j : Int) < (p.length : Int)) = true := decide_eq_true (by omega)
        have r4'N : decide (j < p.length) = true := decide_eq_true (by omega)
        have hcd := Lib.hid (cmpS_drop hxj hyj)
        clear ha hb hxj hyj F
        generalize x.toNat = x at *
        generalize y.toNat = y at *
        by_cases h1 : x < y
        · have hres : cmpS o p = -1 := by rw [HE.out, hcd.out, if_pos h1]
          have HRES := Lib.hid hres
          have q1 : decide ((x : Int) < (y : Int)) = true := decide_eq_true (by omega)
          have q1N : decide (x < y) = true := decide_eq_true h1
          clear hres
          go_wp2_with fail
          go_quiet (fail)
          go_wp2_with fail
          go_ret
          refine ⟨by rw [HRES.out]; rfl, ?_⟩; (first | with_reducible exact HF.out | with_reducible exact Fr.drewN HF.out _ | with_reducible exact Fr.drewN (Fr.drewN HF.out _) _ | with_reducible exact Fr.drewN (Fr.drewN (Fr.drewN HF.out _) _) _)
        · have q1 : decide ((x : Int) < (y : Int)) = false := decide_eq_false (by omega)
          have q1N : decide (x < y) = false := decide_eq_false h1
          by_cases h2 : y < x
          · have hres : cmpS o p = 1 := by rw [HE.out, hcd.out, if_neg h1, if_pos h2]
            have HRES := Lib.hid hres
            have q2 : decide ((y : Int) < (x : Int)) = true := decide_eq_true (by omega)
            have q2N : decide (y < x) = true := decide_eq_true h2
            clear hres
            go_wp2_with fail
            go_quiet (fail)
            go_wp2_with fail
            go_quiet (fail)
            go_wp2_with fail
            go_ret
            refine ⟨by rw [HRES.out]; rfl, ?_⟩; (first | with_reducible exact HF.out | with_reducible exact Fr.drewN HF.out _ | with_reducible exact Fr.drewN (Fr.drewN HF.out _) _ | with_reducible exact Fr.drewN (Fr.drewN (Fr.drewN HF.out _) _) _)
          · have hres : cmpS o p = cmpS (o.drop (j + 1)) (p.drop (j + 1)) := by rw [HE.out, hcd.out, if_neg h1, if_neg h2]
            have HRES := Lib.hid hres
            have q2 : decide ((y : Int) < (x : Int)) = false := decide_eq_false (by omega)
            have q2N : decide (y < x) = false := decide_eq_false h2
            clear hres
            go_wp2_with fail
            go_quiet (fail)
            go_wp2_with fail
            go_quiet (fail)
            go_wp2_with fail
            go_roundg (o.length + p.length - (j + 1))
            case measure => rw [HG.out]; omega
            case rel => refine ⟨j + 1, rfl, by omega, by omega, by go_num, HRES.out, ?_⟩; (first | with_reducible exact HF.out | with_reducible exact Fr.drewN HF.out _ | with_reducible exact Fr.drewN (Fr.drewN HF.out _) _ | with_reducible exact Fr.drewN (Fr.drewN (Fr.drewN HF.out _) _) _)
      · have r3 : decide ((p.length : Int) ≤ (j : Int)) = true := decide_eq_true (by omega)
        have r3N : decide (p.length ≤ j) = true := decide_eq_true (by omega)
        have r4 : decide ((j : Int) < (p.length : Int)) = false := decide_eq_false (by omega)
        have r4N : decide (j < p.length) = false := decide_eq_false (by omega)
        have hres : cmpS o p = 1 := by
          have h1 : o.drop j = x :: o.drop (j + 1) := by
            obtain ⟨h, rfl⟩ := List.getElem?_eq_some_iff.1 hxj
            exact List.drop_eq_getElem_cons h
          have h2 : p.drop j = [] := List.drop_eq_nil_of_le (by omega)
          rw [HE.out, h1, h2]
          rfl
        have HRES := Lib.hid hres
        clear hres ha hxj F
        go_wp2_with fail
        go_quiet (fail)
        go_wp2_with fail
        go_quiet (fail)
        go_wp2_with fail
        go_ret
        refine ⟨by rw [HRES.out]; rfl, ?_⟩; (first | with_reducible exact HF.out | with_reducible exact Fr.drewN HF.out _ | with_reducible exact Fr.drewN (Fr.drewN HF.out _) _ | with_reducible exact Fr.drewN (Fr.drewN (Fr.drewN HF.out _) _) _)
    · obtain rfl : j = o.length := by omega
      have h1 : o.drop o.length = [] := List.drop_length
      have r5 : decide ((o.length : Int) ≤ (o.length : Int)) = true := decide_eq_true (by omega)
      have r5N : decide (o.length ≤ o.length) = true := decide_eq_true (by omega)
      by_cases hlt : o.length < p.length
      · have r3 : (o.length : Int) < (p.length : Int) := by omega
        have r3N : decide (o.length < p.length) = true := decide_eq_true hlt
        have hres : cmpS o p = -1 := by
          rw [HE.out, h1]
          have : p.drop o.length ≠ [] := fun e => by have := drop_nil e; omega
          cases hd : p.drop o.length with
          | nil => exact absurd hd this
          | cons y t => rfl
        have HRES := Lib.hid hres
        clear hres h1 F
        go_wp2_with fail
        go_quiet (fail)
        go_wp2_with fail
        go_ret
        refine ⟨by rw [HRES.out]; rfl, ?_⟩; (first | with_reducible exact HF.out | with_reducible exact Fr.drewN HF.out _ | with_reducible exact Fr.drewN (Fr.drewN HF.out _) _ | with_reducible exact Fr.drewN (Fr.drewN (Fr.drewN HF.out _) _) _)
      · have r3 : ¬ (o.length : Int) < (p.length : Int) := by omega
        have r3N : decide (o.length < p.length) = false := decide_eq_false hlt
        have hres : cmpS o p = 0 := by
          have h2 : p.drop o.length = [] := List.drop_eq_nil_of_le (by omega)
          rw [HE.out, h1, h2]
          rfl
        have HRES := Lib.hid hres
        clear hres h1
        go_wp2_with fail
        go_ret
        exact ⟨by rw [HRES.out]; rfl, F⟩

theorem r01Same_any (v u : Value) (o p : List UInt8) (w : World) (h : Bytes w v o) (hu : Bytes w u p) :
    Calls Tryz.prog 43 #[v, u] w fun e w' => e = .returned (.bool (decide (o = p))) ∧ Fr (fun _ => False) w w' := by
  have H := Lib.hid (r01Compare_any v u o p w h hu)
  clear h hu
  have hq : (cmpS o p == 0) = decide (o = p) := by
    rw [Bool.eq_iff_iff]
    simp [cmpS_zero]
  have HQ := Lib.hid hq
  clear hq
  generalize cmpS o p = c at *
  go_enter Tryz.func43, Tryz.ntmps43
  go_wp2_with fail
  refine H.out.mono ?_
  rintro e w' ⟨rfl, F⟩
  go_wp2_with fail
  go_ret
  exact ⟨by rw [← HQ.out]; rfl, F⟩
end Go.Proofs.YtgffhiopbnkjbaaGreatDoor

namespace Go.Q
open Go Go.RowKit
abbrev hexL : List UInt8 := [48, 49, 50, 51, 52, 53, 54, 55, 56, 57, 97, 98, 99, 100, 101, 102]
theorem hexL_fin : ∀ m : Fin 16, hexL[m.val]? = some (UInt8.ofNat (hexN (m.val : Int)).toNat) := by decide
theorem hexN_fin : ∀ m : Fin 16, (UInt8.ofNat (hexN (m.val : Int)).toNat).toNat = (hexN (m.val : Int)).toNat ∧ 0 ≤ hexN (m.val : Int) := by decide
end Go.Q
namespace Go.Proofs.YtgffhiopbnkjbaaGreatDoor
open Go Go.RowKit Go.Q
set_option linter.unusedSimpArgs false

theorem hexL_index (m : Nat) (h : m < 16) (w : World) : (Instr.index 9 (.string ⟨#[48, 49, 50, 51, 52, 53, 54, 55, 56, 57, 97, 98, 99, 100, 101, 102]⟩) (.int .u8 m)).run Tryz.prog w = .ok (.int .u8 (hexN (m : Int))) w := by
  have hsz : (ByteArray.mk #[48, 49, 50, 51, 52, 53, 54, 55, 56, 57, 97, 98, 99, 100, 101, 102]).size = 16 := rfl
  rw [run_index_string w 9 _ .u8 m Tryz.underlying9, dif_pos ⟨by omega, by rw [hsz]; omega⟩]
  have h1 := hexL_fin ⟨m, h⟩
  have h2 := hexN_fin ⟨m, h⟩
  simp only at h1 h2
  obtain ⟨hl, he⟩ := List.getElem?_eq_some_iff.1 h1
  have h3 : ((UInt8.ofNat (hexN (m : Int)).toNat).toNat : Int) = hexN (m : Int) := by omega
  rw [← h3, ← he]
  simp [ByteArray.getElem_eq_getElem_data]

set_option maxRecDepth 20000 in
set_option maxHeartbeats 2000000 in
theorem r01Hex_any (v : Value) (l : List UInt8) (w : World) (h : Bytes w v l) (hl : l.length ≤ 109951162) :
    Calls Tryz.prog 122 #[v] w fun e w' => e = .returned (str (hexS l)) ∧ Fr (fun _ => False) w w' := by
  obtain ⟨a, cap, rfl, -, -, hx⟩ := h.form
  have HX := Lib.hid hx
  obtain ⟨R, hR⟩ : ∃ R, R = hexS l := ⟨_, rfl⟩
  rw [← hR]
  have HR := Lib.hid hR
  clear h hx hR
  go_enter Tryz.func122, Tryz.ntmps122
  go_wp2_with fail
  go_loopg [3, 4] l.length (fun g s i wr => ∃ (j L : Nat) (a1 : Option Addr) (c1 : Nat), g = l.length - j ∧ j ≤ l.length ∧ s = .slice a1 L c1 ∧ i = .int .i64 j ∧ L = (hexS (l.take j)).length ∧ wr.ownsRow w.heap.size 5 1 (.slice a1 L c1) L (Lib.byteCells (hexS (l.take j))) ∧ Fr (fun _ => False) w wr)
  case atStart => exact ⟨0, 0, none, 0, rfl, Nat.zero_le _, rfl, rfl, rfl, ⟨rfl, .inl ⟨rfl, rfl⟩⟩, Fr.refl _⟩
  case round =>
    obtain ⟨j, L, a1, c1, hg, hj, rfl, rfl, hL, hO, F⟩ := hrel
    have HG := Lib.hid hg
    have HL := Lib.hid hL
    have HO := Lib.hid hO
    have HF := Lib.hid F
    have hLl : L ≤ 300000000 := by rw [hL, hexS_len, List.length_take]; omega
    clear hg hL hO
    by_cases hjl : j < l.length
    · obtain ⟨b, off, rfl, hy⟩ := HX.out (by omega)
      obtain ⟨x, hxj⟩ : ∃ x, l[j]? = some x := ⟨_, List.getElem?_eq_getElem hjl⟩
      have ex := F.cell (hy j x hxj) (fun h => h)
      have HT := Lib.hid (hexS_take hxj)
      have hx256 := x.toNat_lt
      obtain ⟨y, hyx⟩ : ∃ y, y = x.toNat := ⟨_, rfl⟩
      rw [← hyx] at ex hx256
      obtain ⟨q, hq⟩ : ∃ q, q = y / 16 := ⟨_, rfl⟩
      obtain ⟨r, hr⟩ : ∃ r, r = y % 16 := ⟨_, rfl⟩
      have hq16 : q < 16 := by omega
      have hr16 : r < 16 := by omega
      have hqi : (y : Int) / 16 = (q : Int) := by omega
      have hri : (y : Int) % 16 = (r : Int) := by omega
      have hh : hex1 x = [UInt8.ofNat (hexN (q : Int)).toNat, UInt8.ofNat (hexN (r : Int)).toNat] := by
        unfold hex1
        rw [← hyx, hqi, ← hr]
      have i1 := hexL_index q hq16
      have i2 := hexL_index r hr16
      have k1 := hexN_fin ⟨q, hq16⟩
      have k2 := hexN_fin ⟨r, hr16⟩
      simp only at k1 k2
      generalize hexN (q : Int) = d1 at *
      generalize hexN (r : Int) = d2 at *
      have FD : Fr (fun _ => False) wr wr.drew := (Fr.refl wr).drew
      have hsrc : Bytes (wr.drew.alloc (.cells #[.int .u8 d1, .int .u8 d2] 5)) (.slice (some ⟨wr.drew.heap.size, 0, none⟩) 2 2) [UInt8.ofNat d1.toNat, UInt8.ofNat d2.toNat] := by
        have BX := Blk.new wr.drew 5 #[.int .u8 d1, .int .u8 d2]
        have e1 : ((UInt8.ofNat d1.toNat).toNat : Int) = d1 := by omega
        have e2 : ((UInt8.ofNat d2.toNat).toNat : Int) = d2 := by omega
        have ec : (#[.int .u8 d1, .int .u8 d2] : Array Value) = (Lib.byteCells [UInt8.ofNat d1.toNat, UInt8.ofNat d2.toNat]).toArray := by
          simp only [Lib.byteCells, List.map_cons, List.map_nil, e1, e2]
        have BX' : Blk (wr.drew.alloc (.cells #[.int .u8 d1, .int .u8 d2] 5)) wr.drew.heap.size 5 (Lib.byteCells [UInt8.ofNat d1.toNat, UInt8.ofNat d2.toNat]).toArray := by rw [← ec]; exact BX
        exact Vals.of_block BX' (by simp [Lib.byteCells]; unfold maxLen; omega)
      have F3 : Fr (fun _ => False) wr.drew (wr.drew.alloc (.cells #[.int .u8 d1, .int .u8 d2] 5)) := (Fr.refl wr.drew).alloc _
      obtain ⟨v4, w4, hr4, ho4, F4, _⟩ := append_bytes (ownsRow_fr (ownsRow_fr HO.out FD (fun _ _ h => h)) F3 (fun _ _ h => h)) (some ⟨wr.drew.heap.size, 0, none⟩) 2 2 _ hsrc (by omega) (Nat.le_trans (F.trans FD).size F3.size)
      have hvb := (Vals.of_own HO.out).2
      have HF4 := Lib.hid (((F.trans FD).trans F3).trans' F4 (fun i hi e => by have := hvb i e; omega))
      obtain ⟨a4, m4, c4, rfl, rfl⟩ := own_shape ho4
      have hT2 := HT.out
      rw [hh] at hT2
      rw [← hT2] at ho4
      have HO4 := Lib.hid ho4
      have HRUN := Lib.hid hr4
      have HT2 := Lib.hid hT2
      have q1 : (0 : Int) ≤ (j : Int) := by omega
      have q2 : (j : Int) < (l.length : Int) := by omega
      have hti : (y : Int).tmod 16 = (r : Int) := by rw [Int.tmod_eq_emod_of_nonneg (by omega)]; exact hri
      have w1 : IntKind.u8.wrap (q : Int) = (q : Int) := by simp [IntKind.wrap, IntKind.signed, IntKind.bits]; omega
      have w2 : IntKind.u8.wrap (r : Int) = (r : Int) := by simp [IntKind.wrap, IntKind.signed, IntKind.bits]; omega
      clear hy hxj hyx hq hr hh FD k1 k2 hsrc F3 hr4 ho4 F4 hvb hT2 HT F
      go_upto_region 5 with fail
      go_region_law (first | (refine step_append_run (by rfl) (.tmp 11) (.tmp 24) 23 (by rfl) _ w4 (by exact HRUN.out) ?_) | fail)
      all_goals
        go_wp2_with fail
        go_roundg (l.length - (j + 1))
        case measure => rw [HG.out]; omega
        case rel => exact ⟨j + 1, L + 2, a4, c4, rfl, by omega, rfl, by go_num, by rw [HT2.out, List.length_append, ← HL.out]; rfl, HO4.out, HF4.out⟩
    · obtain rfl : j = l.length := by omega
      have q2 : ¬ (l.length : Int) < (l.length : Int) := by omega
      have hO2 := HO.out
      have hL2 := HL.out
      rw [List.take_length, ← HR.out] at hO2 hL2
      have hb := (Vals.of_own hO2).1
      have hcv := str_of hb
      clear hb hO2 hL2
      go_wp2_with fail
      go_ret
      exact ⟨rfl, HF.out⟩
end Go.Proofs.YtgffhiopbnkjbaaGreatDoor

namespace Go.Q
open Go Go.RowKit
theorem textRead_err {l : List UInt8} {e : Int} (h : textReadS l = .error e) : e ≠ 0 := by
  unfold textReadS at h
  split at h
  · rename_i e' he
    cases h
    exact Go.Proofs.YtgffhiopbnkjbaaGreatDoor.readS_err he
  · split at h
    · cases h; decide
    · split at h
      · cases h; decide
      · split at h
        · cases h
        · cases h; decide
theorem oid_arcs {o : List Int} (ho : oidOk o = true) : ∀ n ∈ o, 0 ≤ n ∧ n ≤ 2147483647 := by
  intro n hn
  simp only [oidOk, Bool.and_eq_true, decide_eq_true_eq] at ho
  have := List.all_eq_true.1 ho.1.2 n hn
  simp only [arcOk, decide_eq_true_eq] at this
  omega
end Go.Q
namespace Go.Proofs.YtgffhiopbnkjbaaGreatDoor
open Go Go.RowKit Go.Q
set_option linter.unusedSimpArgs false

set_option maxRecDepth 20000 in
set_option maxHeartbeats 1000000 in
theorem r14Text_any (v : Value) (b : List UInt8) (w : World) (h : Bytes w v b) (hl : b.length ≤ 16777216) :
    Calls Tryz.prog 27 #[v] w fun e w' => WordsOut w' b e ∧ Fr (fun _ => False) w w' := by
  obtain ⟨a, cap, rfl, -⟩ := h.form
  obtain ⟨z, hz⟩ : ∃ z, z = w.heap.size := ⟨_, rfl⟩
  have BZ := Blk.new w 25 #[.int .i64 0, .slice none 0 0]
  have F0 : Fr (fun _ => False) w (w.alloc (.cells #[.int .i64 0, .slice none 0 0] 25)) := (Fr.refl w).alloc _
  rw [← hz] at BZ
  have hzw : ∀ k, k < w.heap.size → k = z → False := fun k hk e => by omega
  have HZ := Lib.hid hz
  have hT := r06Read_any _ b 0 w _ h F0 (by omega) hl
  unfold RTextOut at hT
  rw [List.drop_zero] at hT
  have HT := Lib.hid hT
  have HF0 := Lib.hid F0
  have HZW := Lib.hid hzw
  clear h hz F0 hzw hT
  go_enter Tryz.func27, Tryz.ntmps27
  go_upto_region 1 with fail
  rw [← HZ.out]
  generalize (w.alloc (.cells #[.int .i64 0, .slice none 0 0] 25)) = w0 at *
  go_wp2_with fail
  refine HT.out.mono ?_
  rintro e w1 ⟨hout, F⟩
  replace BZ := BZ.fr F (fun h => h)
  have HF := Lib.hid (HF0.out.trans F)
  clear F HF0 HT
  cases hr : textReadS b with
  | error x =>
    rw [hr] at hout
    subst hout
    have hx := textRead_err hr
    have hx1 : (x == 0) = false := beq_eq_false_iff_ne.2 hx
    have HRR := Lib.hid hr
    go_upto_region 2 with fail
    have BZ4 := BZ.alloc (.cells #[.int .i64 0, .slice none 0 0] 25)
    have BY4 := Blk.new w1 25 #[.int .i64 0, .slice none 0 0]
    have F4 : Fr (fun _ => False) w1 (w1.alloc (.cells #[.int .i64 0, .slice none 0 0] 25)) := (Fr.refl w1).alloc _
    obtain ⟨y, hy⟩ : ∃ y, y = w1.heap.size := ⟨_, rfl⟩
    rw [← hy] at BY4 ⊢
    clear hy
    generalize (w1.alloc (.cells #[.int .i64 0, .slice none 0 0] 25)) = w4 at *
    have y0 := BY4.cell 0
    have y1 := BY4.cell 1
    simp only [List.getElem?_toArray, List.getElem?_cons_succ, List.getElem?_cons_zero] at y0 y1
    have SZ := BZ4.cell
    have ZZ := BZ4.frozen
    obtain ⟨BZ5, F5⟩ := set2 BZ4 (.int .i64 0) (.slice none 0 0)
    have n0 := BZ5.cell 0
    have n1 := BZ5.cell 1
    simp only [List.getElem?_toArray, List.getElem?_cons_succ, List.getElem?_cons_zero] at n0 n1
    have HF5 := Lib.hid ((HF.out.trans F4).trans' F5 HZW.out)
    clear hr F4 BZ BZ4 BZ5 F5 BY4 hx
    go_wp2_with fail
    refine bodyPost_ret (v := .tuple #[.agg #[.int .i64 0, .slice none 0 0], .bool false]) (by simp [results, Tryz.results27, go_sem, n0, n1]) rfl ⟨?_, HF5.out⟩
    unfold WordsOut
    rw [HRR.out]
  | ok kbn =>
    obtain ⟨k, t, n⟩ := kbn
    rw [hr] at hout
    obtain ⟨u, rfl, hu⟩ := hout
    have HRR := Lib.hid hr
    obtain ⟨au, cu, rfl, -⟩ := hu.form
    go_upto_region 2 with fail
    have BZ4 := BZ.alloc (.cells #[.int .i64 k, .slice au t.length cu] 25)
    have BY4 := Blk.new w1 25 #[.int .i64 k, .slice au t.length cu]
    have F4 : Fr (fun _ => False) w1 (w1.alloc (.cells #[.int .i64 k, .slice au t.length cu] 25)) := (Fr.refl w1).alloc _
    obtain ⟨y, hy⟩ : ∃ y, y = w1.heap.size := ⟨_, rfl⟩
    rw [← hy] at BY4 ⊢
    clear hy
    generalize (w1.alloc (.cells #[.int .i64 k, .slice au t.length cu] 25)) = w4 at *
    have y0 := BY4.cell 0
    have y1 := BY4.cell 1
    simp only [List.getElem?_toArray, List.getElem?_cons_succ, List.getElem?_cons_zero] at y0 y1
    have SZ := BZ4.cell
    have ZZ := BZ4.frozen
    obtain ⟨BZ5, F5⟩ := set2 BZ4 (.int .i64 k) (.slice au t.length cu)
    have n0 := BZ5.cell 0
    have n1 := BZ5.cell 1
    simp only [List.getElem?_toArray, List.getElem?_cons_succ, List.getElem?_cons_zero] at n0 n1
    have HF5 := Lib.hid ((HF.out.trans F4).trans' F5 HZW.out)
    have HB := Lib.hid (hu.old HF5.out)
    clear hr F4 BZ BZ4 BZ5 F5 BY4 hu
    go_wp2_with fail
    refine bodyPost_ret (v := .tuple #[.agg #[.int .i64 k, .slice au t.length cu], .bool true]) (by simp [results, Tryz.results27, go_sem, n0, n1]) rfl ⟨?_, HF5.out⟩
    unfold WordsOut
    rw [HRR.out]
    exact ⟨_, rfl, HB.out⟩

set_option maxRecDepth 20000 in
set_option maxHeartbeats 1000000 in
theorem r14partKey_any (x y : Value) (o : List Int) (b : List UInt8) (w : World) (hx : Ints w x o) (hy : Bytes w y b) (ho : oidOk o = true) (hl : b.length ≤ 10000000) :
    Calls Tryz.prog 83 #[.agg #[x, y]] w fun e w' => e = .returned (str (attrKeyS o b)) ∧ Fr (fun _ => False) w w' := by
  obtain ⟨ax, cx, rfl, -⟩ := Ints.form hx
  obtain ⟨ay, cy, rfl, -⟩ := Vals.form hy
  obtain ⟨z, hz⟩ : ∃ z, z = w.heap.size := ⟨_, rfl⟩
  have BZ := Blk.new w 63 #[.slice ax o.length cx, .slice ay b.length cy]
  have F0 : Fr (fun _ => False) w (w.alloc (.cells #[.slice ax o.length cx, .slice ay b.length cy] 63)) := (Fr.refl w).alloc _
  have HT := Lib.hid (r04Text_any _ o _ (hx.old F0) (oid_arcs ho) (by have := (nums_ok ho).2.1; omega))
  have HY := Lib.hid (hy.old F0)
  rw [← hz] at BZ
  have HF0 := Lib.hid F0
  have HZ := Lib.hid hz
  have hk : attrKeyS o b = oidTextS o ++ (match textReadS b with | .ok (k, t, _) => [61, 116] ++ hexS (foldKeyS k t) | .error _ => [61, 98] ++ hexS b) := rfl
  have HK := Lib.hid hk
  have ho0 := Lib.hid ho
  clear hx hy F0 hz ho hk
  have hol : o.length ≤ 32 := (nums_ok ho0.out).2.1
  have hot : (oidTextS o).length ≤ 1000 := by
    have hall := ho0.out
    simp only [oidOk, Bool.and_eq_true, decide_eq_true_eq] at hall
    have := oidText_len (o := o) (fun n hn => by
      have := List.all_eq_true.1 hall.1.2 n hn
      simp only [arcOk, decide_eq_true_eq] at this
      omega)
    omega
  have hos : (ByteArray.mk (oidTextS o).toArray).size = (oidTextS o).length := by simp [ByteArray.size]
  generalize oidTextS o = ot at *
  go_enter Tryz.func83, Tryz.ntmps83
  go_upto_region 1 with fail
  rw [← HZ.out]
  generalize (w.alloc (.cells #[.slice ax o.length cx, .slice ay b.length cy] 63)) = w0 at *
  have z0 := BZ.cell 0
  simp at z0
  go_wp2_with fail
  refine HT.out.mono ?_
  rintro e w1 ⟨rfl, F1⟩
  have BZ1 := BZ.fr F1 (fun h => h)
  have z1 := BZ1.cell 1
  simp at z1
  have HY1 := Lib.hid (HY.out.old F1)
  have HF1 := Lib.hid (HF0.out.trans F1)
  clear HT HY HF0 F1 z0 BZ
  go_wp2_with fail
  refine (r14Text_any _ b w1 HY1.out (by omega)).mono ?_
  rintro e w2 ⟨hout, F2⟩
  have BZ2 := BZ1.fr F2 (fun h => h)
  have HY2 := Lib.hid (HY1.out.old F2)
  have HF2 := Lib.hid (HF1.out.trans F2)
  unfold WordsOut at hout
  clear HY1 HF1 F2 z1 BZ1
  cases hr : textReadS b with
  | error x =>
    rw [hr] at hout
    subst hout
    have F3 : Fr (fun _ => False) w2 (w2.alloc (.cells #[.int .i64 0, .slice none 0 0] 25)) := (Fr.refl w2).alloc _
    have BZ3 := BZ2.fr F3 (fun h => h)
    have z1 := BZ3.cell 1
    simp only [List.getElem?_toArray, List.getElem?_cons_succ, List.getElem?_cons_zero] at z1
    have HX := Lib.hid (r01Hex_any _ b _ (HY2.out.old F3) (by omega))
    have HF3 := Lib.hid (HF2.out.trans F3)
    have hkk := HK.out
    rw [hr] at hkk
    have HKK := Lib.hid hkk
    have hhl := hexS_len b
    have hhs : (ByteArray.mk (hexS b).toArray).size = (hexS b).length := by simp [ByteArray.size]
    clear hr hkk HY2 HF2 F3 BZ2 BZ3
    generalize hexS b = hb at *
    go_wp2_with fail
    refine HX.out.mono ?_
    rintro e w4 ⟨rfl, F4⟩
    go_wp2_with fail
    go_ret
    refine ⟨congrArg (fun x : ByteArray => Ending.returned (.string x)) ?_, HF3.out.trans F4⟩
    rw [HKK.out, show ot ++ ([61, 98] ++ hb) = ((ot ++ [61]) ++ [98]) ++ hb from by simp, ← ba_cat, ← ba_cat, ← ba_cat]
  | ok kbn =>
    obtain ⟨k, t, n⟩ := kbn
    rw [hr] at hout
    obtain ⟨u, rfl, hu⟩ := hout
    obtain ⟨hrt, htl⟩ := textRead_ok hr
    obtain ⟨au, cu, rfl, -⟩ := hu.form
    have F3 : Fr (fun _ => False) w2 (w2.alloc (.cells #[.int .i64 k, .slice au t.length cu] 25)) := (Fr.refl w2).alloc _
    have HX := Lib.hid (r13Key_any k _ t _ (hu.old F3) hrt (by omega))
    have HF3 := Lib.hid (HF2.out.trans F3)
    have hkk := HK.out
    rw [hr] at hkk
    simp only at hkk
    have HKK := Lib.hid hkk
    have hfl := foldKey_len k t
    clear hr hkk HY2 HF2 F3 BZ2 hu hrt
    generalize foldKeyS k t = fk at *
    go_upto_region 4 with fail
    have BY := Blk.new w2 25 #[.int .i64 k, .slice au t.length cu]
    obtain ⟨y, hy⟩ : ∃ y, y = w2.heap.size := ⟨_, rfl⟩
    rw [← hy] at BY ⊢
    clear hy
    generalize (w2.alloc (.cells #[.int .i64 k, .slice au t.length cu] 25)) = w3 at *
    have y0 := BY.cell 0
    have y1 := BY.cell 1
    simp only [List.getElem?_toArray, List.getElem?_cons_succ, List.getElem?_cons_zero] at y0 y1
    go_wp2_with fail
    refine HX.out.mono ?_
    rintro e w4 ⟨rfl, F4⟩
    obtain ⟨cp, wc, hcv, hbv, FC, -⟩ := bytes_of_str w4 fk (by omega)
    have HXX := Lib.hid (r01Hex_any _ fk wc hbv (by omega))
    have HF4 := Lib.hid ((HF3.out.trans F4).trans FC)
    have hhl := hexS_len fk
    have hhs : (ByteArray.mk (hexS fk).toArray).size = (hexS fk).length := by simp [ByteArray.size]
    clear HX HF3 F4 hbv FC BY y0 y1
    generalize hexS fk = hb at *
    go_wp2_with fail
    refine HXX.out.mono ?_
    rintro e w5 ⟨rfl, F5⟩
    go_wp2_with fail
    go_ret
    refine ⟨congrArg (fun x : ByteArray => Ending.returned (.string x)) ?_, HF4.out.trans F5⟩
    rw [HKK.out, show ot ++ ([61, 116] ++ hb) = ((ot ++ [61]) ++ [116]) ++ hb from by simp, ← ba_cat, ← ba_cat, ← ba_cat]
end Go.Proofs.YtgffhiopbnkjbaaGreatDoor

namespace Go.Q
open Go
theorem one_err {l : List UInt8} {e : Int} (h : readS l = .error e) : oneS l = .error e := by unfold oneS; rw [h]
theorem one_end {l : List UInt8} {t : Tag} {n k : Nat} (h : readS l = .ok (t, n, k)) (hn : l.length - k < n) : oneS l = .error 3 := by unfold oneS; rw [h]; exact if_pos hn
theorem one_ok {l : List UInt8} {t : Tag} {n k : Nat} (h : readS l = .ok (t, n, k)) (hn : ¬ l.length - k < n) : oneS l = .ok (t, k, k + n) := by unfold oneS; rw [h]; exact if_neg hn
end Go.Q
namespace Go.Proofs.YtgffhiopbnkjbaaGreatDoor
open Go Go.RowKit Go.Q
set_option linter.unusedSimpArgs false

set_option maxRecDepth 20000 in
set_option maxHeartbeats 2000000 in
theorem r08Wholes_any (v : Value) (l : List UInt8) (w : World) (h : Bytes w v l) (hl : l.length ≤ 16777216) :
    Calls Tryz.prog 118 #[v, .int .i64 0] w fun e w' => wholesOut (allS l) e ∧ Fr (fun _ => False) w w' := by
  obtain ⟨a, cap, rfl, hcap, hcm, -⟩ := h.form
  have H := Lib.hid h
  have hcm2 : cap ≤ 9223372036854775807 := by unfold maxLen at hcm; omega
  clear h
  go_enter Tryz.func118, Tryz.ntmps118
  go_wp2_with fail
  go_loopg [1, 6] l.length (fun g pp ls wr => ∃ (q : Nat) (a2 : Option Addr) (m c2 : Nat) (xs : List Value), g = l.length - q ∧ q ≤ l.length ∧ m ≤ q ∧ pp = .int .i64 q ∧ ls = .slice a2 m c2 ∧ wr.ownsRow w.heap.size 23 1 (.slice a2 m c2) m xs ∧ Fr (fun _ => False) w wr ∧ (∀ e, allS (l.drop q) = .error e → allS l = .error e) ∧ (∀ ls, allS (l.drop q) = .ok ls → ∃ ls', allS l = .ok ls' ∧ ls'.length = m + ls.length))
  case atStart => exact ⟨0, none, 0, 0, [], rfl, Nat.zero_le _, Nat.le_refl _, rfl, rfl, ⟨rfl, .inl ⟨rfl, rfl⟩⟩, Fr.refl _, fun e h => h, fun ls h => ⟨ls, h, by omega⟩⟩
  case round =>
    obtain ⟨q, a2, m, c2, xs, hg, hq, hmq, rfl, rfl, ho, F, hE, hO⟩ := hrel
    have HG := Lib.hid hg
    have HE := Lib.hid hE
    have HO := Lib.hid hO
    have HOW := Lib.hid ho
    have HF := Lib.hid F
    have hv := Lib.hid (Vals.of_own ho).2
    clear hg hE hO ho F
    by_cases hql : q < l.length
    · have q1 : (q : Int) < (l.length : Int) := by omega
      have hne : l.drop q ≠ [] := fun e => by have := drop_nil e; omega
      have HNE := Lib.hid hne
      have HR := Lib.hid (r02Read_any _ l q wr (H.out.old HF.out) hq (by omega))
      clear hne
      go_wp2_with fail
      refine HR.out.mono ?_
      rintro e w2 ⟨rfl, F2⟩
      have HOW2 := Lib.hid (ownsRow_fr HOW.out F2 (fun _ _ h => h))
      have HF2 := Lib.hid (HF.out.trans F2)
      clear HR HOW HF F2
      cases hr : readS (l.drop q) with
      | error x =>
        have hx : x ≠ 0 := readS_err hr
        have hx1 : (x == 0) = false := beq_eq_false_iff_ne.2 hx
        have hx2 : (x != 0) = true := by simpa using hx
        have hA := Lib.hid (HE.out x (allS_err HNE.out (one_err hr)))
        rw [show rReadV q (.error x) = .tuple #[.agg #[.int .i64 0, .int .i64 0, .bool false], .int .i64 0, .int .i64 q, .int .i64 x] from rfl]
        clear hr hx
        go_wp2_with fail
        refine bodyPost_ret (v := .tuple #[.slice none 0 0, .int .i64 x]) (by simp [results, Tryz.results118, go_sem]) rfl ⟨?_, HF2.out.alloc _⟩
        rw [hA.out]
        rfl
      | ok tnk =>
        obtain ⟨⟨t1, t2, t3⟩, n, k⟩ := tnk
        rw [show rReadV q (.ok (⟨t1, t2, t3⟩, n, k)) = .tuple #[.agg #[.int .i64 t1, .int .i64 t2, .bool t3], .int .i64 n, .int .i64 ((q + k : Nat) : Int), .int .i64 0] from rfl]
        have hk := (readS_le hr).1
        have hn16 := (readS_le hr).2
        have hkp := readS_pos hr
        rw [List.length_drop] at hk
        by_cases h3 : (l.drop q).length - k < n
        · have hA := Lib.hid (HE.out 3 (allS_err HNE.out (one_end hr h3)))
          rw [List.length_drop] at h3
          obtain ⟨s, hs⟩ : ∃ s, s = q + k := ⟨_, rfl⟩
          rw [← hs]
          have q3 : (l.length : Int) - (s : Int) < (n : Int) := by omega
          have hsl : s ≤ l.length := by omega
          clear hr hs
          go_wp2_with fail
          refine bodyPost_ret (v := .tuple #[.slice none 0 0, .int .i64 3]) (by simp [results, Tryz.results118, go_sem]) rfl ⟨?_, HF2.out.alloc _⟩
          rw [hA.out]
          rfl
        · have hA := Lib.hid (allS_ok HNE.out (one_ok hr h3))
          rw [List.length_drop] at h3
          obtain ⟨s, hs⟩ : ∃ s, s = q + k := ⟨_, rfl⟩
          rw [← hs]
          obtain ⟨r, hrr⟩ : ∃ r, r = s + n := ⟨_, rfl⟩
          have q3 : ¬ (l.length : Int) - (s : Int) < (n : Int) := by omega
          have hsl : s ≤ l.length := by omega
          have hsi : (s : Int) + (n : Int) = (r : Int) := by omega
          have hwi : IntKind.i64.wrap (r : Int) = (r : Int) := by simp [IntKind.wrap, IntKind.signed, IntKind.bits]; omega
          have r0 : (0 : Int) ≤ (q : Int) := by omega
          have r1 : (0 : Int) ≤ (r : Int) := by omega
          have r2 : (q : Int) ≤ (r : Int) := by omega
          have r2N : q ≤ r := by omega
          have r3 : (r : Int) ≤ (cap : Int) := by omega
          have r3N : r ≤ cap := by omega
          have hql2 : q ≤ cap := by omega
          have hrl : r ≤ l.length := by omega
          have hrk : r = q + (k + n) := by omega
          have hqr : q < r := by omega
          have HRK := Lib.hid hrk
          obtain ⟨A, hA2⟩ : ∃ A, A = Option.map (fun x => x.add q) a := ⟨_, rfl⟩
          obtain ⟨cp, hcp⟩ : ∃ cp, cp = cap - q := ⟨_, rfl⟩
          obtain ⟨rm, hrm⟩ : ∃ rm, rm = r - q := ⟨_, rfl⟩
          obtain ⟨gg, hgg⟩ : ∃ gg, gg = w2.heap.size + 1 := ⟨_, rfl⟩
          have BU := Blk.new (w2.alloc (.cells #[.int .i64 t1, .int .i64 t2, .bool t3] 36)) 23 #[.slice A rm cp]
          rw [World.size_alloc, ← hgg] at BU
          have F3 : Fr (fun _ => False) w2 ((w2.alloc (.cells #[.int .i64 t1, .int .i64 t2, .bool t3] 36)).alloc (.cells #[.slice A rm cp] 23)) := ((Fr.refl w2).alloc _).alloc _
          obtain ⟨v', w', hrun, ho7, F7, -⟩ := append_one (ownsRow_fr HOW2.out F3 (fun _ _ h => h)) gg _ BU rfl (by omega) ((HF2.out.trans F3).size)
          obtain ⟨a7, n7, c7, rfl, hn7⟩ := own_shape ho7
          subst hn7
          have HF7 := Lib.hid ((HF2.out.trans F3).trans' F7 (fun i hi e => absurd hi (by have := (hv.out i e).1; omega)))
          have HO7 := Lib.hid ho7
          have HRUN := Lib.hid hrun
          replace hA2 := hA2.symm
          replace hcp := hcp.symm
          replace hrm := hrm.symm
          have HGG := Lib.hid hgg
          clear hr hs hrr hrk hgg BU F3 hrun F7 ho7
          go_wp2_with (at_builtin; refine wpList_append_run (by rfl) (.tmp 32) (.tmp 39) 137 (by rfl) _ w' (by have h := HRUN.out; rw [HGG.out] at h; exact h) ?_)
          go_roundg (l.length - r)
          case measure => rw [HG.out]; omega
          refine ⟨r, a7, m + 1, c7, xs ++ [.slice A rm cp], rfl, hrl, by omega, rfl, rfl, HO7.out, HF7.out, fun e h => ?_, fun ls h => ?_⟩
          · rw [HRK.out, ← List.drop_drop] at h
            exact HE.out e (by rw [hA.out, h])
          · rw [HRK.out, ← List.drop_drop] at h
            obtain ⟨ls', h1, h2⟩ := HO.out _ (by rw [hA.out, h])
            exact ⟨ls', h1, by rw [h2]; simp only [List.length_cons]; omega⟩
    · have q1 : ¬ (q : Int) < (l.length : Int) := by omega
      have hd : l.drop q = [] := List.drop_eq_nil_of_le (by omega)
      obtain ⟨ls', h1, h2⟩ := HO.out [] (by rw [hd]; rfl)
      have H1 := Lib.hid h1
      have H2 := Lib.hid h2
      clear h1 h2 hd
      go_wp2_with fail
      refine bodyPost_ret (v := .tuple #[.slice a2 m c2, .int .i64 0]) (by simp [results, Tryz.results118, go_sem]) rfl ⟨?_, HF.out⟩
      rw [H1.out]
      exact ⟨a2, c2, by rw [H2.out]; simp⟩
end Go.Proofs.YtgffhiopbnkjbaaGreatDoor

namespace Go.Proofs.YtgffhiopbnkjbaaGreatDoor
open Go Go.RowKit Go.Q
set_option linter.unusedSimpArgs false

set_option maxRecDepth 20000 in
set_option maxHeartbeats 2000000 in
theorem r04digits_any : ∀ (n : Nat), n ≤ 2147483647 → ∀ (w : World),
    Calls Tryz.prog 205 #[.int .i64 n] w fun e w' => ∃ v, e = .returned v ∧ w'.ownsRow w.heap.size 5 1 v (base128 n).length (Lib.byteCells (base128 n)) ∧ Fr (fun _ => False) w w' := by
  intro n
  induction n using Nat.strongRecOn with
  | _ n ih =>
  intro hn w
  by_cases h128 : n < 128
  · have q1 : (n : Int) < 128 := by omega
    have hL := base128_small h128
    rw [hL]
    have hw8 : IntKind.u8.wrap (n : Int) = (n : Int) := by simp [IntKind.wrap, IntKind.signed, IntKind.bits]; omega
    have hk : (w.alloc (.cells #[.int .u8 n] 5)).ownsRow w.heap.size 5 1 (.slice (some ⟨w.heap.size, 0, none⟩) 1 1) 1 (Lib.byteCells [UInt8.ofNat n]) := by
      have e8 := u8 n (by omega)
      have BX := Blk.new w 5 #[.int .u8 n]
      have BX' : Blk (w.alloc (.cells #[.int .u8 n] 5)) w.heap.size 5 (Lib.byteCells [UInt8.ofNat n]).toArray := by
        simpa [Lib.byteCells, e8] using BX
      exact own_bytes BX' (by simp) w.heap.size (Nat.le_refl _)
    have HK := Lib.hid hk
    clear hk hL ih
    go_enter Tryz.func205, Tryz.ntmps205
    go_wp2_with fail
    go_ret
    exact ⟨_, rfl, HK.out, (Fr.refl w).alloc _⟩
  · have q1 : ¬ (n : Int) < 128 := by omega
    obtain ⟨front, e1, e2⟩ := base128_step (n := n) (by omega) hn
    have HC := Lib.hid (ih (n / 128) (by omega) (by omega) w)
    have hq : (n : Int) / 128 = ((n / 128 : Nat) : Int) := by omega
    have HE1 := Lib.hid e1
    have HE2 := Lib.hid e2
    obtain ⟨y, hy⟩ : ∃ y, y = n / 128 % 128 := ⟨_, rfl⟩
    have hyl : y < 128 := by omega
    rw [← hy] at HE1 HE2
    obtain ⟨r, hr⟩ : ∃ r, r = n % 128 := ⟨_, rfl⟩
    have hrl : r < 128 := by omega
    rw [← hr] at HE2
    have hri : (n : Int) % 128 = (r : Int) := by omega
    have hw8 : IntKind.u8.wrap (r : Int) = (r : Int) := by simp [IntKind.wrap, IntKind.signed, IntKind.bits]; omega
    have hw9 : IntKind.u8.wrap ((y : Int) + 128) = (y : Int) + 128 := by simp [IntKind.wrap, IntKind.signed, IntKind.bits]; omega
    generalize n / 128 = m at *
    clear ih e1 e2 hy hr
    go_enter Tryz.func205, Tryz.ntmps205
    go_wp2_with fail
    refine HC.out.mono ?_
    rintro e w1 ⟨v, rfl, ho, F1⟩
    obtain ⟨a, l, c, rfl, rfl⟩ := own_shape ho
    rw [HE1.out] at ho
    have hbl : (base128 m).length = front.length + 1 := by rw [HE1.out]; simp
    rw [hbl]
    have hcells : Lib.byteCells (front ++ [UInt8.ofNat y]) = Lib.byteCells front ++ [.int .u8 y] := by
      have := u8 y (by omega)
      simp [Lib.byteCells, this]
    have hlen : (front ++ [UInt8.ofNat y]).length = front.length + 1 := by simp
    rw [hlen, hcells] at ho
    obtain ⟨g, rfl, hg1, hg2, -, hlc, hcm, hfz, hcell, hset, F2⟩ := own_set ho front.length (by omega) (.int .u8 ((y : Int) + 128))
    have hfl : (Lib.byteCells front).length = front.length := byteCells_len front
    rw [List.getElem?_append_right (by omega), hfl, Nat.sub_self] at hcell
    simp only [List.getElem?_cons_zero] at hcell
    have hcells2 : (Lib.byteCells front ++ [Value.int .u8 y]).set front.length (.int .u8 ((y : Int) + 128)) = Lib.byteCells (front ++ [UInt8.ofNat (y + 128)]) := by
      have := u8 (y + 128) (by omega)
      rw [List.set_append_right _ _ (by omega), hfl, Nat.sub_self]
      simp [Lib.byteCells, this]
      try omega
    rw [hcells2] at hset
    have HSET := Lib.hid hset
    have HF2 := Lib.hid (F1.trans' F2 (fun i hi e => by omega))
    have hi1 : ((front.length + 1 : Nat) : Int) - 1 = (front.length : Int) := by omega
    have hln : front.length < 1000 := by
      have : (base128 m).length ≤ 6 := by
        unfold base128
        have h5 := up7_len 5 (m / 128)
        simp only [List.length_reverse, List.length_cons]
        omega
      omega
    clear ho hset F1 F2 HC hcells hcells2 hlen hbl hfl
    go_upto_region 5 with fail
    generalize (w1.setCell ⟨g, front.length, none⟩ (.int .u8 ((y : Int) + 128))) = w2 at *
    have BX := Blk.new w2 5 #[.int .u8 r]
    have F3 : Fr (fun _ => False) w2 (w2.alloc (.cells #[.int .u8 r] 5)) := (Fr.refl w2).alloc _
    have hsrc : Bytes (w2.alloc (.cells #[.int .u8 r] 5)) (.slice (some ⟨w2.heap.size, 0, none⟩) 1 1) [UInt8.ofNat r] := by
      have e8 := u8 r (by omega)
      have BX' : Blk (w2.alloc (.cells #[.int .u8 r] 5)) w2.heap.size 5 (Lib.byteCells [UInt8.ofNat r]).toArray := by
        simpa [Lib.byteCells, e8] using BX
      exact Vals.of_block BX' (by simp [Lib.byteCells]; unfold maxLen; omega)
    have hs2 := HF2.out.size
    obtain ⟨v4, w4, hr4, ho4, F4, _⟩ := append_bytes (ownsRow_fr HSET.out F3 (fun _ _ h => h)) (some ⟨w2.heap.size, 0, none⟩) 1 1 [UInt8.ofNat r] hsrc (by omega) (Nat.le_trans hs2 F3.size)
    have hvb := (Vals.of_own HSET.out).2
    have HF4 := Lib.hid ((HF2.out.trans F3).trans' F4 (fun i hi e => by have := hvb i e; omega))
    obtain ⟨a4, c4, rfl, -⟩ := (Vals.of_own ho4).1
    rw [← HE2.out] at ho4 hr4
    have hbn : (base128 n).length = front.length + 1 + 1 := by rw [HE2.out]; simp
    rw [← hbn] at ho4
    have HO4 := Lib.hid ho4
    have HRUN := Lib.hid hr4
    clear ho4 hr4 F4 F3 hvb BX hsrc hbn HF2 HSET
    go_wp2_with (at_builtin; refine wpList_append_run (by rfl) (.tmp 24) (.tmp 28) 23 (by rfl) _ w4 (by exact HRUN.out) ?_)
    exact bodyPost_ret (v := .slice a4 (Lib.byteCells (base128 n)).length c4) (by simp [results, Tryz.results205, go_sem]) rfl ⟨_, rfl, HO4.out, HF4.out⟩

set_option maxRecDepth 20000 in
set_option maxHeartbeats 2000000 in
theorem r04Contents_any (v : Value) (o : List Int) (w : World) (h : Ints w v o) (ho : oidOk o = true) :
    Calls Tryz.prog 159 #[v] w fun e w' => ∃ v', e = .returned v' ∧ w'.ownsRow w.heap.size 5 1 v' (oidBytes o).length (Lib.byteCells (oidBytes o)) ∧ Fr (fun _ => False) w w' := by
  obtain ⟨hnm, hol, hol2, hno⟩ := nums_ok ho
  obtain ⟨a, cap, rfl, -, -, hx⟩ := Ints.form h
  obtain ⟨b, off, rfl, hy⟩ := hx (by omega)
  obtain ⟨x0, hx0⟩ : ∃ x, o[0]? = some x := ⟨_, List.getElem?_eq_getElem (by omega)⟩
  obtain ⟨x1, hx1⟩ : ∃ x, o[1]? = some x := ⟨_, List.getElem?_eq_getElem (by omega)⟩
  have e0 := hy 0 x0 hx0
  have e1 := hy 1 x1 hx1
  obtain ⟨N, hN⟩ : ∃ N, N = numsS o := ⟨_, rfl⟩
  have hN0 : N[0]? = some (40 * x0 + x1) := by rw [hN]; simp [numsS, List.getD, hx0, hx1]
  have hNs : ∀ i, N[i + 1]? = o[i + 2]? := fun i => by
    rw [hN]
    simp only [numsS, List.getElem?_cons_succ, List.getElem?_drop]
    congr 1
    omega
  have hob : oidBytes o = N.flatMap fun n => base128 n.toNat := by rw [hN]; rfl
  rw [← hN] at hnm hno
  rw [hob]
  have h0 := hno _ (List.mem_of_getElem? hN0)
  obtain ⟨m, hm⟩ : ∃ m : Nat, 40 * x0 + x1 = (m : Int) := ⟨(40 * x0 + x1).toNat, by omega⟩
  have hml : m ≤ 2147483647 := by omega
  have hft1 : ((N.take 1).flatMap fun n => base128 n.toNat) = base128 m := by
    have : N.take 1 = [(m : Int)] := by
      rw [show (1 : Nat) = 0 + 1 from rfl, List.take_add_one, hN0, hm]
      rfl
    rw [this]
    simp
  have hwm : 40 * x0 ≤ 4611686018427387904 ∧ -4611686018427387904 ≤ 40 * x0 := by
    have g : ∀ i, i < o.length → arcOk (o.getD i 0) = true := fun i hi => by
      simp only [oidOk, Bool.and_eq_true, decide_eq_true_eq] at ho
      rw [List.getD_eq_getElem?_getD, List.getElem?_eq_getElem hi]
      exact List.all_eq_true.1 ho.1.2 _ (List.getElem_mem hi)
    have g0 := g 0 (by omega)
    simp only [arcOk, List.getD, hx0, Option.getD_some, decide_eq_true_eq] at g0
    omega
  obtain ⟨M, hM⟩ : ∃ M, M = (N.flatMap fun n => base128 n.toNat).length := ⟨_, rfl⟩
  rw [← hM]
  have HM := Lib.hid hM
  clear hM
  have HY := Lib.hid hy
  have HNO := Lib.hid hno
  have HNS := Lib.hid hNs
  have HFT1 := Lib.hid hft1
  have r2 : ¬ (o.length : Int) < 2 := by omega
  have r0 : (0 : Int) < (o.length : Int) := by omega
  have r1 : (1 : Int) < (o.length : Int) := by omega
  have r0N : 0 < o.length := by omega
  have r1N : 1 < o.length := by omega
  have hw1 : IntKind.i64.wrap (40 * x0) = 40 * x0 := by simp [IntKind.wrap, IntKind.signed, IntKind.bits]; omega
  have hw2 : IntKind.i64.wrap (m : Int) = (m : Int) := by simp [IntKind.wrap, IntKind.signed, IntKind.bits]; omega
  simp only [Nat.add_zero] at e0
  have G : Fr (fun _ => False) w w.drew := (Fr.refl w).drew
  clear h hx hy hx0 hx1 hN0 hNs hN hob h0 hno hft1 ho
  go_enter Tryz.func159, Tryz.ntmps159
  go_upto_region 3 with fail
  have E0 : w.drew.cell? ⟨b, off, none⟩ = some (.int .i64 x0) := e0
  have E1 : w.drew.cell? ⟨b, off + 1, none⟩ = some (.int .i64 x1) := e1
  go_region_held3 (fun w' => w'.cell? ⟨b, off, none⟩ = some (.int .i64 x0) ∧ w'.cell? ⟨b, off + 1, none⟩ = some (.int .i64 x1)) (exact ⟨E0, E1⟩) (first | (go_at_call 205; (try rw [hw2]); refine (r04digits_any m hml _).mono ?_; rintro e w' ⟨v, rfl, hv, F⟩; obtain ⟨av, mv, cv, rfl, rfl⟩ := own_shape hv; replace E0 := F.cell E0 (fun h => h); replace E1 := F.cell E1 (fun h => h); replace G := G.trans F))
  all_goals
    rw [World.size_drew] at hv
    have HV := Lib.hid hv
    have HG0 := Lib.hid G
    obtain ⟨L0, hL0⟩ : ∃ L0, L0 = (base128 m).length := ⟨_, rfl⟩
    rw [← hL0] at HV ⊢
    have HL0 := Lib.hid hL0
    clear hv G F E0 E1 e0 e1 hL0
    go_wp2_with fail
    go_loopg [3, 4] (o.length - 1) (fun g u i wr => ∃ (j : Nat) (L : Nat) (a1 : Option Addr) (c1 : Nat), g = o.length - j ∧ 1 ≤ j ∧ j + 1 ≤ o.length ∧ u = .slice a1 L c1 ∧ i = .int .i64 ((j : Int) + 1) ∧ L = ((N.take j).flatMap fun n => base128 n.toNat).length ∧ wr.ownsRow w.heap.size 5 1 (.slice a1 L c1) L (Lib.byteCells ((N.take j).flatMap fun n => base128 n.toNat)) ∧ Fr (fun _ => False) w wr)
    case atStart => exact ⟨1, L0, av, cv, rfl, Nat.le_refl _, by omega, rfl, rfl, by rw [HFT1.out, HL0.out], by rw [HFT1.out]; exact HV.out, HG0.out⟩
    case round =>
      obtain ⟨j, L, a1, c1, hg, hj1, hj2, rfl, rfl, hL, ho1, F1⟩ := hrel
      have HG := Lib.hid hg
      have HO1 := Lib.hid ho1
      have HF1 := Lib.hid F1
      have HL := Lib.hid hL
      have hLl : L ≤ 2000 := by
        have h1 := flat128_len (N.take j)
        rw [← hL, List.length_take] at h1
        omega
      clear hg ho1 hL
      by_cases hjl : j + 1 < o.length
      · obtain ⟨x, hxj⟩ : ∃ x, o[j + 1]? = some x := ⟨_, List.getElem?_eq_getElem hjl⟩
        have ex := F1.cell (HY.out (j + 1) x hxj) (fun h => h)
        have hNj : N[j]? = some x := by
          have := HNS.out (j - 1)
          rw [show j - 1 + 1 = j from by omega, show j - 1 + 2 = j + 1 from by omega, hxj] at this
          exact this
        have hxb := HNO.out x (List.mem_of_getElem? hNj)
        obtain ⟨y, hyx⟩ : ∃ y : Nat, x = (y : Int) := ⟨x.toNat, by omega⟩
        subst hyx
        have hft : ((N.take (j + 1)).flatMap fun n => base128 n.toNat) = ((N.take j).flatMap fun n => base128 n.toNat) ++ base128 y := by
          rw [List.take_add_one, hNj]
          simp
        have HFT := Lib.hid hft
        have q1 : (0 : Int) ≤ (j : Int) + 1 := by omega
        have q2 : (j : Int) + 1 < (o.length : Int) := by omega
        have hin : ((j : Int) + 1).toNat = j + 1 := by omega
        have HD := Lib.hid (r04digits_any y (by omega) wr)
        clear hxj hNj hft F1
        go_wp2_with fail
        refine HD.out.mono ?_
        rintro e w3 ⟨v3, rfl, ho3, F3⟩
        obtain ⟨a3, l3, c3, rfl, rfl⟩ := own_shape ho3
        have hs1 := HF1.out.size
        have hv3 := (Vals.of_own ho3).1
        have hbl := (base128_len y).1
        obtain ⟨v4, w4, hr4, ho4, F4, _⟩ := append_bytes (ownsRow_fr HO1.out F3 (fun _ _ h => h)) a3 (base128 y).length c3 (base128 y) hv3 (by omega) (Nat.le_trans hs1 F3.size)
        have hvb := (Vals.of_own HO1.out).2
        have HF4 := Lib.hid ((HF1.out.trans F3).trans' F4 (fun i hi e => by have := hvb i e; omega))
        obtain ⟨a4, m4, c4, rfl, rfl⟩ := own_shape ho4
        rw [← HFT.out] at ho4
        have HO4 := Lib.hid ho4
        have HRUN := Lib.hid hr4
        clear ho4 hr4 F4 F3 hvb ho3 hv3 HO1 HF1
        go_wp2_with (at_builtin; refine wpList_append_run (by rfl) (.tmp 23) (.tmp 28) 23 (by rfl) _ w4 (by exact HRUN.out) ?_)
        go_roundg (o.length - (j + 1))
        case measure => rw [HG.out]; omega
        case rel => exact ⟨j + 1, L + (base128 y).length, a4, c4, rfl, by omega, by omega, rfl, by go_num, by rw [HFT.out, List.length_append, ← HL.out], HO4.out, HF4.out⟩
      · have q2 : ¬ (j : Int) + 1 < (o.length : Int) := by omega
        have hall : N.take j = N := List.take_of_length_le (by omega)
        have hlo := HL.out
        have ho1 := HO1.out
        rw [hall] at hlo ho1
        have HO2 := Lib.hid ho1
        have HLO := Lib.hid hlo
        clear hall hlo ho1 HO1 HL
        go_wp2_with fail
        exact bodyPost_ret (v := .slice a1 L c1) (by simp [results, Tryz.results159, go_sem]) rfl ⟨_, rfl, by rw [HM.out, ← HLO.out]; exact HO2.out, HF1.out⟩

set_option maxRecDepth 20000 in
set_option maxHeartbeats 2000000 in
theorem r04Whole_any (v : Value) (o : List Int) (w : World) (h : Ints w v o) (ho : oidOk o = true) :
    Calls Tryz.prog 119 #[v] w fun e w' => ∃ v', e = .returned v' ∧ w'.ownsRow w.heap.size 5 1 v' (oidWhole o).length (Lib.byteCells (oidWhole o)) ∧ Fr (fun _ => False) w w' := by
  have hol := oidBytes_len (nums_ok ho).2.1
  have HB := Lib.hid h
  have HO := Lib.hid ho
  clear h ho
  go_enter Tryz.func119, Tryz.ntmps119
  go_wp2_with fail
  refine (r02Of_any 6 w).mono ?_
  rintro e w1 ⟨rfl, F1⟩
  have HF1 := Lib.hid F1
  rw [show tagV (tagOf 6) = .agg #[.int .i64 0, .int .i64 6, .bool false] from rfl]
  clear F1
  go_wp2_with fail
  refine (r04Contents_any v o w1 (HB.out.old HF1.out) HO.out).mono ?_
  rintro e w2 ⟨v2, rfl, ho2, F2⟩
  have hB2 := (Vals.of_own ho2).1
  obtain ⟨a2, c2, rfl, -⟩ := hB2.form
  have HB2 := Lib.hid hB2
  have HF2 := Lib.hid (HF1.out.trans F2)
  clear ho2 hB2 F2
  go_wp2_with fail
  refine (r02Wrap_any (tagOf 6) (good_of (by omega) (by omega)) _ (oidBytes o) w2 HB2.out (by omega)).mono ?_
  rintro e w3 ⟨v3, rfl, ho3, F3⟩
  obtain ⟨a3, m3, c3, rfl, rfl⟩ := own_shape ho3
  have HO3 := Lib.hid (own_le ho3 HF2.out.size)
  have HF3 := Lib.hid (HF2.out.trans F3)
  clear ho3 F3
  go_wp2_with fail
  exact bodyPost_ret (v := .slice a3 _ c3) (by simp [results, Tryz.results119, go_sem]) rfl ⟨_, rfl, HO3.out, HF3.out⟩
end Go.Proofs.YtgffhiopbnkjbaaGreatDoor

namespace Go.Proofs.YtgffhiopbnkjbaaGreatDoor
open Go Go.RowKit Go.Q

set_option maxRecDepth 20000 in
set_option maxHeartbeats 1000000 in
theorem r04Right_any (v : Value) (o : List Int) (w : World) (h : Ints w v o) :
    Calls Tryz.prog 11 #[v] w fun e w' => e = .returned (.bool (oidOk o)) ∧ w = w' := by
  obtain ⟨a, cap, rfl, hc, hm, hx⟩ := Ints.form h
  have HX := Lib.hid hx
  clear h hx
  rcases Classical.em (2 ≤ o.length ∧ o.length ≤ 32) with hl | hl
  · obtain ⟨hl1, hl2⟩ := hl
    have q1 : decide ((o.length : Int) < 2) = false := decide_eq_false (by omega)
    have q2 : decide ((32 : Int) < (o.length : Int)) = false := decide_eq_false (by omega)
    go_enter Tryz.func11, Tryz.ntmps11
    go_wp2_with fail
    go_loopg [3] o.length (fun g i wr => ∃ j : Nat, g = o.length - j ∧ j ≤ o.length ∧ i = .int .i64 j ∧ (o.take j).all arcOk = true ∧ wr = w)
    case atStart => exact ⟨0, rfl, by omega, rfl, rfl, rfl⟩
    case round =>
      obtain ⟨j, hg, hj, rfl, hall, rfl⟩ := hrel
      have HG := Lib.hid hg
      have HA := Lib.hid hall
      clear hg hall
      obtain ⟨b, off, rfl, hy⟩ := HX.out (by omega)
      by_cases hjl : j < o.length
      · obtain ⟨x, hxj⟩ : ∃ x, o[j]? = some x := ⟨_, List.getElem?_eq_getElem hjl⟩
        have ex := hy j x hxj
        have hat : (o.take (j + 1)).all arcOk = ((o.take j).all arcOk && arcOk x) := by
          rw [List.take_add_one, hxj]
          simp
        have HAT := Lib.hid hat
        have q3 : (0 : Int) ≤ (j : Int) := by omega
        have q4 : (j : Int) < (o.length : Int) := by omega
        have hbad : arcOk x = false → oidOk o = false := fun hb => by
          have : o.all arcOk = false := by
            rw [List.all_eq_false]
            exact ⟨x, List.mem_of_getElem? hxj, by simp [hb]⟩
          simp [oidOk, this]
        have HB := Lib.hid hbad
        clear hy hxj hat hbad
        rcases Classical.em (x < 0) with h0 | h0
        · have q5 : decide (x < 0) = true := decide_eq_true h0
          go_wp2_with fail
          go_ret
          exact ⟨by rw [HB.out (by simp [arcOk]; omega)]; rfl, rfl⟩
        · have q5 : decide (x < 0) = false := decide_eq_false h0
          rcases Classical.em ((2147483647 : Int) < x) with h1 | h1
          · have q6 : decide ((2147483647 : Int) < x) = true := decide_eq_true h1
            go_wp2_with fail
            go_ret
            exact ⟨by rw [HB.out (by simp [arcOk]; omega)]; rfl, rfl⟩
          · have q6 : decide ((2147483647 : Int) < x) = false := decide_eq_false h1
            go_wp2_with fail
            go_roundg (o.length - (j + 1))
            case measure => rw [HG.out]; omega
            case rel => exact ⟨j + 1, rfl, by omega, by go_num, by rw [HAT.out, HA.out]; simp [arcOk]; omega, rfl⟩
      · have hall : o.all arcOk = true := by
          have := HA.out
          rwa [List.take_of_length_le (by omega)] at this
        obtain ⟨x0, hx0⟩ : ∃ x, o[0]? = some x := ⟨_, List.getElem?_eq_getElem (by omega)⟩
        obtain ⟨x1, hx1⟩ : ∃ x, o[1]? = some x := ⟨_, List.getElem?_eq_getElem (by omega)⟩
        have e0 := hy 0 x0 hx0
        have e1 := hy 1 x1 hx1
        have hE : oidOk o = twoOk x0 x1 := by
          simp [oidOk, hall, hl1, hl2, List.getD, hx0, hx1]
        have hp0 : 0 ≤ x0 := by
          have := List.all_eq_true.1 hall x0 (List.mem_of_getElem? hx0)
          simp only [arcOk, decide_eq_true_eq] at this
          exact this.1
        have HE := Lib.hid hE
        have z1 : (1 : Int) < (o.length : Int) := by omega
        have z0 : (0 : Int) < (o.length : Int) := by omega
        simp only [Nat.add_zero] at e0
        clear hy hx0 hx1 hall hE HA HX
        by_cases h2 : x0 < 2
        · by_cases h40 : x1 < 40
          · have hv : twoOk x0 x1 = true := by unfold twoOk; rw [decide_eq_true (show x0 = 0 ∨ x0 = 1 by omega), decide_eq_true h40]; rfl
            have HV := Lib.hid hv
            clear hv
            go_wp2_with fail
            go_ret
            exact ⟨by rw [HE.out, HV.out]; rfl, rfl⟩
          · have hv : twoOk x0 x1 = false := by unfold twoOk; rw [decide_eq_false h40, decide_eq_false (show ¬ x0 = 2 by omega), Bool.and_false]; rfl
            have HV := Lib.hid hv
            have p2 : (x0 == 2) = false := beq_eq_false_iff_ne.2 (by omega)
            clear hv
            go_wp2_with fail
            go_ret
            exact ⟨by rw [HE.out, HV.out]; rfl, rfl⟩
        · by_cases h22 : x0 = 2
          · subst h22
            by_cases hm1 : x1 ≤ 2147483567
            · have hv : twoOk 2 x1 = true := by unfold twoOk; rw [decide_eq_true hm1]; simp
              have HV := Lib.hid hv
              clear hv
              go_wp2_with fail
              go_ret
              exact ⟨by rw [HE.out, HV.out]; rfl, rfl⟩
            · have hv : twoOk 2 x1 = false := by unfold twoOk; rw [decide_eq_false hm1]; simp
              have HV := Lib.hid hv
              clear hv
              go_wp2_with fail
              go_ret
              exact ⟨by rw [HE.out, HV.out]; rfl, rfl⟩
          · have hv : twoOk x0 x1 = false := by unfold twoOk; rw [decide_eq_false h22, decide_eq_false (show ¬ (x0 = 0 ∨ x0 = 1) by omega)]; rfl
            have HV := Lib.hid hv
            have p2 : (x0 == 2) = false := beq_eq_false_iff_ne.2 h22
            clear hv
            go_wp2_with fail
            go_ret
            exact ⟨by rw [HE.out, HV.out]; rfl, rfl⟩
  · have hE : oidOk o = false := by simp [oidOk]; omega
    have HE := Lib.hid hE
    rcases Classical.em (o.length < 2) with h2 | h2
    case' inl => have q1 : decide ((o.length : Int) < 2) = true := decide_eq_true (by omega)
    case' inr =>
      have q1 : decide ((o.length : Int) < 2) = false := decide_eq_false (by omega)
      have q2 : decide ((32 : Int) < (o.length : Int)) = true := decide_eq_true (by omega)
    all_goals
      clear hE
      go_enter Tryz.func11, Tryz.ntmps11
      go_wp2_with fail
      go_ret
      exact ⟨by rw [HE.out]; rfl, rfl⟩

set_option maxRecDepth 20000 in
set_option maxHeartbeats 1000000 in
theorem r04Compare_any (v u : Value) (o p : List Int) (w : World) (h : Ints w v o) (hu : Ints w u p) :
    Calls Tryz.prog 52 #[v, u] w fun e w' => e = .returned (.int .i64 (cmpI o p)) ∧ Fr (fun _ => False) w w' := by
  obtain ⟨a, cap, rfl, hc1, hm1, hx⟩ := Ints.form h
  obtain ⟨b, cbp, rfl, hc2, hm2, hy⟩ := Ints.form hu
  have HX := Lib.hid hx
  have HY := Lib.hid hy
  unfold maxLen at hm1 hm2
  clear h hu hx hy
  go_enter Tryz.func52, Tryz.ntmps52
  go_wp2_with fail
  go_loopg [5] (o.length + p.length) (fun g i wr => ∃ j : Nat, g = o.length + p.length - j ∧ j ≤ o.length ∧ j ≤ p.length ∧ i = .int .i64 j ∧ cmpI o p = cmpI (o.drop j) (p.drop j) ∧ Fr (fun _ => False) w wr)
  case atStart => exact ⟨0, rfl, Nat.zero_le _, Nat.zero_le _, rfl, rfl, Fr.refl _⟩
  case round =>
    obtain ⟨j, hg, hj, hjp, rfl, hE, F⟩ := hrel
    have HG := Lib.hid hg
    have HE := Lib.hid hE
    have HF := Lib.hid F
    clear hg hE
    by_cases hjl : j < o.length
    · obtain ⟨ba, oa, rfl, ha⟩ := HX.out (by omega)
      obtain ⟨x, hxj⟩ : ∃ x, o[j]? = some x := ⟨_, List.getElem?_eq_getElem hjl⟩
      have e1 := F.cell (ha j x hxj) (fun h => h)
      have r1 : (0 : Int) ≤ (j : Int) := by omega
      have r2 : (j : Int) < (o.length : Int) := by omega
      have r5 : decide ((o.length : Int) ≤ (j : Int)) = false := decide_eq_false (by omega)
      have r5N : decide (o.length ≤ j) = false := decide_eq_false (by omega)
      have r5' : decide ((j : Int) < (o.length : Int)) = true := decide_eq_true (by omega)
      have r5'N : decide (j < o.length) = true := decide_eq_true (by omega)
      by_cases hjl2 : j < p.length
      · obtain ⟨bb, ob, rfl, hb⟩ := HY.out (by omega)
        obtain ⟨y, hyj⟩ : ∃ y, p[j]? = some y := ⟨_, List.getElem?_eq_getElem hjl2⟩
        have e2 := F.cell (hb j y hyj) (fun h => h)
        have r4 : (j : Int) < (p.length : Int) := by omega
        have r3 : decide ((p.length : Int) ≤ (j : Int)) = false := decide_eq_false (by omega)
        have r3N : decide (p.length ≤ j) = false := decide_eq_false (by omega)
        have r4' : decide ((j : Int) < (p.length : Int)) = true := decide_eq_true (by omega)
        have r4'N : decide (j < p.length) = true := decide_eq_true (by omega)
        have hcd := Lib.hid (cmpI_drop hxj hyj)
        clear ha hb hxj hyj F
        by_cases h1 : x < y
        · have hres : cmpI o p = -1 := by rw [HE.out, hcd.out, if_pos h1]
          have HRES := Lib.hid hres
          have q1 : decide (x < y) = true := decide_eq_true h1
          clear hres
          go_wp2_with fail
          go_quiet (fail)
          go_wp2_with fail
          go_ret
          refine ⟨by rw [HRES.out]; rfl, ?_⟩; (first | with_reducible exact HF.out | with_reducible exact Fr.drewN HF.out _ | with_reducible exact Fr.drewN (Fr.drewN HF.out _) _ | with_reducible exact Fr.drewN (Fr.drewN (Fr.drewN HF.out _) _) _)
        · have q1 : decide (x < y) = false := decide_eq_false h1
          by_cases h2 : y < x
          · have hres : cmpI o p = 1 := by rw [HE.out, hcd.out, if_neg h1, if_pos h2]
            have HRES := Lib.hid hres
            have q2 : decide (y < x) = true := decide_eq_true h2
            clear hres
            go_wp2_with fail
            go_quiet (fail)
            go_wp2_with fail
            go_quiet (fail)
            go_wp2_with fail
            go_ret
            refine ⟨by rw [HRES.out]; rfl, ?_⟩; (first | with_reducible exact HF.out | with_reducible exact Fr.drewN HF.out _ | with_reducible exact Fr.drewN (Fr.drewN HF.out _) _ | with_reducible exact Fr.drewN (Fr.drewN (Fr.drewN HF.out _) _) _)
          · have hres : cmpI o p = cmpI (o.drop (j + 1)) (p.drop (j + 1)) := by rw [HE.out, hcd.out, if_neg h1, if_neg h2]
            have HRES := Lib.hid hres
            have q2 : decide (y < x) = false := decide_eq_false h2
            clear hres
            go_wp2_with fail
            go_quiet (fail)
            go_wp2_with fail
            go_quiet (fail)
            go_wp2_with fail
            go_roundg (o.length + p.length - (j + 1))
            case measure => rw [HG.out]; omega
            case rel => refine ⟨j + 1, rfl, by omega, by omega, by go_num, HRES.out, ?_⟩; (first | with_reducible exact HF.out | with_reducible exact Fr.drewN HF.out _ | with_reducible exact Fr.drewN (Fr.drewN HF.out _) _ | with_reducible exact Fr.drewN (Fr.drewN (Fr.drewN HF.out _) _) _)
      · have r3 : decide ((p.length : Int) ≤ (j : Int)) = true := decide_eq_true (by omega)
        have r3N : decide (p.length ≤ j) = true := decide_eq_true (by omega)
        have r4 : decide ((j : Int) < (p.length : Int)) = false := decide_eq_false (by omega)
        have r4N : decide (j < p.length) = false := decide_eq_false (by omega)
        have hres : cmpI o p = 1 := by
          have h1 : o.drop j = x :: o.drop (j + 1) := by
            obtain ⟨h, rfl⟩ := List.getElem?_eq_some_iff.1 hxj
            exact List.drop_eq_getElem_cons h
          have h2 : p.drop j = [] := List.drop_eq_nil_of_le (by omega)
          rw [HE.out, h1, h2]
          rfl
        have HRES := Lib.hid hres
        clear hres ha hxj F
        go_wp2_with fail
        go_quiet (fail)
        go_wp2_with fail
        go_quiet (fail)
        go_wp2_with fail
        go_ret
        refine ⟨by rw [HRES.out]; rfl, ?_⟩; (first | with_reducible exact HF.out | with_reducible exact Fr.drewN HF.out _ | with_reducible exact Fr.drewN (Fr.drewN HF.out _) _ | with_reducible exact Fr.drewN (Fr.drewN (Fr.drewN HF.out _) _) _)
    · obtain rfl : j = o.length := by omega
      have h1 : o.drop o.length = [] := List.drop_length
      have r5 : decide ((o.length : Int) ≤ (o.length : Int)) = true := decide_eq_true (by omega)
      have r5N : decide (o.length ≤ o.length) = true := decide_eq_true (by omega)
      by_cases hlt : o.length < p.length
      · have r3 : (o.length : Int) < (p.length : Int) := by omega
        have r3N : decide (o.length < p.length) = true := decide_eq_true hlt
        have hres : cmpI o p = -1 := by
          rw [HE.out, h1]
          have : p.drop o.length ≠ [] := fun e => by have := drop_nil e; omega
          cases hd : p.drop o.length with
          | nil => exact absurd hd this
          | cons y t => rfl
        have HRES := Lib.hid hres
        clear hres h1 F
        go_wp2_with fail
        go_quiet (fail)
        go_wp2_with fail
        go_ret
        refine ⟨by rw [HRES.out]; rfl, ?_⟩; (first | with_reducible exact HF.out | with_reducible exact Fr.drewN HF.out _ | with_reducible exact Fr.drewN (Fr.drewN HF.out _) _ | with_reducible exact Fr.drewN (Fr.drewN (Fr.drewN HF.out _) _) _)
      · have r3 : ¬ (o.length : Int) < (p.length : Int) := by omega
        have r3N : decide (o.length < p.length) = false := decide_eq_false hlt
        have hres : cmpI o p = 0 := by
          have h2 : p.drop o.length = [] := List.drop_eq_nil_of_le (by omega)
          rw [HE.out, h1, h2]
          rfl
        have HRES := Lib.hid hres
        clear hres h1
        go_wp2_with fail
        go_ret
        exact ⟨by rw [HRES.out]; rfl, F⟩

theorem r04Same_any (v u : Value) (o p : List Int) (w : World) (h : Ints w v o) (hu : Ints w u p) :
    Calls Tryz.prog 17 #[v, u] w fun e w' => e = .returned (.bool (decide (o = p))) ∧ Fr (fun _ => False) w w' := by
  have H := Lib.hid (r04Compare_any v u o p w h hu)
  clear h hu
  have hq : (cmpI o p == 0) = decide (o = p) := by
    rw [Bool.eq_iff_iff]
    simp [cmpI_zero]
  have HQ := Lib.hid hq
  clear hq
  generalize cmpI o p = c at *
  go_enter Tryz.func17, Tryz.ntmps17
  go_wp2_with fail
  refine H.out.mono ?_
  rintro e w' ⟨rfl, F⟩
  go_wp2_with fail
  go_ret
  exact ⟨by rw [← HQ.out]; rfl, F⟩
end Go.Proofs.YtgffhiopbnkjbaaGreatDoor

namespace Go.Proofs.YtgffhiopbnkjbaaGreatDoor
open Go Go.RowKit Go.Q
set_option linter.unusedSimpArgs false

/-- What the reference's Whole gives. -/
def rWholeOut (w w' : World) (o : List Int) (b : List UInt8) (e : Ending) : Prop :=
  match attrS o b with
  | none => e = .returned (.tuple #[.slice none 0 0, .bool false])
  | some x => ∃ v, e = .returned (.tuple #[v, .bool true]) ∧ w'.ownsRow w.heap.size 5 1 v x.length (Lib.byteCells x)

set_option maxRecDepth 20000 in
set_option maxHeartbeats 2000000 in
theorem r14Whole_any (x y : Value) (o : List Int) (b : List UInt8) (w : World) (hx : Ints w x o) (hy : Bytes w y b) (hl : b.length ≤ 10000000) :
    Calls Tryz.prog 82 #[.agg #[x, y]] w fun e w' => rWholeOut w w' o b e ∧ Fr (fun _ => False) w w' := by
  obtain ⟨ax, cx, rfl, -⟩ := Ints.form hx
  obtain ⟨ay, cy, rfl, -⟩ := Vals.form hy
  obtain ⟨z, hz⟩ : ∃ z, z = w.heap.size := ⟨_, rfl⟩
  have BZ := Blk.new w 63 #[.slice ax o.length cx, .slice ay b.length cy]
  have F0 : Fr (fun _ => False) w (w.alloc (.cells #[.slice ax o.length cx, .slice ay b.length cy] 63)) := (Fr.refl w).alloc _
  have HX := Lib.hid (hx.old F0)
  have HY := Lib.hid (hy.old F0)
  rw [← hz] at BZ
  have HF0 := Lib.hid F0
  have HZ := Lib.hid hz
  clear hx hy F0 hz
  go_enter Tryz.func82, Tryz.ntmps82
  go_upto_region 1 with fail
  rw [← HZ.out]
  generalize (w.alloc (.cells #[.slice ax o.length cx, .slice ay b.length cy] 63)) = w0 at *
  have z1 := BZ.cell 1
  simp only [List.getElem?_toArray, List.getElem?_cons_succ, List.getElem?_cons_zero] at z1
  go_wp2_with fail
  refine (r08Wholes_any _ b w0 HY.out (by omega)).mono ?_
  rintro e w1 ⟨hout, F1⟩
  have BZ1 := BZ.fr F1 (fun h => h)
  have HF1 := Lib.hid (HF0.out.trans F1)
  have HX1 := Lib.hid (HX.out.old F1)
  have HY1 := Lib.hid (HY.out.old F1)
  unfold wholesOut at hout
  clear HX HY HF0 F1 BZ z1
  cases hr : allS b with
  | error x =>
    rw [hr] at hout
    subst hout
    have hx0 : x ≠ 0 := allS_pos hr
    have hx1 : (x == 0) = false := beq_eq_false_iff_ne.2 hx0
    have hx2 : (x != 0) = true := by simpa using hx0
    have hn : attrS o b = none := by unfold attrS singleB; rw [hr, Bool.and_false]; rfl
    have HN := Lib.hid hn
    clear hn hr hx0
    go_wp2_with fail
    refine bodyPost_ret (v := .tuple #[.slice none 0 0, .bool false]) (by simp [results, Tryz.results82, go_sem]) rfl ⟨?_, HF1.out⟩
    unfold rWholeOut
    rw [HN.out]
  | ok ls =>
    rw [hr] at hout
    obtain ⟨al, cl, rfl⟩ := hout
    by_cases h1 : ls.length = 1
    · have hs : singleB b = true := by unfold singleB; rw [hr]; simp [h1]
      have q1 : ((ls.length : Int) == 1) = true := by rw [h1]; rfl
      have q2 : ((ls.length : Int) != 1) = false := by rw [h1]; rfl
      have q3 : (ls.length == 1) = true := by rw [h1]; rfl
      have q4 : (ls.length != 1) = false := by rw [h1]; rfl
      have HRI := Lib.hid (r04Right_any _ o w1 HX1.out)
      have z0 := BZ1.cell 0
      simp only [List.getElem?_toArray, List.getElem?_cons_succ, List.getElem?_cons_zero] at z0
      clear hr h1
      cases ho : oidOk o with
      | false =>
        rw [ho] at HRI
        have hn : attrS o b = none := by unfold attrS; rw [ho]; rfl
        have HN := Lib.hid hn
        clear hn ho
        go_wp2_with fail
        refine HRI.out.mono ?_
        rintro e w2 ⟨rfl, rfl⟩
        go_wp2_with fail
        refine bodyPost_ret (v := .tuple #[.slice none 0 0, .bool false]) (by simp [results, Tryz.results82, go_sem]) rfl ⟨?_, HF1.out⟩
        unfold rWholeOut
        rw [HN.out]
      | true =>
        rw [ho] at HRI
        have hn : attrS o b = some (wrapS (tagOf 16) (oidWhole o ++ b)) := by unfold attrS; rw [ho, hs]; rfl
        have HN := Lib.hid hn
        have hol := oidWhole_len (nums_ok ho).2.1
        have HO := Lib.hid ho
        clear hn ho hs
        go_wp2_with fail
        refine HRI.out.mono ?_
        rintro e w2 ⟨rfl, rfl⟩
        clear z0 HRI q1 q2 q3 q4
        go_upto_region 4 with fail
        have G : Fr (fun _ => False) w1 w1.drew := (Fr.refl w1).drew
        have B := BZ1.drew
        have hB1 := BZ1.lt
        obtain ⟨T, hT⟩ : ∃ T, T = tagOf 16 := ⟨_, rfl⟩
        have HTG := Lib.hid (show tagGood T from by rw [hT]; exact good_of (n := 16) (by decide) (by decide))
        have HOF := Lib.hid (fun w => r02Of_any 16 w)
        have HWH := Lib.hid (fun (W : World) (hW : Ints W (.slice ax o.length cx) o) => r04Whole_any (.slice ax o.length cx) o W hW HO.out)
        rw [← hT] at HN HOF
        generalize oidWhole o = ow at *
        clear hT
        have GS : w.heap.size ≤ w1.heap.size := HF1.out.size
        go_region_held3 (fun w' => ∀ j, w'.cell? ⟨z, j, none⟩ = (#[.slice ax o.length cx, .slice ay b.length cy] : Array Value)[j]?) (first | exact B.cell) (first
          | (go_at_call 15; refine (HOF.out _).mono ?_; rintro e w' ⟨rfl, F⟩; replace B := B.fr F (fun h => h); replace G := G.trans F; (try replace hv := ownsRow_fr hv F (fun _ _ h => h)))
          | (go_at_call 119; refine (HWH.out _ (HX1.out.old G)).mono ?_; rintro e w' ⟨v, rfl, hv0, F⟩; have hv := own_le hv0 (show w1.heap.size ≤ _ from G.size); obtain ⟨av, mv, cv, rfl, rfl⟩ := own_shape hv; replace B := B.fr F (fun h => h); replace G := G.trans F)
          | (obtain ⟨v7, w7, hrun, ho7, F7, hat⟩ := append_bytes hv ay b.length cy b (HY1.out.old G) (by omega) (show w1.heap.size ≤ _ from G.size); obtain ⟨a7, m7, c7, rfl, rfl⟩ := own_shape ho7; refine step_append_run (by rfl) (.tmp 28) (.tmp 30) 23 (by rfl) _ w7 (by exact hrun) ?_; have hbk := (Vals.of_own hv).2; replace B := B.fr F7 (fun e => by have := (hbk z e).1; omega); replace G := G.trans' F7 (fun i hi e => absurd hi (by have := (hbk i e).1; omega)); have hs7 : w1.heap.size ≤ w7.heap.size := G.size; have hml : (ow ++ b).length ≤ 16777216 := (by rw [List.length_append]; omega); clear hv hrun F7 hat)
          | (go_at_call 14; refine (r02Wrap_any T HTG.out (.slice a7 (ow.length + b.length) c7) (ow ++ b) _ (Vals.of_own ho7).1 hml).mono ?_; rintro e w' ⟨v, rfl, hv9, F⟩; obtain ⟨av, mv, cv, rfl, rfl⟩ := own_shape hv9; replace B := B.fr F (fun h => h); replace G := G.trans F))
        all_goals
          have HO9 := Lib.hid (own_le hv9 (show w.heap.size ≤ w7.heap.size from by omega))
          have HG9 := Lib.hid (HF1.out.trans G)
          clear hv9 ho7 B G F hbk hml
          generalize wrapS T (ow ++ b) = wx at *
          go_wp2_with fail
          refine bodyPost_ret (v := .tuple #[.slice av wx.length cv, .bool true]) (by simp [results, Tryz.results82, go_sem]) rfl ⟨?_, HG9.out⟩
          unfold rWholeOut
          rw [HN.out]
          exact ⟨_, rfl, HO9.out⟩
    · have hs : singleB b = false := by unfold singleB; rw [hr]; simp [h1]
      have q1 : ((ls.length : Int) == 1) = false := beq_eq_false_iff_ne.2 (by omega)
      have q2 : ((ls.length : Int) != 1) = true := by simpa using (by omega : (ls.length : Int) ≠ 1)
      have q3 : (ls.length == 1) = false := beq_eq_false_iff_ne.2 (by omega)
      have q4 : (ls.length != 1) = true := by simpa using h1
      have hn : attrS o b = none := by unfold attrS; rw [hs, Bool.and_false]; rfl
      have HN := Lib.hid hn
      clear hn hr hs h1
      go_wp2_with fail
      refine bodyPost_ret (v := .tuple #[.slice none 0 0, .bool false]) (by simp [results, Tryz.results82, go_sem]) rfl ⟨?_, HF1.out⟩
      unfold rWholeOut
      rw [HN.out]
end Go.Proofs.YtgffhiopbnkjbaaGreatDoor

namespace Go.Proofs.YtgffhiopbnkjbaaGreatDoor
open Go Go.RowKit Go.Q
set_option linter.unusedSimpArgs false

set_option maxRecDepth 20000 in
set_option maxHeartbeats 2000000 in
theorem r14Step_any (v : Value) (l : List Part) (w : World) (h : Attrs w v l) (hf : fewB l) :
    Calls Tryz.prog 42 #[v] w fun e w' => e = .returned (.bool (rdnS l).isSome) ∧ Fr (fun _ => False) w w' := by
  have H := Lib.hid h
  obtain ⟨a, cap, rfl, hc, hm, -⟩ := h
  rcases Classical.em (l.length = 0 ∨ 16 < l.length) with hl | hl
  · have hn : rdnS l = none := by unfold rdnS; rw [if_pos hl]
    have HN := Lib.hid hn
    clear hn
    rcases hl with hl | hl
    · have q1 : (l.length : Int) < 1 := by omega
      go_enter Tryz.func42, Tryz.ntmps42
      go_wp2_with fail
      go_ret
      exact ⟨by rw [HN.out]; rfl, Fr.refl _⟩
    · have q1 : ¬ (l.length : Int) < 1 := by omega
      have q3 : (16 : Int) < (l.length : Int) := by omega
      go_enter Tryz.func42, Tryz.ntmps42
      go_wp2_with fail
      go_ret
      exact ⟨by rw [HN.out]; rfl, Fr.refl _⟩
  · have hn : rdnS l = stepsS none l := by unfold rdnS; rw [if_neg hl]
    have HN := Lib.hid hn
    have q1 : ¬ (l.length : Int) < 1 := by omega
    have q3 : ¬ (16 : Int) < (l.length : Int) := by omega
    clear hn
    go_enter Tryz.func42, Tryz.ntmps42
    go_wp2_with fail
    go_loopg [3, 4] l.length (fun g u i wr => ∃ (j : Nat) (ws : List (List UInt8)), g = l.length - j ∧ j ≤ l.length ∧ i = .int .i64 j ∧ ws.length = j ∧ (∀ y, ws.getLast? = some y → Bytes wr u y) ∧ Fr (fun _ => False) w wr ∧ (stepsS none l = (stepsS ws.getLast? (l.drop j)).map (ws ++ ·)))
    case atStart => first | exact ⟨0, [], rfl, Nat.zero_le _, rfl, rfl, fun y e => by simp at e, Fr.refl _, by simp⟩ | exact ⟨0, [], rfl, Nat.zero_le _, rfl, fun y e => by simp at e, Fr.refl _, by simp⟩
    case round =>
      obtain ⟨j, ws, hg, hj, rfl, hws, hwl, F, hS⟩ := hrel
      have HG := Lib.hid hg
      have HS := Lib.hid hS
      have HF := Lib.hid F
      have HWS := Lib.hid hws
      have HWL := Lib.hid hwl
      clear hg hS hws hwl
      by_cases hjl : j < l.length
      · obtain ⟨a0, cap0, he, _, _, hx⟩ := H.out.old F
        simp only [Value.slice.injEq, true_and] at he
        obtain ⟨rfl, rfl⟩ := he
        obtain ⟨b, off, rfl, hy⟩ := hx (by omega)
        obtain ⟨p, hp⟩ : ∃ p, l[j]? = some p := ⟨_, List.getElem?_eq_getElem hjl⟩
        obtain ⟨x, y, e1, e2, hpx, hpy⟩ := hy j p hp
        have hsp := Lib.hid (stepsS_split l j p hp ws.getLast?)
        have hpb := hf p (List.mem_of_getElem? hp)
        have r1 : (0 : Int) ≤ (j : Int) := by omega
        have r2 : (j : Int) < (l.length : Int) := by omega
        obtain ⟨ax, cx, rfl, -⟩ := Ints.form hpx
        obtain ⟨ay, cy, rfl, -⟩ := Vals.form hpy
        have HW := Lib.hid (r14Whole_any _ _ p.o p.b wr hpx hpy hpb)
        have e1' : wr.cell? ⟨b, off + j * 2, none⟩ = some (.slice ax p.o.length cx) := by rw [Nat.mul_comm]; exact e1
        have e2' : wr.cell? ⟨b, off + j * 2 + 1, none⟩ = some (.slice ay p.b.length cy) := by rw [Nat.mul_comm]; exact e2
        clear hx hy hp hpx hpy F e1 e2
        go_wp2_with fail
        refine HW.out.mono ?_
        rintro e w2 ⟨hout, F2⟩
        have HF2 := Lib.hid (HF.out.trans F2)
        have HWL2 := Lib.hid (fun y h => (HWL.out y h).old F2)
        unfold rWholeOut at hout
        clear e1' e2' HF F2 HW HWL
        cases hq : attrS p.o p.b with
        | none =>
          rw [hq] at hout
          subst hout
          have hn : rdnS l = none := by rw [HN.out, HS.out, hsp.out, hq]; rfl
          have HNN := Lib.hid hn
          clear hn hq
          go_wp2_with fail
          go_ret
          exact ⟨by rw [HNN.out]; rfl, HF2.out⟩
        | some x =>
          rw [hq] at hout
          obtain ⟨v2, rfl, ho2⟩ := hout
          have hb2 := (Vals.of_own ho2).1
          have HB2 := Lib.hid hb2
          obtain ⟨a2, c2, rfl, -⟩ := hb2.form
          have hsp1 := hsp.out
          rw [hq] at hsp1
          have HSP := Lib.hid hsp1
          have hlen : (ws ++ [x]).length = j + 1 := by simp [HWS.out]
          have HLEN := Lib.hid hlen
          clear hb2 ho2 hsp hsp1 hq hlen
          by_cases hj0 : j = 0
          · subst hj0
            have hw0 : ws = [] := List.length_eq_zero_iff.1 HWS.out
            have hnx := steps_next HS.out HSP.out (by rw [hw0]; rfl)
            have HNX := Lib.hid hnx
            clear hnx hw0
            go_wp2_with fail
            go_roundg (l.length - (0 + 1))
            case measure => rw [HG.out]; omega
            case rel => exact ⟨0 + 1, ws ++ [x], rfl, by omega, by go_num, HLEN.out, fun y e => by rw [List.getLast?_concat] at e; cases e; exact HB2.out, HF2.out, HNX.out⟩
          · obtain ⟨k, rfl⟩ : ∃ k, j = k + 1 := ⟨j - 1, by omega⟩
            have hws2 := HWS.out
            obtain ⟨xk, hxk⟩ : ∃ x, ws[k]? = some x := ⟨_, List.getElem?_eq_getElem (by omega)⟩
            have hlast : ws.getLast? = some xk := by rw [List.getLast?_eq_getElem?, hws2]; exact hxk
            have hbk := HWL2.out xk hlast
            have hsp2 := HSP.out
            rw [hlast] at hsp2
            have t2 : (0 : Int) < ((k + 1 : Nat) : Int) := by omega
            have HCM := Lib.hid (r01Compare_any _ _ xk x w2 hbk HB2.out)
            obtain ⟨cm, hcm⟩ : ∃ cm, cm = cmpS xk x := ⟨_, rfl⟩
            have HCC := Lib.hid hcm
            rw [← hcm] at HCM
            have HLA := Lib.hid hlast
            clear hsp2 hxk hlast hcm hbk
            by_cases hge : 0 ≤ cm
            · have hn : rdnS l = none := by
                rw [HN.out, HS.out, HSP.out, HLA.out]
                simp [← HCC.out, hge]
              have HNN := Lib.hid hn
              clear hn
              go_wp2_with fail
              refine HCM.out.mono ?_
              rintro e w3 ⟨rfl, F3⟩
              go_wp2_with fail
              go_ret
              exact ⟨by rw [HNN.out]; rfl, HF2.out.trans F3⟩
            · have hcond : (match ws.getLast? with | some y => decide (0 ≤ cmpS y x) | none => false) = false := by
                rw [HLA.out]
                simp only [← HCC.out]
                exact decide_eq_false hge
              have HNX := Lib.hid (steps_next HS.out HSP.out hcond)
              clear hcond
              go_wp2_with fail
              refine HCM.out.mono ?_
              rintro e w3 ⟨rfl, F3⟩
              go_wp2_with fail
              go_roundg (l.length - (k + 1 + 1))
              case measure => rw [HG.out]; omega
              case rel => exact ⟨k + 1 + 1, ws ++ [x], rfl, by omega, by go_num, HLEN.out, fun y e => by rw [List.getLast?_concat] at e; cases e; exact HB2.out.old F3, HF2.out.trans F3, HNX.out⟩
      · have hd : l.drop j = [] := List.drop_eq_nil_of_le (by omega)
        have hres : rdnS l = some ws := by rw [HN.out, HS.out, hd]; simp [stepsS]
        have HRES := Lib.hid hres
        clear hd hres
        go_wp2_with fail
        go_ret
        exact ⟨by rw [HRES.out]; rfl, F⟩

set_option maxRecDepth 20000 in
set_option maxHeartbeats 2000000 in
theorem r14Right_any (v : Value) (n : List (List Part)) (w : World) (h : NameAt w v n) (hf : ∀ r ∈ n, fewB r) :
    Calls Tryz.prog 20 #[v] w fun e w' => e = .returned (.bool (nameOk n)) ∧ Fr (fun _ => False) w w' := by
  have H := Lib.hid h
  obtain ⟨a, cap, rfl, hc, hm, -⟩ := h
  have hcm : cap ≤ 9223372036854775807 := by unfold maxLen at hm; omega
  have hn : nameOk n = (decide (n.length ≤ 64) && n.all (fun r => (rdnS r).isSome)) := rfl
  have HN := Lib.hid hn
  clear hn
  go_enter Tryz.func20, Tryz.ntmps20
  go_wp2_with fail
  go_loopg [3] n.length (fun g i wr => ∃ j : Nat, g = n.length - j ∧ j ≤ n.length ∧ i = .int .i64 j ∧ (∀ r ∈ n.take j, (rdnS r).isSome = true) ∧ Fr (fun _ => False) w wr)
  case atStart => exact ⟨0, rfl, Nat.zero_le _, rfl, by simp, Fr.refl _⟩
  case round =>
    obtain ⟨j, hg, hj, rfl, he, F⟩ := hrel
    have HG := Lib.hid hg
    have HE := Lib.hid he
    have HF := Lib.hid F
    clear hg he
    by_cases hjl : j < n.length
    · obtain ⟨a0, cap0, he, _, _, hx⟩ := H.out.old F
      simp only [Value.slice.injEq, true_and] at he
      obtain ⟨rfl, rfl⟩ := he
      obtain ⟨b, off, rfl, hy⟩ := hx (by omega)
      obtain ⟨r, hr⟩ : ∃ r, n[j]? = some r := ⟨_, List.getElem?_eq_getElem hjl⟩
      obtain ⟨x, e1, hA⟩ := hy j r hr
      have r1 : (0 : Int) ≤ (j : Int) := by omega
      have r2 : (j : Int) < (n.length : Int) := by omega
      have HW := Lib.hid (r14Step_any x r wr hA (hf r (List.mem_of_getElem? hr)))
      have HR := Lib.hid hr
      clear hx hy hr hA F
      obtain ⟨o, ho⟩ : ∃ o, o = (rdnS r).isSome := ⟨_, rfl⟩
      have HO := Lib.hid ho
      rw [← ho] at HW
      clear ho
      go_wp2_with fail
      refine HW.out.mono ?_
      rintro e w2 ⟨rfl, F2⟩
      have G2 := HF.out.trans F2
      clear HF F2
      cases o with
      | false =>
        have hn : n.all (fun r => (rdnS r).isSome) = false := by
          rw [List.all_eq_false]
          exact ⟨r, List.mem_of_getElem? HR.out, by rw [← HO.out]; simp⟩
        have HNN := Lib.hid hn
        clear hn
        go_wp2_with fail
        go_ret
        exact ⟨by rw [HN.out, HNN.out, Bool.and_false]; rfl, G2⟩
      | true =>
        go_wp2_with fail
        go_roundg (n.length - (j + 1))
        case measure => rw [HG.out]; omega
        case rel =>
          refine ⟨j + 1, rfl, by omega, by go_num, fun s hs => ?_, G2⟩
          rw [List.take_add_one, HR.out] at hs
          rcases List.mem_append.1 hs with h | h
          · exact HE.out s h
          · simp at h
            rw [h, ← HO.out]
    · have hall : n.all (fun r => (rdnS r).isSome) = true := by
        rw [List.all_eq_true]
        have := HE.out
        rwa [List.take_of_length_le (by omega)] at this
      have HNN := Lib.hid hall
      clear hall
      by_cases h64 : n.length ≤ 64
      · have q1 : ¬ (64 : Int) < (n.length : Int) := by omega
        have q2 : (n.length : Int) ≤ 64 := by omega
        have HD := Lib.hid (decide_eq_true h64)
        clear h64
        go_wp2_with fail
        go_ret
        exact ⟨by rw [HN.out, HNN.out, HD.out]; rfl, F⟩
      · have q1 : (64 : Int) < (n.length : Int) := by omega
        have q2 : ¬ (n.length : Int) ≤ 64 := by omega
        have HD := Lib.hid (decide_eq_false h64)
        clear h64
        go_wp2_with fail
        go_ret
        exact ⟨by rw [HN.out, HNN.out, HD.out]; rfl, F⟩
end Go.Proofs.YtgffhiopbnkjbaaGreatDoor

namespace Go.Q
open Go
abbrev Key1 := List UInt8
theorem k_lt_of {a b : Key1} (h : a ≤ b) (hn : a ≠ b) : a < b := Std.lt_of_le_of_ne h hn
/-- Is a key behind the last one? -/
def behindB (last : Option Key1) (k : Key1) : Bool := match last with | none => true | some l => decide (l < k)
/-- Is it less than the best one so far? -/
def betterB (best : Option Key1) (k : Key1) : Bool := match best with | none => true | some b => decide (k < b)
def pickStep (last best : Option Key1) (k : Key1) : Option Key1 := if (behindB last k && betterB best k) = true then some k else best
def pickS (last : Option Key1) (ks : List Key1) : Option Key1 := ks.foldl (pickStep last) none
theorem pickS_snoc (last : Option Key1) (ks : List Key1) (k : Key1) : pickS last (ks ++ [k]) = pickStep last (pickS last ks) k := by
  unfold pickS
  simp [List.foldl_append]
theorem pickS_spec (last : Option Key1) : ∀ ks : List Key1, match pickS last ks with
    | none => ∀ k ∈ ks, behindB last k = false
    | some m => m ∈ ks ∧ behindB last m = true ∧ ∀ k ∈ ks, behindB last k = true → m ≤ k := by
  intro ks
  induction hn : ks.length generalizing ks with
  | zero =>
    obtain rfl := List.length_eq_zero_iff.1 hn
    intro k hk
    cases hk
  | succ n ih =>
    have hne : ks ≠ [] := fun e => by simp [e] at hn
    obtain ⟨ts, k, rfl⟩ : ∃ ts k, ks = ts ++ [k] := ⟨ks.dropLast, ks.getLast hne, (List.dropLast_concat_getLast hne).symm⟩
    have hi := ih ts (by simpa using hn)
    rw [pickS_snoc]
    cases hp : pickS last ts with
    | none =>
      rw [hp] at hi
      simp only at hi
      unfold pickStep betterB
      cases hb : behindB last k with
      | true =>
        simp only [Bool.and_self, if_true]
        refine ⟨by simp, hb, fun x hx hxb => ?_⟩
        rcases List.mem_append.1 hx with h | h
        · rw [hi x h] at hxb; cases hxb
        · rw [List.mem_singleton.1 h]; exact Std.le_refl k
      | false =>
        simp only [Bool.false_and, Bool.false_eq_true, if_false]
        intro x hx
        rcases List.mem_append.1 hx with h | h
        · exact hi x h
        · rw [List.mem_singleton.1 h]; exact hb
    | some m =>
      rw [hp] at hi
      simp only at hi
      obtain ⟨h1, h2, h3⟩ := hi
      unfold pickStep betterB
      by_cases hc : (behindB last k && decide (k < m)) = true
      · simp only [hc, if_true]
        rw [Bool.and_eq_true, decide_eq_true_eq] at hc
        refine ⟨by simp, hc.1, fun x hx hxb => ?_⟩
        rcases List.mem_append.1 hx with h | h
        · exact Std.le_of_lt (Std.lt_of_lt_of_le hc.2 (h3 x h hxb))
        · rw [List.mem_singleton.1 h]; exact Std.le_refl k
      · simp only [if_neg hc]
        refine ⟨List.mem_append_left _ h1, h2, fun x hx hxb => ?_⟩
        rcases List.mem_append.1 hx with h | h
        · exact h3 x h hxb
        · rw [List.mem_singleton.1 h] at hxb ⊢
          rw [hxb, Bool.true_and, decide_eq_true_eq] at hc
          exact Std.not_lt.1 hc
theorem up_get {D : List Key1} (hD : D.Pairwise (· < ·)) {i j : Nat} {x y : Key1} (hx : D[i]? = some x) (hy : D[j]? = some y) (h : x < y) : i < j := by
  rcases Nat.lt_or_ge i j with hl | hl
  · exact hl
  · obtain ⟨hi, rfl⟩ := List.getElem?_eq_some_iff.1 hx
    obtain ⟨hj, rfl⟩ := List.getElem?_eq_some_iff.1 hy
    rcases Nat.lt_or_ge j i with h2 | h2
    · exact absurd (Std.lt_trans h (List.pairwise_iff_getElem.1 hD j i hj hi h2)) (Std.lt_irrefl)
    · have : i = j := by omega
      subst this
      exact absurd h (Std.lt_irrefl)
/-- The last one of the first j. -/
def lastOf (D : List Key1) (j : Nat) : Option Key1 := if j = 0 then none else D[j - 1]?
theorem pick_next {D ks : List Key1} (hD : D.Pairwise (· < ·)) (hm : ∀ x, x ∈ D ↔ x ∈ ks) (j : Nat) (hj : j ≤ D.length) : pickS (lastOf D j) ks = D[j]? := by
  have hbeh : ∀ i x, D[i]? = some x → (behindB (lastOf D j) x = true ↔ j ≤ i) := by
    intro i x hx
    unfold lastOf
    by_cases h0 : j = 0
    · subst h0; simp [behindB]
    · rw [if_neg h0]
      obtain ⟨y, hy⟩ : ∃ y, D[j - 1]? = some y := ⟨_, List.getElem?_eq_getElem (by omega)⟩
      rw [hy]
      simp only [behindB, decide_eq_true_eq]
      constructor
      · intro h
        have := up_get hD hy hx h
        omega
      · intro h
        obtain ⟨hi, rfl⟩ := List.getElem?_eq_some_iff.1 hx
        obtain ⟨hj1, rfl⟩ := List.getElem?_eq_some_iff.1 hy
        exact List.pairwise_iff_getElem.1 hD (j - 1) i hj1 hi (by omega)
  have hs := pickS_spec (lastOf D j) ks
  rcases Nat.lt_or_ge j D.length with hl | hl
  · obtain ⟨y, hy⟩ : ∃ y, D[j]? = some y := ⟨_, List.getElem?_eq_getElem hl⟩
    have hyk := (hm y).1 (List.mem_of_getElem? hy)
    have hyb := (hbeh j y hy).2 (Nat.le_refl _)
    cases hp : pickS (lastOf D j) ks with
    | none =>
      rw [hp] at hs
      rw [hs y hyk] at hyb
      cases hyb
    | some m =>
      rw [hp] at hs
      obtain ⟨h1, h2, h3⟩ := hs
      obtain ⟨i, hi⟩ := List.mem_iff_getElem?.1 ((hm m).2 h1)
      have hji := (hbeh i m hi).1 h2
      have hle := h3 y hyk hyb
      rcases Nat.lt_or_ge j i with h4 | h4
      · obtain ⟨hi', rfl⟩ := List.getElem?_eq_some_iff.1 hi
        obtain ⟨hj', rfl⟩ := List.getElem?_eq_some_iff.1 hy
        have := List.pairwise_iff_getElem.1 hD j i hj' hi' h4
        exact absurd (Std.lt_of_lt_of_le this hle) (Std.lt_irrefl)
      · have : i = j := by omega
        rw [← this, hi]
  · rw [List.getElem?_eq_none hl]
    cases hp : pickS (lastOf D j) ks with
    | none => rfl
    | some m =>
      rw [hp] at hs
      obtain ⟨h1, h2, -⟩ := hs
      obtain ⟨i, hi⟩ := List.mem_iff_getElem?.1 ((hm m).2 h1)
      have := (hbeh i m hi).1 h2
      have := (List.getElem?_eq_some_iff.1 hi).1
      omega
/-! ### Sorted, each once -/
theorem sortS_up (ks : List Key1) : (sortS ks).Pairwise (· ≤ ·) := by
  have := List.pairwise_mergeSort (le := fun x y : Key1 => decide (x ≤ y)) (fun a b c h1 h2 => by
    simp only [decide_eq_true_eq] at h1 h2 ⊢
    exact Std.le_trans h1 h2) (fun a b => by
    rcases Std.le_total (a := a) (b := b) with h | h
    · simp [h]
    · simp [h]) ks
  exact this.imp (fun h => by simpa using h)
theorem get_bang {S : List Key1} {m : Nat} (h : m < S.length) : S.toArray[m]! = S[m] := by simp [getElem!_pos, h]
theorem compact_up {S : List Key1} (hS : S.Pairwise (· ≤ ·)) : ∀ m, m ≤ S.length → (Lib.compactUpTo S.toArray m).Pairwise (· < ·) ∧ ∀ x, x ∈ Lib.compactUpTo S.toArray m ↔ x ∈ S.take m
  | 0, _ => by simp [Lib.compactUpTo]
  | m + 1, hm => by
    obtain ⟨h1, h2⟩ := compact_up hS m (by omega)
    rw [Lib.compactUpTo_succ]
    have hml : m < S.length := by omega
    have ht : S.take (m + 1) = S.take m ++ [S[m]] := by rw [List.take_add_one, List.getElem?_eq_getElem hml]; rfl
    rw [ht, get_bang hml]
    by_cases hk : Lib.keeps S.toArray m = true
    · rw [if_pos hk]
      refine ⟨?_, fun x => by simp only [List.mem_append, h2]⟩
      refine List.pairwise_append.2 ⟨h1, by simp, fun x hx y hy => ?_⟩
      rw [List.mem_singleton.1 hy]
      have hx2 := (h2 x).1 hx
      obtain ⟨i, hi⟩ := List.mem_iff_getElem?.1 hx2
      rw [List.getElem?_take] at hi
      split at hi
      · rename_i him
        obtain ⟨hil, rfl⟩ := List.getElem?_eq_some_iff.1 hi
        unfold Lib.keeps at hk
        have hm0 : m ≠ 0 := by omega
        simp only [decide_eq_true_eq, hm0, false_or] at hk
        rw [get_bang hml, get_bang (show m - 1 < S.length by omega)] at hk
        have hle : S[i] ≤ S[m - 1] := by
          rcases Nat.lt_or_ge i (m - 1) with h | h
          · exact List.pairwise_iff_getElem.1 hS i (m - 1) hil (by omega) h
          · have : i = m - 1 := by omega
            subst this
            exact Std.le_refl _
        have hle2 : S[m - 1] ≤ S[m] := List.pairwise_iff_getElem.1 hS (m - 1) m (by omega) hml (by omega)
        exact Std.lt_of_le_of_lt hle (k_lt_of hle2 (fun e => hk e.symm))
      · cases hi
    · rw [if_neg hk, List.append_nil]
      refine ⟨h1, fun x => ?_⟩
      rw [h2, List.mem_append, List.mem_singleton]
      constructor
      · exact .inl
      · rintro (h | rfl)
        · exact h
        · unfold Lib.keeps at hk
          simp only [decide_eq_true_eq, not_or, Classical.not_not] at hk
          obtain ⟨hm0, he⟩ := hk
          rw [get_bang hml, get_bang (show m - 1 < S.length by omega)] at he
          rw [he]
          exact List.mem_iff_getElem?.2 ⟨m - 1, by rw [List.getElem?_take, if_pos (by omega), List.getElem?_eq_getElem (by omega)]⟩
/-- A step's keys, sorted, each once. -/
def keysS (l : List Part) : List Key1 := Lib.compact (sortS (partKeys l))
theorem keysS_up (l : List Part) : (keysS l).Pairwise (· < ·) ∧ ∀ x, x ∈ keysS l ↔ x ∈ partKeys l := by
  obtain ⟨h1, h2⟩ := compact_up (sortS_up (partKeys l)) (sortS (partKeys l)).length (Nat.le_refl _)
  refine ⟨h1, fun x => ?_⟩
  have := h2 x
  rw [List.take_length] at this
  exact this.trans (by simp [sortS])
theorem keysS_next (l : List Part) (j : Nat) (hj : j ≤ (keysS l).length) : pickS (lastOf (keysS l) j) (partKeys l) = (keysS l)[j]? := pick_next (keysS_up l).1 (keysS_up l).2 j hj
theorem join_take (c : UInt8) {ks : List Key1} {j : Nat} {k : Key1} (h : ks[j]? = some k) : Lib.join (ks.take (j + 1)) [c] = (if j = 0 then [] else Lib.join (ks.take j) [c] ++ [c]) ++ k := by
  induction ks generalizing j with
  | nil => simp at h
  | cons x t ih =>
    cases j with
    | zero =>
      simp at h
      subst h
      simp [Lib.join]
    | succ j =>
      rw [List.getElem?_cons_succ] at h
      have e := ih h
      rw [List.take_succ_cons, List.take_succ_cons]
      cases t with
      | nil => simp at h
      | cons y s =>
        rw [List.take_succ_cons] at e ⊢
        have e1 : ∀ z, Lib.join (x :: y :: z) [c] = x ++ ([c] ++ Lib.join (y :: z) [c]) := fun z => by simp [Lib.join, List.intercalate]
        rw [e1, e, if_neg (Nat.succ_ne_zero j)]
        cases j with
        | zero => simp [Lib.join]
        | succ j =>
          rw [List.take_succ_cons, e1, if_neg (Nat.succ_ne_zero j)]
          simp
end Go.Q

namespace Go.Q
open Go
theorem behind_eq (o : Option Key1) (p : Key1) : behindB o p = (!o.isSome || decide (o.getD [] < p)) := by cases o <;> rfl
theorem better_eq (o : Option Key1) (p : Key1) : betterB o p = (!o.isSome || decide (p < o.getD [])) := by cases o <;> rfl
theorem partKeys_snoc {r : List Part} {k : Nat} {p : Part} (h : r[k]? = some p) : partKeys (r.take (k + 1)) = partKeys (r.take k) ++ [attrKeyS p.o p.b] := by
  unfold partKeys
  rw [List.take_add_one, h]
  simp
theorem pick_yes {lo bo : Option Key1} {p : Key1} (h1 : behindB lo p = true) (h2 : betterB bo p = true) : pickStep lo bo p = some p := by
  unfold pickStep
  rw [h1, h2]
  rfl
theorem pick_no1 {lo bo : Option Key1} {p : Key1} (h1 : behindB lo p = false) : pickStep lo bo p = bo := by
  unfold pickStep
  rw [h1]
  rfl
theorem pick_no2 {lo bo : Option Key1} {p : Key1} (h1 : betterB bo p = false) : pickStep lo bo p = bo := by
  unfold pickStep
  rw [h1, Bool.and_false]
  rfl
theorem keysS_len (r : List Part) : (keysS r).length ≤ r.length := by
  have hcl := Lib.compact_length_le (sortS (partKeys r))
  have hsl : (sortS (partKeys r)).length = r.length := by simp [sortS, partKeys]
  unfold keysS
  omega
theorem keysS_mem {r : List Part} {x : Key1} (h : x ∈ keysS r) : ∃ p ∈ r, x = attrKeyS p.o p.b := by
  have h3 := sort_mem (compact_mem h)
  obtain ⟨p, hp, rfl⟩ := List.mem_map.1 h3
  exact ⟨p, hp, rfl⟩
theorem lastOf_isSome {D : List Key1} {c : Nat} (hc : c ≤ D.length) : (lastOf D c).isSome = decide (c ≠ 0) := by
  unfold lastOf
  by_cases h0 : c = 0
  · rw [if_pos h0, decide_eq_false (fun h => h h0)]
    rfl
  · rw [if_neg h0, decide_eq_true h0, List.getElem?_eq_getElem (by omega)]
    rfl
theorem lastOf_succ {D : List Key1} {c : Nat} : lastOf D (c + 1) = D[c]? := by
  unfold lastOf
  rw [if_neg (Nat.succ_ne_zero c), Nat.add_sub_cancel]
/-- A front's length. -/
theorem joinF_len (c : UInt8) (M N : Nat) {ks : List Key1} (h : ∀ k ∈ ks, k.length ≤ M) (hn : ks.length ≤ N) (j : Nat) : (Lib.join (ks.take j) [c]).length ≤ N * (M + 1) := by
  have := join_len c M (ks.take j) (fun k hk => h k (List.mem_of_mem_take hk))
  have h2 : (ks.take j).length * (M + 1) ≤ N * (M + 1) := Nat.mul_le_mul_right _ (by rw [List.length_take]; omega)
  omega
theorem less_of {x y : Key1} : Op.bytesLess x y = decide (x < y) := Go.Proofs.bytesLess_eq x y
/-- Is it greater? As the walk reckons it. -/
theorem greater_of (x y : Key1) : (!(Op.bytesLess x y || x == y)) = decide (y < x) := by
  rw [less_of]
  by_cases h : y < x
  · rw [decide_eq_true h]
    have h1 : ¬ x < y := fun h2 => absurd (Std.lt_trans h h2) (Std.lt_irrefl)
    have h2 : x ≠ y := fun e => absurd (e ▸ h) (Std.lt_irrefl)
    rw [decide_eq_false h1, Bool.false_or]
    simpa using h2
  · rw [decide_eq_false h]
    rcases Classical.em (x = y) with rfl | hne
    · simp
    · have := k_lt_of (Std.not_lt.1 h) hne
      rw [decide_eq_true this]
      rfl
end Go.Q

namespace Go.Proofs.YtgffhiopbnkjbaaGreatDoor
open Go Go.RowKit Go.Q
set_option linter.unusedSimpArgs false

set_option maxRecDepth 20000 in
set_option maxHeartbeats 4000000 in
theorem r14Key_any (v : Value) (n : List (List Part)) (w : World) (h : NameAt w v n) (hf : ∀ r ∈ n, fewB r) (hok : nameOk n = true) :
    Calls Tryz.prog 46 #[v] w fun e w' => e = .returned (str (nameKeyS n)) ∧ Fr (fun _ => False) w w' := by
  have H := Lib.hid h
  obtain ⟨hn64, hrd⟩ := name_rdns hok
  have HRD := Lib.hid hrd
  obtain ⟨a, cap, rfl, hc, hm, -⟩ := h
  have hkl : ∀ k ∈ n.map rdnKeyS, k.length ≤ 2560017616 := fun k hk => by
    obtain ⟨r, hr, rfl⟩ := List.mem_map.1 hk
    exact rdnKey_len (hf r hr) (hrd r hr)
  have HPL := Lib.hid (joinF_len 47 2560017616 64 hkl (by rw [List.length_map]; exact hn64))
  have hJ : ∀ j, Lib.join ((n.map rdnKeyS).take j) [47] = Lib.join ((n.take j).map rdnKeyS) [47] := fun j => by rw [← List.map_take]
  have HNK := Lib.hid (show nameKeyS n = Lib.join ((n.map rdnKeyS).take n.length) [47] from by unfold nameKeyS; rw [List.take_of_length_le (by rw [List.length_map]; omega)])
  clear hkl hJ hok hrd
  go_enter Tryz.func46, Tryz.ntmps46
  go_wp2_with fail
  go_loopg [3, 4] n.length (fun g o i wr => ∃ j : Nat, g = n.length - j ∧ j ≤ n.length ∧ o = str (Lib.join ((n.map rdnKeyS).take j) [47]) ∧ i = .int .i64 j ∧ Fr (fun _ => False) w wr)
  case atStart => exact ⟨0, rfl, Nat.zero_le _, rfl, rfl, Fr.refl _⟩
  case round =>
    obtain ⟨j, hg, hj, rfl, rfl, F⟩ := hrel
    have HG := Lib.hid hg
    have HF := Lib.hid F
    obtain ⟨J, hJ⟩ : ∃ J, J = Lib.join ((n.map rdnKeyS).take j) [47] := ⟨_, rfl⟩
    have hJl : J.length ≤ 200000000000 := by rw [hJ]; have := HPL.out j; omega
    rw [← hJ]
    by_cases hjl : j < n.length
    · obtain ⟨a0, cap0, he, _, _, hx⟩ := H.out
      simp only [Value.slice.injEq, true_and] at he
      obtain ⟨rfl, rfl⟩ := he
      obtain ⟨b, off, rfl, hy⟩ := hx (by omega)
      obtain ⟨r, hr⟩ : ∃ r, n[j]? = some r := ⟨_, List.getElem?_eq_getElem hjl⟩
      obtain ⟨x, e0, hA⟩ := hy j r hr
      have hmem := List.mem_of_getElem? hr
      obtain ⟨hr16, hro⟩ := rdn_oids (HRD.out r hmem)
      have HRO := Lib.hid hro
      have HRF := Lib.hid (hf r hmem)
      obtain ⟨P, hP⟩ : ∃ P, P = if j = 0 then [] else J ++ [47] := ⟨_, rfl⟩
      have hnext : Lib.join ((n.map rdnKeyS).take (j + 1)) [47] = P ++ rdnKeyS r := by
        have := join_take 47 (ks := n.map rdnKeyS) (j := j) (k := rdnKeyS r) (by rw [List.getElem?_map, hr]; rfl)
        rw [this, hP, hJ]
      have hPl : P.length ≤ 200000000001 := by
        rw [hP]
        split
        · simp
        · rw [List.length_append]; simp; omega
      have HNX := Lib.hid hnext
      have HP := Lib.hid hP
      have HA := Lib.hid hA
      have HE0 := Lib.hid e0
      have HK2 := Lib.hid (show rdnKeyS r = Lib.join (keysS r) [43] from rfl)
      have hKl := keysS_len r
      have HNE := Lib.hid (fun c hc => keysS_next r c hc)
      have hkm : ∀ k ∈ keysS r, k.length ≤ 160001100 := fun k hk => by
        obtain ⟨p, hp, rfl⟩ := keysS_mem hk
        exact attrKey_len (hro p hp) (hf r hmem p hp)
      have HKM := Lib.hid hkm
      have HQL := Lib.hid (joinF_len 43 160001100 16 hkm (by omega))
      have r1 : (0 : Int) ≤ (j : Int) := by omega
      have r2 : (j : Int) < (n.length : Int) := by omega
      have hJ0 : j = 0 → J = [] := fun h => by rw [hJ, h]; simp [Lib.join]
      have HJ0 := Lib.hid hJ0
      clear hx hy hr hA hmem hro hP hnext hkm e0 hJ hg F hJ0
      obtain ⟨K, hK⟩ : ∃ K, K = keysS r := ⟨_, rfl⟩
      rw [← hK] at HK2 hKl HNE HKM HQL
      have hJs : (ByteArray.mk J.toArray).size = J.length := by simp [ByteArray.size]
      clear hK
      go_upto_region 5 with fail
      have hpos : j = 0 ∨ 0 < j := by omega
      rcases hpos with hj0 | hj0
      case' inl =>
        have q1 : decide ((0 : Int) < (j : Int)) = false := decide_eq_false (by omega)
        have q2 : decide (0 < j) = false := decide_eq_false (by omega)
        have hP0 : P = J := by rw [HP.out, if_pos hj0, HJ0.out hj0]
        clear HP HJ0 HPL hj0
        subst hP0
        go_upto_region 7 with fail
        clear q1 q2
      case' inr =>
        have q1 : (0 : Int) < (j : Int) := by omega
        have hP0 := HP.out
        rw [if_neg (by omega)] at hP0
        clear HP HJ0 HPL
        go_upto_region 7 with fail
        rw [show (Value.string ({ data := J.toArray } ++ { data := #[47] })) = str P from by rw [hP0]; exact congrArg Value.string (ba_cat _ _)]
        clear hP0 q1 hj0
      all_goals
        clear hJs hJl
        obtain ⟨wo, hwo⟩ : ∃ wo : World, wo = wr := ⟨_, rfl⟩
        obtain rfl := hwo
        go_wp2_with fail
        go_loopg [3, 5, 6] K.length (fun g o la an wr => ∃ c : Nat, g = K.length - c ∧ c ≤ K.length ∧ o = str (P ++ Lib.join (K.take c) [43]) ∧ la = str ((lastOf K c).getD []) ∧ an = .bool (lastOf K c).isSome ∧ Fr (fun _ => False) w wr)
        case atStart => exact ⟨0, rfl, Nat.zero_le _, by simp [Lib.join], rfl, rfl, HF.out⟩
        case round =>
          obtain ⟨c, hg, hcK, rfl, rfl, rfl, F⟩ := hrel
          have HG2 := Lib.hid hg
          have HF2 := Lib.hid F
          have hls := lastOf_isSome hcK
          have HLS := Lib.hid hls
          obtain ⟨lo, hlo⟩ : ∃ lo, lo = lastOf K c := ⟨_, rfl⟩
          have hN := HNE.out c hcK
          rw [← hlo] at hN HLS ⊢
          have HN2 := Lib.hid hN
          have HLO := Lib.hid hlo
          obtain ⟨Q, hQ⟩ : ∃ Q, Q = P ++ Lib.join (K.take c) [43] := ⟨_, rfl⟩
          have hQl : Q.length ≤ 300000000000 := by rw [hQ, List.length_append]; have := HQL.out c; omega
          rw [← hQ]
          have HQ := Lib.hid hQ
          obtain ⟨la, hla⟩ : ∃ la, la = lo.getD [] := ⟨_, rfl⟩
          obtain ⟨an, han⟩ : ∃ an, an = lo.isSome := ⟨_, rfl⟩
          rw [← hla, ← han]
          have HLA := Lib.hid hla
          have HAN := Lib.hid han
          clear hg F hls hN hlo hQ hla han
          obtain ⟨wo2, hwo⟩ : ∃ wo : World, wo = wr := ⟨_, rfl⟩
          obtain rfl := hwo
          go_wp2_with fail
          go_loopg [7, 8, 9] r.length (fun g nx fo k wr => ∃ i : Nat, g = r.length - i ∧ i ≤ r.length ∧ nx = str ((pickS lo (partKeys (r.take i))).getD []) ∧ fo = .bool (pickS lo (partKeys (r.take i))).isSome ∧ k = .int .i64 i ∧ Fr (fun _ => False) w wr)
          case atStart => exact ⟨0, rfl, Nat.zero_le _, rfl, rfl, rfl, HF2.out⟩
          case round =>
            obtain ⟨i, hg, hir, rfl, rfl, rfl, F⟩ := hrel
            have HG3 := Lib.hid hg
            have HF3 := Lib.hid F
            have e0 := F.cell HE0.out (fun h => h)
            obtain ⟨a1, c1, hxe, _, _, hx⟩ := HA.out.old F
            subst hxe
            obtain ⟨bo, hbo⟩ : ∃ bo, bo = pickS lo (partKeys (r.take i)) := ⟨_, rfl⟩
            rw [← hbo]
            have HBO := Lib.hid hbo
            obtain ⟨nx, hnx⟩ : ∃ nx, nx = bo.getD [] := ⟨_, rfl⟩
            obtain ⟨fo, hfo⟩ : ∃ fo, fo = bo.isSome := ⟨_, rfl⟩
            rw [← hnx, ← hfo]
            have HNX2 := Lib.hid hnx
            have HFO := Lib.hid hfo
            clear hg F hbo hnx hfo
            by_cases hil : i < r.length
            · obtain ⟨b1, o1, rfl, hy⟩ := hx (by omega)
              obtain ⟨p, hp⟩ : ∃ p, r[i]? = some p := ⟨_, List.getElem?_eq_getElem hil⟩
              obtain ⟨x, y, e1, e2, hpx, hpy⟩ := hy i p hp
              have hpm := List.mem_of_getElem? hp
              have HPK := Lib.hid (r14partKey_any x y p.o p.b wr hpx hpy (HRO.out p hpm) (HRF.out p hpm))
              have hst : pickS lo (partKeys (r.take (i + 1))) = pickStep lo bo (attrKeyS p.o p.b) := by rw [partKeys_snoc hp, pickS_snoc, HBO.out]
              have r3 : (0 : Int) ≤ (i : Int) := by omega
              have r4 : (i : Int) < (r.length : Int) := by omega
              obtain ⟨ax, cx, rfl, -⟩ := Ints.form hpx
              obtain ⟨ay, cy, rfl, -⟩ := Vals.form hpy
              have e1' : wr.cell? ⟨b1, o1 + i * 2, none⟩ = some (.slice ax p.o.length cx) := by rw [Nat.mul_comm]; exact e1
              have e2' : wr.cell? ⟨b1, o1 + i * 2 + 1, none⟩ = some (.slice ay p.b.length cy) := by rw [Nat.mul_comm]; exact e2
              obtain ⟨kp, hkp⟩ : ∃ kp, kp = attrKeyS p.o p.b := ⟨_, rfl⟩
              rw [← hkp] at HPK hst
              have HST := Lib.hid hst
              have hB : (an = false ∧ behindB lo kp = true) ∨ (an = true ∧ Op.bytesLess kp la = true ∧ behindB lo kp = false) ∨ (an = true ∧ Op.bytesLess kp la = false ∧ (kp == la) = true ∧ behindB lo kp = false) ∨ (an = true ∧ Op.bytesLess kp la = false ∧ (kp == la) = false ∧ behindB lo kp = true) := by
                rw [behind_eq, ← HLA.out, ← HAN.out, ← greater_of kp la]
                cases an <;> cases Op.bytesLess kp la <;> cases (kp == la) <;> simp
              have hT : (fo = false ∧ betterB bo kp = true) ∨ (fo = true ∧ Op.bytesLess kp nx = true ∧ betterB bo kp = true) ∨ (fo = true ∧ Op.bytesLess kp nx = false ∧ betterB bo kp = false) := by
                rw [better_eq, ← HNX2.out, ← HFO.out, ← less_of (x := kp)]
                cases fo <;> cases Op.bytesLess kp nx <;> simp
              have HB := Lib.hid hB
              have HT := Lib.hid hT
              clear hx hy hp hpx hpy hpm hkp e1 e2 hst hB hT
              go_wp2_with fail
              refine HPK.out.mono ?_
              rintro e w3 ⟨rfl, F3⟩
              have HF4 := Lib.hid (HF3.out.trans F3)
              clear HPK F3 e0 e1' e2'
              rcases HB.out with ⟨rfl, hb⟩ | ⟨rfl, d1, hb⟩ | ⟨rfl, d1, d2, hb⟩ | ⟨rfl, d1, d2, hb⟩ <;> rcases HT.out with ⟨rfl, ht⟩ | ⟨rfl, d3, ht⟩ | ⟨rfl, d3, ht⟩
              all_goals
                have HS2 := Lib.hid (And.intro hb ht)
                clear hb ht HB HT
                go_wp2_with fail
                go_roundg (r.length - (i + 1))
                case measure => rw [HG3.out]; omega
                case rel =>
                  have hst := HST.out
                  unfold pickStep at hst
                  rw [HS2.out.1, HS2.out.2] at hst
                  refine ⟨i + 1, rfl, by omega, ?_, ?_, by go_num, HF4.out⟩
                  · rw [hst]
                    first | rfl | (simp only [Bool.and_true, Bool.and_false, Bool.false_and, Bool.true_and, Bool.false_eq_true, if_true, if_false]; first | rfl | rw [HNX2.out])
                  · rw [hst]
                    first | rfl | (simp only [Bool.and_true, Bool.and_false, Bool.false_and, Bool.true_and, Bool.false_eq_true, if_true, if_false]; first | rfl | rw [HFO.out])
            · obtain rfl : i = r.length := by omega
              have hb := HBO.out
              rw [List.take_length, HN2.out] at hb
              clear hx
              rcases Nat.lt_or_ge c K.length with hcl | hcl
              · obtain ⟨m, hm2⟩ : ∃ m, K[c]? = some m := ⟨_, List.getElem?_eq_getElem hcl⟩
                have hml := HKM.out m (List.mem_of_getElem? hm2)
                have hjt := join_take 43 hm2
                rw [hm2] at hb
                have hn2 := HNX2.out
                have hf2 := HFO.out
                rw [hb] at hn2 hf2
                have hn3 : nx = m := hn2
                have hf3 : fo = true := hf2
                subst hn3; subst hf3
                have hlast : lastOf K (c + 1) = some nx := by rw [lastOf_succ]; exact hm2
                have HLT := Lib.hid hlast
                have hms : (ByteArray.mk nx.toArray).size = nx.length := by simp [ByteArray.size]
                have hQs : (ByteArray.mk Q.toArray).size = Q.length := by simp [ByteArray.size]
                have HJT := Lib.hid hjt
                clear hb hn2 hf2 hm2 hlast hjt
                by_cases hc0 : c = 0
                · have ha0 : an = false := by rw [HAN.out, HLS.out, hc0]; rfl
                  have hjt := HJT.out
                  rw [if_pos hc0] at hjt
                  have hQP : Q = P := by rw [HQ.out, hc0]; simp [Lib.join]
                  have HJ2 := Lib.hid hjt
                  have HQP := Lib.hid hQP
                  subst ha0
                  clear hjt hQP hc0
                  go_wp2_with fail
                  go_roundg (K.length - (c + 1))
                  case measure => rw [HG2.out]; omega
                  case rel => exact ⟨c + 1, rfl, by omega, by rw [HJ2.out, HQP.out]; exact congrArg Value.string (ba_cat _ _), by rw [HLT.out]; rfl, by rw [HLT.out]; rfl, HF3.out⟩
                · have ha0 : an = true := by rw [HAN.out, HLS.out]; exact decide_eq_true hc0
                  have hjt := HJT.out
                  rw [if_neg hc0] at hjt
                  have HJ2 := Lib.hid hjt
                  subst ha0
                  clear hjt hc0
                  go_wp2_with fail
                  go_roundg (K.length - (c + 1))
                  case measure => rw [HG2.out]; omega
                  case rel => exact ⟨c + 1, rfl, by omega, by rw [HJ2.out, ← List.append_assoc, ← List.append_assoc, ← HQ.out]; exact congrArg Value.string (by rw [ba_cat, ba_cat]), by rw [HLT.out]; rfl, by rw [HLT.out]; rfl, HF3.out⟩
              · rw [List.getElem?_eq_none hcl] at hb
                have hf2 := HFO.out
                rw [hb] at hf2
                have hf3 : fo = false := hf2
                subst hf3
                have hc2 : c = K.length := by omega
                have hres : Lib.join ((n.map rdnKeyS).take (j + 1)) [47] = Q := by rw [HNX.out, HK2.out, HQ.out, hc2, List.take_length]
                have HRES := Lib.hid hres
                clear hb hf2 hc2 hres
                go_wp2_with fail
                go_roundg (n.length - (j + 1))
                case measure => rw [HG.out]; omega
                case rel => exact ⟨j + 1, rfl, by omega, by rw [HRES.out], by go_num, HF3.out⟩
    · obtain rfl : j = n.length := by omega
      have hres : nameKeyS n = J := by rw [HNK.out, hJ]
      have HRES := Lib.hid hres
      clear hJ hres
      go_wp2_with fail
      go_ret
      exact ⟨by rw [HRES.out]; rfl, HF.out⟩

set_option maxRecDepth 20000 in
set_option maxHeartbeats 2000000 in
theorem r14Same_any (v u : Value) (n m : List (List Part)) (w : World) (h : NameAt w v n) (hm : NameAt w u m) (hf : ∀ r ∈ n, fewB r) (hfm : ∀ r ∈ m, fewB r) :
    Calls Tryz.prog 21 #[v, u] w fun e w' => e = .returned (.bool (nameSameS n m)) ∧ Fr (fun _ => False) w w' := by
  have H := Lib.hid h
  have HM := Lib.hid hm
  have HR := Lib.hid (r14Right_any v n w h hf)
  have HS := Lib.hid (show nameSameS n m = (nameOk n && (nameOk m && decide (nameKeyS n = nameKeyS m))) from rfl)
  clear h hm
  go_enter Tryz.func21, Tryz.ntmps21
  go_wp2_with fail
  refine HR.out.mono ?_
  rintro e w1 ⟨rfl, F1⟩
  have HF1 := Lib.hid F1
  have HR2 := Lib.hid (r14Right_any u m w1 (HM.out.old F1) hfm)
  clear HR F1
  cases hok : nameOk n with
  | false =>
    rw [hok] at HS
    clear hok
    go_wp2_with fail
    go_ret
    exact ⟨by rw [HS.out]; rfl, HF1.out⟩
  | true =>
    have HOK := Lib.hid hok
    rw [hok] at HS
    clear hok
    go_wp2_with fail
    refine HR2.out.mono ?_
    rintro e w2 ⟨rfl, F2⟩
    have HF2 := Lib.hid (HF1.out.trans F2)
    clear HR2 F2 HF1
    cases hok2 : nameOk m with
    | false =>
      rw [hok2] at HS
      clear hok2
      go_wp2_with fail
      go_ret
      exact ⟨by rw [HS.out]; rfl, HF2.out⟩
    | true =>
      have HOK2 := Lib.hid hok2
      rw [hok2] at HS
      have HK := Lib.hid (r14Key_any v n w2 (H.out.old HF2.out) hf HOK.out)
      clear hok2
      go_wp2_with fail
      refine HK.out.mono ?_
      rintro e w3 ⟨rfl, F3⟩
      have HF3 := Lib.hid (HF2.out.trans F3)
      have HK2 := Lib.hid (r14Key_any u m w3 (HM.out.old HF3.out) hfm HOK2.out)
      clear HK F3 HF2
      go_wp2_with fail
      refine HK2.out.mono ?_
      rintro e w4 ⟨rfl, F4⟩
      have HF4 := Lib.hid (HF3.out.trans F4)
      clear HK2 F4 HF3
      generalize nameKeyS n = kn at *
      generalize nameKeyS m = km at *
      by_cases hkk : kn = km
      · have hq2 : (kn == km) = true := by simpa using hkk
        have HKK := Lib.hid (decide_eq_true hkk)
        clear hkk
        go_wp2_with fail
        go_ret
        exact ⟨by rw [HS.out, HKK.out]; rfl, HF4.out⟩
      · have hq2 : (kn == km) = false := by simpa using hkk
        have HKK := Lib.hid (decide_eq_false hkk)
        clear hkk
        go_wp2_with fail
        go_ret
        exact ⟨by rw [HS.out, HKK.out]; rfl, HF4.out⟩
end Go.Proofs.YtgffhiopbnkjbaaGreatDoor

namespace Go.Proofs.YtgffhiopbnkjbaaGreatDoor
open Go Go.RowKit Go.Q

set_option maxRecDepth 20000 in
set_option maxHeartbeats 2000000 in
theorem nmKnown_any (w : World) (hE : Env w) :
    Calls Tryz.prog 12 #[] w fun e w' => e = .returned (.bool true) ∧ Fr (fun _ => False) w w' := by
  have HE := Lib.hid hE
  have strs2 : ∀ (W : World) (x y : List UInt8), Strs (W.alloc (.cells #[str x, str y] 9)) (.slice (some ⟨W.heap.size, 0, none⟩) 2 2) [x, y] := fun W x y => Vals.of_block (Blk.new W 9 #[str x, str y]) (by unfold maxLen; simp)
  have few2 : ∀ x y : List UInt8, x.length ≤ 10000000 → y.length ≤ 10000000 → ∀ k ∈ [x, y], k.length ≤ 10000000 := fun x y hx hy k hk => by
    rcases List.mem_cons.1 hk with rfl | hk
    · exact hx
    · rw [List.mem_singleton.1 hk]; exact hy
  have HS2 := Lib.hid strs2
  have HF2 := Lib.hid few2
  clear hE strs2 few2
  go_enter Tryz.func12, Tryz.ntmps12
  go_wp2_with fail
  have G1 : Fr (fun _ => False) w (w.alloc (.cells #[str knT1, str knT2] 9)) := (Fr.refl w).alloc _
  refine (nameOf_any _ [knT1, knT2] _ (HS2.out w knT1 knT2) (HE.out.old G1) (HF2.out knT1 knT2 (by decide) (by decide)) (by simp)).mono ?_
  rintro e w1 ⟨hout, F1⟩
  unfold NameOfOut at hout
  rw [knA_of] at hout
  obtain ⟨vA, rfl, hA⟩ := hout
  have hAt := hA.at
  obtain ⟨aA, cA, rfl⟩ := hA.shape
  have hcA : 2 ≤ cA := by
    obtain ⟨a0, c0, he, h1, _⟩ := hAt
    simp only [Value.slice.injEq] at he
    obtain ⟨-, -, rfl⟩ := he
    exact h1
  have hmA : cA ≤ maxLen := by
    obtain ⟨a0, c0, he, _, h1, _⟩ := hAt
    simp only [Value.slice.injEq] at he
    obtain ⟨-, -, rfl⟩ := he
    exact h1
  rw [show knA.length = 2 from rfl] at *
  have HA := Lib.hid hAt
  have HG1 := Lib.hid (G1.trans F1)
  have HMA := Lib.hid hmA
  clear hA hAt F1 G1 hmA
  go_wp2_with fail
  have G2 : Fr (fun _ => False) w1 (w1.alloc (.cells #[str knT3, str knT4] 9)) := (Fr.refl w1).alloc _
  refine (nameOf_any _ [knT3, knT4] _ (HS2.out w1 knT3 knT4) ((HE.out.old HG1.out).old G2) (HF2.out knT3 knT4 (by decide) (by decide)) (by simp)).mono ?_
  rintro e w2 ⟨hout, F2⟩
  unfold NameOfOut at hout
  rw [knB_of] at hout
  obtain ⟨vB, rfl, hB⟩ := hout
  have hBt := hB.at
  obtain ⟨aB, cB, rfl⟩ := hB.shape
  rw [show knB.length = 2 from rfl] at *
  have HA2 := Lib.hid (HA.out.old (G2.trans F2))
  have HB2 := Lib.hid hBt
  have HG2 := Lib.hid ((HG1.out.trans G2).trans F2)
  clear hB hBt F2 G2 HA HG1
  go_wp2_with fail
  have G3 : Fr (fun _ => False) w2 (w2.alloc (.cells #[.int .i64 2, .int .i64 5, .int .i64 4, .int .i64 3] 3)) := (Fr.refl w2).alloc _
  have hI : Ints (w2.alloc (.cells #[.int .i64 2, .int .i64 5, .int .i64 4, .int .i64 3] 3)) (.slice (some ⟨w2.heap.size, 0, none⟩) 4 4) [2, 5, 4, 3] := Vals.of_block (Blk.new w2 3 #[.int .i64 2, .int .i64 5, .int .i64 4, .int .i64 3]) (by unfold maxLen; simp)
  refine (texts_any _ _ knA [2, 5, 4, 3] _ (HA2.out.old G3) hI kn_few ((HE.out.old HG2.out).old G3)).mono ?_
  rintro e w3 ⟨⟨x, rfl, hx⟩, F3⟩
  rw [kn_texts] at hx
  obtain ⟨ax, cx, rfl, -, -, hy⟩ := hx.form
  obtain ⟨bx, ox, rfl, hz⟩ := hy (by simp)
  have ex := hz 0 _ rfl
  simp only [Nat.add_zero] at ex
  simp only [List.length_cons, List.length_nil, Nat.zero_add] at *
  have HA3 := Lib.hid (HA2.out.old (G3.trans F3))
  have HB3 := Lib.hid (HB2.out.old (G3.trans F3))
  have HG3 := Lib.hid ((HG2.out.trans G3).trans F3)
  have HEX := Lib.hid ex
  clear hx hy hz hI F3 G3 HA2 HB2 HG2
  have HC1 := Lib.hid (nameSame_any _ _ knA knB w3 HA3.out HB3.out kn_few kn_fewB (HE.out.old HG3.out))
  rw [kn_same] at HC1
  go_wp2_with fail
  refine HC1.out.mono ?_
  rintro e w4 ⟨rfl, F4⟩
  have ex4 := F4.cell HEX.out (fun h => h)
  have hq1 : (([67, 65] : List UInt8) == [67, 65]) = true := rfl
  have r1 : (1 : Int) ≤ (cA : Int) := by omega
  have HA4 := Lib.hid (HA3.out.old F4)
  have HC2 := Lib.hid (nameSame_any _ _ knA (knA.take 1) w4 HA4.out (NameAt.take HA4.out 1 (by decide) cA (by omega) HMA.out) kn_few (fun r hr => kn_few r (List.mem_of_mem_take hr)) (HE.out.old (HG3.out.trans F4)))
  rw [kn_front] at HC2
  have HG4 := Lib.hid (HG3.out.trans F4)
  clear F4 ex HC1
  go_wp2_with fail
  refine HC2.out.mono ?_
  rintro e w5 ⟨rfl, F5⟩
  go_wp2_with fail
  go_ret
  exact ⟨rfl, HG4.out.trans F5⟩
end Go.Proofs.YtgffhiopbnkjbaaGreatDoor

namespace Go.Proofs.YtgffhiopbnkjbaaGreatDoor
open Go Go.RowKit Go.Q
set_option linter.unusedSimpArgs false

set_option maxRecDepth 20000 in
set_option maxHeartbeats 4000000 in
theorem nsWalk_any (cut : Int) (va vb : Value) (a b : List (List Part)) (w : World) (ha : NameAt w va a) (hb : NameAt w vb b) (hE : Env w) :
    Calls Tryz.prog 4 #[va, vb, .int .i64 cut] w fun e w' => e = .returned (.bool true) ∧ Fr (fun _ => False) w w' := by
  have HT := Lib.hid (lawTo_any va a w ha)
  have HB := Lib.hid hb
  have HE := Lib.hid hE
  obtain ⟨X, hX⟩ : ∃ X, X = cutName a := ⟨_, rfl⟩
  obtain ⟨Y, hY⟩ : ∃ Y, Y = cutName b := ⟨_, rfl⟩
  have hXl : X.length ≤ 70 := by rw [hX]; exact cutName_len a
  have hYl : Y.length ≤ 70 := by rw [hY]; exact cutName_len b
  have HXf := Lib.hid (show ∀ r ∈ X, fewB r from by rw [hX]; exact cutName_few a)
  have HYf := Lib.hid (show ∀ r ∈ Y, fewB r from by rw [hY]; exact cutName_few b)
  have hXr : ∀ r ∈ X, r.length ≤ 1000000 := fun r hr => by
    rw [hX] at hr
    obtain ⟨q, -, rfl⟩ := List.mem_map.1 hr
    have := cutStep_len q
    omega
  have hYr : ∀ r ∈ Y, r.length ≤ 1000000 := fun r hr => by
    rw [hY] at hr
    obtain ⟨q, -, rfl⟩ := List.mem_map.1 hr
    have := cutStep_len q
    omega
  have HXr := Lib.hid hXr
  have HYr := Lib.hid hYr
  have HY := Lib.hid hY
  rw [← hX] at HT
  clear ha hb hE hX hY hXr hYr
  go_enter Tryz.func4, Tryz.ntmps4
  go_wp2_with fail
  refine HT.out.mono ?_
  rintro e w1 ⟨⟨a1, c1, rfl, hx⟩, F1⟩
  have HX1 := Lib.hid hx.at
  have HT2 := lawTo_any vb b w1 (HB.out.old F1)
  rw [← HY.out] at HT2
  have HT3 := Lib.hid HT2
  have HF1 := Lib.hid F1
  clear hx F1 HT HT2
  go_wp2_with fail
  refine HT3.out.mono ?_
  rintro e w2 ⟨⟨a2, c2, rfl, hy⟩, F2⟩
  have HY2 := Lib.hid hy.at
  have HX2 := Lib.hid (HX1.out.old F2)
  have HF2 := Lib.hid (HF1.out.trans F2)
  clear hy F2 HT3 HX1 HF1
  have HO := Lib.hid (lawOf_any _ X w2 HX2.out (by omega) HXr.out)
  go_wp2_with fail
  refine HO.out.mono ?_
  rintro e w3 ⟨⟨a3, c3, rfl, hp⟩, F3⟩
  have HP3 := Lib.hid hp.at
  have HX3 := Lib.hid (HX2.out.old F3)
  have HY3 := Lib.hid (HY2.out.old F3)
  have HF3 := Lib.hid (HF2.out.trans F3)
  clear hp F3 HO HX2 HY2 HF2
  have HO := Lib.hid (lawOf_any _ Y w3 HY3.out (by omega) HYr.out)
  go_wp2_with fail
  refine HO.out.mono ?_
  rintro e w4 ⟨⟨a4, c4, rfl, hq⟩, F4⟩
  have HQ4 := Lib.hid hq.at
  have HP4 := Lib.hid (HP3.out.old F4)
  have HX4 := Lib.hid (HX3.out.old F4)
  have HY4 := Lib.hid (HY3.out.old F4)
  have HF4 := Lib.hid (HF3.out.trans F4)
  clear hq F4 HO HX3 HY3 HF3 HP3
  go_upto_region 3 with fail
  go_upto_region 4 with fail
  obtain ⟨k, hk, hkX⟩ : ∃ k : Nat, wrap64 ((IntKind.u64.wrap cut).tmod ((X.length : Int) + 1)) = (k : Int) ∧ k ≤ X.length := by
    have h0 : 0 ≤ IntKind.u64.wrap cut := by
      simp only [IntKind.wrap, IntKind.signed, IntKind.bits]
      simp
      omega
    have h1 := Int.tmod_eq_emod_of_nonneg (b := (X.length : Int) + 1) h0
    have h2 := Int.emod_nonneg (IntKind.u64.wrap cut) (b := (X.length : Int) + 1) (by omega)
    have h3 := Int.emod_lt_of_pos (IntKind.u64.wrap cut) (b := (X.length : Int) + 1) (by omega)
    rw [h1]
    generalize IntKind.u64.wrap cut % ((X.length : Int) + 1) = m at *
    exact ⟨m.toNat, by unfold wrap64; omega, by omega⟩
  rw [hk]
  generalize IntKind.u64.wrap cut = cu
  have HSM := Lib.hid (nameSame_comm Y X)
  have HUF := Lib.hid (under_front hkX)
  have HU0 := Lib.hid (show underS X Y = (nameOk X && (decide (Y.length ≤ X.length) && nameSameS (X.take Y.length) Y)) from rfl)
  obtain ⟨_, _, he, hc1, hm1⟩ := HX4.out.form
  simp only [Value.slice.injEq] at he
  obtain ⟨-, -, rfl⟩ := he
  obtain ⟨_, _, he, hc3, hm3⟩ := HP4.out.form
  simp only [Value.slice.injEq] at he
  obtain ⟨-, -, rfl⟩ := he
  have HM1 := Lib.hid hm1
  have HM3 := Lib.hid hm3
  have HR := Lib.hid (r14Right_any _ X w4 HP4.out HXf.out)
  have hcase : nameOk X = false ∨ (nameOk X = true ∧ ¬ Y.length ≤ X.length) ∨ (nameOk X = true ∧ Y.length ≤ X.length) := by
    cases nameOk X
    · exact .inl rfl
    · rcases Classical.em (Y.length ≤ X.length) with h | h
      · exact .inr (.inr ⟨rfl, h⟩)
      · exact .inr (.inl ⟨rfl, h⟩)
  clear hk hm1 hm3
  rcases hcase with h | ⟨h, hl⟩ | ⟨h, hl⟩
  case' inl =>
    obtain ⟨uv, huv⟩ : ∃ uv, underS X Y = uv := ⟨_, rfl⟩
    have hu2 : uv = false := by rw [← huv, HU0.out, h]; rfl
    rw [h] at HR HUF
    obtain ⟨ok, hok⟩ : ∃ ok, nameOk X = ok := ⟨_, rfl⟩
    have hok2 : ok = false := by rw [← hok, h]
    have HUV := Lib.hid huv
    have HOK := Lib.hid hok
    clear huv hok h HU0
    subst hu2; subst hok2
    go_wp2_with fail
    refine HR.out.mono ?_
    rintro e w5 ⟨rfl, F5⟩
    have HF5 := Lib.hid (HF4.out.trans F5)
    have HX5 := Lib.hid (HX4.out.old F5)
    have HY5 := Lib.hid (HY4.out.old F5)
    have HP5 := Lib.hid (HP4.out.old F5)
    have HQ5 := Lib.hid (HQ4.out.old F5)
    clear F5 HR HF4 HX4 HY4 HP4 HQ4
    go_upto_region 5 with fail
  case' inr.inl =>
    obtain ⟨uv, huv⟩ : ∃ uv, underS X Y = uv := ⟨_, rfl⟩
    have hu2 : uv = false := by rw [← huv, HU0.out, decide_eq_false hl, Bool.false_and, Bool.and_false]
    rw [h] at HR HUF
    obtain ⟨ok, hok⟩ : ∃ ok, nameOk X = ok := ⟨_, rfl⟩
    have hok2 : ok = true := by rw [← hok, h]
    have HUV := Lib.hid huv
    have HOK := Lib.hid hok
    have q1 : ¬ (Y.length : Int) ≤ (X.length : Int) := by omega
    clear huv hok h HU0
    subst hu2; subst hok2
    go_wp2_with fail
    refine HR.out.mono ?_
    rintro e w5 ⟨rfl, F5⟩
    have HF5 := Lib.hid (HF4.out.trans F5)
    have HX5 := Lib.hid (HX4.out.old F5)
    have HY5 := Lib.hid (HY4.out.old F5)
    have HP5 := Lib.hid (HP4.out.old F5)
    have HQ5 := Lib.hid (HQ4.out.old F5)
    clear F5 HR HF4 HX4 HY4 HP4 HQ4
    go_upto_region 5 with fail
    clear q1 hl
  case' inr.inr =>
    obtain ⟨uv, huv⟩ : ∃ uv, underS X Y = uv := ⟨_, rfl⟩
    have hu2 : nameSameS (X.take Y.length) Y = uv := by rw [← huv, HU0.out, decide_eq_true hl, h]; rfl
    rw [h] at HR HUF
    obtain ⟨ok, hok⟩ : ∃ ok, nameOk X = ok := ⟨_, rfl⟩
    have hok2 : ok = true := by rw [← hok, h]
    have HUV := Lib.hid huv
    have HOK := Lib.hid hok
    have HU2 := Lib.hid hu2
    have q1 : (Y.length : Int) ≤ (X.length : Int) := by omega
    have q2 : min (Y.length : Int) (X.length : Int) = (Y.length : Int) := by omega
    have q3 : min Y.length X.length = Y.length := by omega
    have q4 : (0 : Int) ≤ (Y.length : Int) := by omega
    have HL := Lib.hid hl
    clear huv hok h HU0 hu2
    subst hok2
    go_wp2_with fail
    refine HR.out.mono ?_
    rintro e w5 ⟨rfl, F5⟩
    have HF6 := Lib.hid (HF4.out.trans F5)
    have HX6 := Lib.hid (HX4.out.old F5)
    have HY6 := Lib.hid (HY4.out.old F5)
    have HP6 := Lib.hid (HP4.out.old F5)
    have HQ6 := Lib.hid (HQ4.out.old F5)
    have HS := r14Same_any _ _ (X.take Y.length) Y w5 (NameAt.take HP6.out Y.length HL.out _ (by omega) HM3.out) HQ6.out (fun r hr => HXf.out r (List.mem_of_mem_take hr)) HYf.out
    rw [HU2.out] at HS
    have HS2 := Lib.hid HS
    clear F5 HR HF4 HX4 HY4 HP4 HQ4 HS
    go_wp2_with fail
    refine HS2.out.mono ?_
    rintro e w6 ⟨rfl, F5⟩
    have HF5 := Lib.hid (HF6.out.trans F5)
    have HX5 := Lib.hid (HX6.out.old F5)
    have HY5 := Lib.hid (HY6.out.old F5)
    have HP5 := Lib.hid (HP6.out.old F5)
    have HQ5 := Lib.hid (HQ6.out.old F5)
    clear F5 HF6 HX6 HY6 HP6 HQ6 HS2 HU2
    go_upto_region 5 with fail
    clear q1 q2 q3 q4 hl HL
  all_goals
    have HK := Lib.hid (nmKnown_any _ (HE.out.old HF5.out))
    obtain ⟨s, hs⟩ : ∃ s, nameSameS X Y = s := ⟨_, rfl⟩
    rw [hs] at HSM
    have HSS := Lib.hid hs
    have p1 : (0 : Int) ≤ (k : Int) := by omega
    have p2 : (k : Int) ≤ (c1 : Int) := by omega
    clear hs
    go_wp2_with fail
    refine HK.out.mono ?_
    rintro e w6 ⟨rfl, F6⟩
    have HF6 := Lib.hid (HF5.out.trans F6)
    have HX6 := Lib.hid (HX5.out.old F6)
    have HY6 := Lib.hid (HY5.out.old F6)
    have HP6 := Lib.hid (HP5.out.old F6)
    have HQ6 := Lib.hid (HQ5.out.old F6)
    have HC := nameSame_any _ _ X Y w6 HX6.out HY6.out HXf.out HYf.out (HE.out.old HF6.out)
    rw [HSS.out] at HC
    replace HC := Lib.hid HC
    clear F6 HF5 HX5 HY5 HP5 HQ5
    go_wp2_with fail
    refine HC.out.mono ?_
    rintro e w7 ⟨rfl, F7⟩
    have HF7 := Lib.hid (HF6.out.trans F7)
    have HX7 := Lib.hid (HX6.out.old F7)
    have HY7 := Lib.hid (HY6.out.old F7)
    have HP7 := Lib.hid (HP6.out.old F7)
    have HQ7 := Lib.hid (HQ6.out.old F7)
    have HC := r14Same_any _ _ X Y w7 HP7.out HQ7.out HXf.out HYf.out
    rw [HSS.out] at HC
    replace HC := Lib.hid HC
    clear F7 HF6 HX6 HY6 HP6 HQ6
    go_wp2_with fail
    refine HC.out.mono ?_
    rintro e w8 ⟨rfl, F8⟩
    have HF8 := Lib.hid (HF7.out.trans F8)
    have HX8 := Lib.hid (HX7.out.old F8)
    have HY8 := Lib.hid (HY7.out.old F8)
    have HP8 := Lib.hid (HP7.out.old F8)
    have HQ8 := Lib.hid (HQ7.out.old F8)
    have HC := nameSame_any _ _ Y X w8 HY8.out HX8.out HYf.out HXf.out (HE.out.old HF8.out)
    rw [HSM.out] at HC
    replace HC := Lib.hid HC
    clear F8 HF7 HX7 HY7 HP7 HQ7
    go_wp2_with fail
    refine HC.out.mono ?_
    rintro e w9 ⟨rfl, F9⟩
    have HF9 := Lib.hid (HF8.out.trans F9)
    have HX9 := Lib.hid (HX8.out.old F9)
    have HY9 := Lib.hid (HY8.out.old F9)
    have HP9 := Lib.hid (HP8.out.old F9)
    have HQ9 := Lib.hid (HQ8.out.old F9)
    have HC := r14Same_any _ _ X Y w9 HP9.out HQ9.out HXf.out HYf.out
    rw [HSS.out] at HC
    replace HC := Lib.hid HC
    clear F9 HF8 HX8 HY8 HP8 HQ8
    go_wp2_with fail
    refine HC.out.mono ?_
    rintro e w10 ⟨rfl, F10⟩
    have HF10 := Lib.hid (HF9.out.trans F10)
    have HX10 := Lib.hid (HX9.out.old F10)
    have HY10 := Lib.hid (HY9.out.old F10)
    have HP10 := Lib.hid (HP9.out.old F10)
    have HQ10 := Lib.hid (HQ9.out.old F10)
    have HC := nameUnder_any _ _ X Y w10 HX10.out HY10.out HXf.out HYf.out (HE.out.old HF10.out)
    rw [HUV.out] at HC
    replace HC := Lib.hid HC
    clear F10 HF9 HX9 HY9 HP9 HQ9
    go_wp2_with fail
    refine HC.out.mono ?_
    rintro e w11 ⟨rfl, F11⟩
    have HF11 := Lib.hid (HF10.out.trans F11)
    have HX11 := Lib.hid (HX10.out.old F11)
    have HY11 := Lib.hid (HY10.out.old F11)
    have HP11 := Lib.hid (HP10.out.old F11)
    have HQ11 := Lib.hid (HQ10.out.old F11)
    have HC := nameUnder_any _ _ X (X.take k) w11 HX11.out (NameAt.take HX11.out k hkX _ (by omega) HM1.out) HXf.out (fun r hr => HXf.out r (List.mem_of_mem_take hr)) (HE.out.old HF11.out)
    rw [HUF.out] at HC
    replace HC := Lib.hid HC
    clear F11 HF10 HX10 HY10 HP10 HQ10
    go_wp2_with fail
    refine HC.out.mono ?_
    rintro e w12 ⟨rfl, F12⟩
    have HF12 := Lib.hid (HF11.out.trans F12)
    have HX12 := Lib.hid (HX11.out.old F12)
    have HY12 := Lib.hid (HY11.out.old F12)
    have HP12 := Lib.hid (HP11.out.old F12)
    have HQ12 := Lib.hid (HQ11.out.old F12)
    have HC := r14Right_any _ X w12 HP12.out HXf.out
    rw [HOK.out] at HC
    replace HC := Lib.hid HC
    clear F12 HF11 HX11 HY11 HP11 HQ11
    go_wp2_with fail
    refine HC.out.mono ?_
    rintro e w13 ⟨rfl, F13⟩
    go_wp2_with fail
    go_ret
    exact ⟨rfl, HF12.out.trans F13⟩
end Go.Proofs.YtgffhiopbnkjbaaGreatDoor
