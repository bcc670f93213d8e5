/-
  The reference of the layer 2: ReadTag, ReadLength, Read. The reference of the layer 2: ReadLength. The reference of the layer 2: Read. What is read of tags and lengths lies within: plain laws. Parts of slices of bytes: b[i:j], b[i:]. The walks of the layer 1 (octet): Sub, Rest. The walks of the layer 2 (head): Open. The reference of the layer 2: Open. The reference's digits to the base 128: a plain law; setting a cell of a row of one's own. The walks of the layer 14 (name): (Rdn).wholes. The walk of the layer 14 (name): Right. What is read of oids, parts, steps and names: plain functions, and laws: what was read is written as it lay. The walks of the layer 4 (oid): next, split, Parse, Read. The reference of the layer 2: Of, Bytes, Length, Wrap. The reference of the layer 4 (oid): Parse, Read. The walks of the layer 6 (text): known, surrogate, printable, may. The walks of the layer 6 (text): printable, may. A range over a function whose iterator keeps its state in a cell of its own: one law for the caller, and what the iterator owes. The iterators of the layer 6 (text): single. The iterators of the layer 6 (text): pairs. utf8.DecodeRune at a slice of bytes, in lists. The iterators of the layer 6 (text): wide. The walk of the layer 6 (text): signs. The walk of the layer 6 (text): Right. The walk of the layer 6 (text): Signs. The walk of the layer 6 (text): put. The walk of the layer 6 (text): Of. The walk of the layer 6 (text): Write. Strings out of bytes, and bytes out of strings. The walk of the layer 6 (text): Least. Go's library: a strings.Builder that the call has made: WriteByte, WriteString, String; strconv.Itoa, strings.Join, strings.Cut .. in lists. What Go's library reads of its own (three tables and a number); the walk of the layer 4 (oid): Text. Go's library on strings, in lists: Split, Cut, Join, Sort, Compact. The walk of the layer 4 (oid): number.
-/
import Derived.Test.YtgffhiopbnkjbaaGreatDoorRa
import Derived.Lib.SliceRun
import Derived.Test.YtgffhiopbnkjbaaGreatDoorShelf
import Derived.RangeFuncNested
import Derived.RangeFuncBound
import Derived.RangeFuncCalls
import Derived.RangeFuncLeaves
import Derived.Shelf.Abstract
import Derived.Shelf.RegionOpen
import Derived.OwnWalkIn
import Derived.TacticsInMore
import Derived.LoopNIn
import Derived.LoopIn
import Derived.Test.YtgffhiopbnkjbaaGreatDoorShelf2
import Derived.Lib.RuneBytes
import Derived.Laws.IdiomStrings
import Derived.Shelf.Bytes.SlSmallAll
import Derived.Lib.ConvBytes
import Derived.Lib.Builder
import Derived.Lib.AppendStr
import Derived.Sort.OwnSorted
import Derived.Lib.Split
import Derived.Lib.RowBridge
namespace Go.Proofs.YtgffhiopbnkjbaaGreatDoor
open Go Go.RowKit Go.Q
set_option linter.unusedSimpArgs false

/-- What ReadTag gives. -/
def rTagV (p : Nat) : Except Int (Tag × Nat) → Value
  | .error e => .tuple #[tagV ⟨0, 0, false⟩, .int .i64 p, .int .i64 e]
  | .ok (t, k) => .tuple #[tagV t, .int .i64 ((p + k : Nat) : Int), .int .i64 0]
theorem numS_next {i n : Nat} {l : List UInt8} {x : UInt8} {t : List UInt8} (h : l = x :: t) : numS i n l = if (i = 0 ∧ x.toNat = 128) ∨ i = 3 then .error 4 else if x.toNat < 128 then (if n * 128 + x.toNat % 128 < 31 then .error 4 else .ok (n * 128 + x.toNat % 128, i + 1)) else numS (i + 1) (n * 128 + x.toNat % 128) t := by
  rw [h]
  simp only [numS]
theorem drop_get {α : Type} {l : List α} {j : Nat} {x : α} (hx : l[j]? = some x) : l.drop j = x :: l.drop (j + 1) := by
  obtain ⟨h, rfl⟩ := List.getElem?_eq_some_iff.1 hx
  exact List.drop_eq_getElem_cons h

set_option maxRecDepth 20000 in
set_option maxHeartbeats 2000000 in
theorem r02ReadTag_any (v : Value) (l : List UInt8) (p : Nat) (w : World) (h : Bytes w v l) (hp : p ≤ l.length) (hlm : l.length ≤ 1099511627776) :
    Calls Tryz.prog 102 #[v, .int .i64 p] w fun e w' => e = .returned (rTagV p (readTagS (l.drop p))) ∧ Fr (fun _ => False) w w' := by
  obtain ⟨a, cap, rfl, -, -, hx⟩ := h.form
  obtain ⟨z, hz⟩ : ∃ z, z = w.heap.size := ⟨_, rfl⟩
  have BZ := Blk.new w 36 #[.int .i64 0, .int .i64 0, .bool false]
  have F0 : Fr (fun _ => False) w (w.alloc (.cells #[.int .i64 0, .int .i64 0, .bool false] 36)) := (Fr.refl w).alloc _
  rw [← hz] at BZ
  have hzw : ∀ k, k < w.heap.size → k = z → False := fun k hk e => by omega
  have HZ := Lib.hid hz
  have HX := Lib.hid hx
  have HF0 := Lib.hid F0
  have HZW := Lib.hid hzw
  clear h hx hz F0 hzw
  rcases Nat.lt_or_ge p l.length with hpl | hpl
  case inr =>
    obtain rfl : p = l.length := by omega
    have hn : readTagS (l.drop l.length) = .error 3 := by rw [List.drop_length]; rfl
    have HN := Lib.hid hn
    clear hn
    go_enter Tryz.func102, Tryz.ntmps102
    go_upto_region 1 with fail
    rw [← HZ.out]
    generalize (w.alloc (.cells #[.int .i64 0, .int .i64 0, .bool false] 36)) = w0 at *
    have SZ := BZ.cell
    have ZZ := BZ.frozen
    go_wp2_with fail
    obtain ⟨B5, F5⟩ := set3 BZ (.int .i64 0) (.int .i64 0) (.bool false)
    generalize (((w0.setCell ⟨z, 0, none⟩ (.int .i64 0)).setCell ⟨z, 1, none⟩ (.int .i64 0)).setCell ⟨z, 2, none⟩ (.bool false)) = w5 at *
    have n0 := B5.cell 0
    have n1 := B5.cell 1
    have n2 := B5.cell 2
    simp at n0 n1 n2
    refine bodyPost_ret (v := .tuple #[.agg #[.int .i64 0, .int .i64 0, .bool false], .int .i64 l.length, .int .i64 3]) (by simp [results, Tryz.results102, go_sem, n0, n1, n2]) rfl ?_
    exact ⟨by rw [HN.out]; rfl, HF0.out.trans' F5 HZW.out⟩

  case inl =>
    obtain ⟨b, o, rfl, hy⟩ := HX.out (by omega)
    obtain ⟨x, hxp⟩ : ∃ x, l[p]? = some x := ⟨_, List.getElem?_eq_getElem hpl⟩
    have ex := HF0.out.cell (hy p x hxp) (fun h => h)
    have hdp := drop_get hxp
    have hx256 := x.toNat_lt
    obtain ⟨y, hyy⟩ : ∃ y, y = x.toNat := ⟨_, rfl⟩
    rw [← hyy] at ex hx256
    have hT : readTagS (l.drop p) = if y % 32 < 31 then .ok (⟨y / 64, y % 32, decide (y / 32 % 2 = 1)⟩, 1) else
      match numS 0 0 (l.drop (p + 1)) with
      | .error e => .error e
      | .ok (n, k) => .ok (⟨y / 64, n, decide (y / 32 % 2 = 1)⟩, k + 1) := by rw [hdp, hyy]; rfl
    have HT := Lib.hid hT
    have HY := Lib.hid hy
    have HYY := Lib.hid hyy
    have r0 : (0 : Int) ≤ (p : Int) := by omega
    have r1 : (p : Int) < (l.length : Int) := by omega
    clear hy hyy hdp hT hxp
    go_enter Tryz.func102, Tryz.ntmps102
    go_upto_region 1 with fail
    rw [← HZ.out]
    generalize (w.alloc (.cells #[.int .i64 0, .int .i64 0, .bool false] 36)) = w0 at *
    go_upto_region 5 with fail
    obtain ⟨c1, hc1⟩ : ∃ c : Int, (y : Int) / 64 = c := ⟨_, rfl⟩
    obtain ⟨c2, hc2⟩ : ∃ c : Int, (y : Int) % 32 = c := ⟨_, rfl⟩
    obtain ⟨c3, hc3⟩ : ∃ c : Bool, ((y : Int) / 32 % 2 == 1) = c := ⟨_, rfl⟩
    have h3 : decide (y / 32 % 2 = 1) = c3 := by
      rw [← hc3, Bool.eq_iff_iff]
      simp
      omega
    rw [h3] at HT
    rw [hc1, hc2, hc3]
    rw [hc1] at HT
    rw [hc2] at HT
    obtain ⟨d, hd⟩ : ∃ d, d = w0.heap.size := ⟨_, rfl⟩
    have BD := Blk.new w0 36 #[.int .i64 c1, .int .i64 c2, .bool c3]
    have F1 : Fr (fun _ => False) w0 (w0.alloc (.cells #[.int .i64 c1, .int .i64 c2, .bool c3] 36)) := (Fr.refl w0).alloc _
    have hzl := BZ.lt
    replace BZ := BZ.fr F1 (fun h => h)
    have HF1 := Lib.hid (HF0.out.trans F1)
    rw [← hd] at BD ⊢
    have hdz : d ≠ z := by omega
    have hdw : ∀ k, k < w.heap.size → k = d → False := fun k hk e => by have := HF0.out.size; omega
    have HDW := Lib.hid hdw
    clear hd F1 hzl hdw h3 hc3 ex HF0
    generalize (w0.alloc (.cells #[.int .i64 c1, .int .i64 c2, .bool c3] 36)) = w1 at *
    have SD := BD.cell
    have SZ := BZ.cell
    have ZD := BD.frozen
    have ZZ := BZ.frozen
    by_cases h31 : y % 32 < 31
    · have q1 : c2 < 31 := by omega
      have hres : readTagS (l.drop p) = .ok (⟨c1, c2, c3⟩, 1) := by rw [HT.out, if_pos h31]
      have HR := Lib.hid hres
      clear hres
      go_wp2_with fail
      obtain ⟨B5, F5⟩ := set3 BZ (.int .i64 c1) (.int .i64 c2) (.bool c3)
      generalize (((w1.setCell ⟨z, 0, none⟩ (.int .i64 c1)).setCell ⟨z, 1, none⟩ (.int .i64 c2)).setCell ⟨z, 2, none⟩ (.bool c3)) = w5 at *
      have n0 := B5.cell 0
      have n1 := B5.cell 1
      have n2 := B5.cell 2
      simp at n0 n1 n2
      refine bodyPost_ret (v := .tuple #[.agg #[.int .i64 c1, .int .i64 c2, .bool c3], .int .i64 ((p : Int) + 1), .int .i64 0]) (by simp [results, Tryz.results102, go_sem, n0, n1, n2]) rfl ?_
      exact ⟨by rw [HR.out]; rfl, HF1.out.trans' F5 HZW.out⟩
    · have q1 : ¬ c2 < 31 := by omega
      have hres : readTagS (l.drop p) = match numS 0 0 (l.drop (p + 1)) with
          | .error e => .error e
          | .ok (n, k) => .ok (⟨c1, n, c3⟩, k + 1) := by rw [HT.out, if_neg h31]
      have HR := Lib.hid hres
      have HBZ := Lib.hid BZ
      have HBD := Lib.hid BD
      clear hres HT
      go_wp2_with fail
      clear SD SZ ZD ZZ BZ BD
      go_loopg [9, 10] 4 (fun g n i wr => ∃ (k m : Nat), g = 4 - k ∧ k ≤ 3 ∧ m < 128 ^ k ∧ n = .int .i64 m ∧ i = .int .i64 ((k : Int) + 1) ∧ numS 0 0 (l.drop (p + 1)) = numS k m (l.drop (p + 1 + k)) ∧ wr = w1)
      case atStart => exact ⟨0, 0, rfl, by omega, by simp, rfl, rfl, rfl, rfl⟩
      case round =>
        obtain ⟨k, m, hg, hk, hm, rfl, rfl, hN, rfl⟩ := hrel
        have HG := Lib.hid hg
        have HN := Lib.hid hN
        have HM := Lib.hid hm
        have BZ := HBZ.out
        have BD := HBD.out
        have SD := BD.cell
        have ZD := BD.frozen
        have SZ := BZ.cell
        have ZZ := BZ.frozen
        clear hg hN hm
        rcases Nat.lt_or_ge (p + 1 + k) l.length with hkl | hkl
        case inr =>
          have q2 : (l.length : Int) ≤ (p : Int) + ((k : Int) + 1) := by omega
          have hres : readTagS (l.drop p) = .error 3 := by
            have hdn : l.drop (p + 1 + k) = [] := List.drop_eq_nil_of_le hkl
            rw [HR.out, HN.out, hdn]
            rfl
          have HRES := Lib.hid hres
          clear hres
          go_wp2_with fail
          obtain ⟨B5, F5⟩ := set3 BZ (.int .i64 0) (.int .i64 0) (.bool false)
          generalize (((wr.setCell ⟨z, 0, none⟩ (.int .i64 0)).setCell ⟨z, 1, none⟩ (.int .i64 0)).setCell ⟨z, 2, none⟩ (.bool false)) = w5 at *
          have n0 := B5.cell 0
          have n1 := B5.cell 1
          have n2 := B5.cell 2
          simp at n0 n1 n2
          refine bodyPost_ret (v := .tuple #[.agg #[.int .i64 0, .int .i64 0, .bool false], .int .i64 p, .int .i64 3]) (by simp [results, Tryz.results102, go_sem, n0, n1, n2]) rfl ?_
          exact ⟨by rw [HRES.out]; rfl, HF1.out.trans' F5 HZW.out⟩
        case inl =>
          have q2 : ¬ (l.length : Int) ≤ (p : Int) + ((k : Int) + 1) := by omega
          obtain ⟨x2, hx2⟩ : ∃ x, l[p + 1 + k]? = some x := ⟨_, List.getElem?_eq_getElem hkl⟩
          have e2 := HF1.out.cell (HY.out (p + 1 + k) x2 hx2) (fun h => h)
          have hN2 := HN.out
          rw [numS_next (drop_get hx2)] at hN2
          obtain ⟨y2, hy2⟩ : ∃ y, y = x2.toNat := ⟨_, rfl⟩
          have hy256 : y2 < 256 := by rw [hy2]; exact x2.toNat_lt
          rw [← hy2] at e2 hN2
          rw [show o + (p + 1 + k) = o + (p + (k + 1)) from by omega] at e2
          have hin : ((p : Int) + ((k : Int) + 1)).toNat = p + (k + 1) := by omega
          have r2 : (0 : Int) ≤ (p : Int) + ((k : Int) + 1) := by omega
          have r3 : (p : Int) + ((k : Int) + 1) < (l.length : Int) := by omega
          have HN2 := Lib.hid hN2
          clear hN2 hx2 hy2 HN
          by_cases hb1 : (k = 0 ∧ y2 = 128) ∨ k = 3
          · have hres : readTagS (l.drop p) = .error 4 := by rw [HR.out, HN2.out, if_pos hb1]
            have HRES := Lib.hid hres
            clear hres HN2
            have hcond : ((((k : Int) + 1 == 1) = true ∧ ((y2 : Int) == 128) = true)) ∨ ((((k : Int) + 1 == 1) = false) ∧ ((k : Int) + 1 == 4) = true) := by
              rcases hb1 with ⟨h1, h2⟩ | h1
              · exact .inl ⟨by subst h1; rfl, by subst h2; rfl⟩
              · exact .inr ⟨by subst h1; rfl, by subst h1; rfl⟩
            rcases hcond with ⟨g1, g2⟩ | ⟨g1, g2⟩
            all_goals
              go_wp2_with fail
              obtain ⟨B5, F5⟩ := set3 BZ (.int .i64 0) (.int .i64 0) (.bool false)
              generalize (((wr.setCell ⟨z, 0, none⟩ (.int .i64 0)).setCell ⟨z, 1, none⟩ (.int .i64 0)).setCell ⟨z, 2, none⟩ (.bool false)) = w5 at *
              have n0 := B5.cell 0
              have n1 := B5.cell 1
              have n2 := B5.cell 2
              simp at n0 n1 n2
              refine bodyPost_ret (v := .tuple #[.agg #[.int .i64 0, .int .i64 0, .bool false], .int .i64 p, .int .i64 4]) (by simp [results, Tryz.results102, go_sem, n0, n1, n2]) rfl ?_
              exact ⟨by rw [HRES.out]; rfl, HF1.out.trans' F5 HZW.out⟩
          · have hk2 : k ≤ 2 := by omega
            have hm2 := num_small HM.out hk2
            have g4 : ((k : Int) + 1 == 4) = false := beq_eq_false_iff_ne.2 (by omega)
            have hcond : ((((k : Int) + 1 == 1) = true ∧ ((y2 : Int) == 128) = false)) ∨ (((k : Int) + 1 == 1) = false) := by
              rcases Nat.eq_zero_or_pos k with h1 | h1
              · exact .inl ⟨by subst h1; rfl, beq_eq_false_iff_ne.2 (by omega)⟩
              · exact .inr (beq_eq_false_iff_ne.2 (by omega))
            have HL := Lib.hid (num_lt HM.out (show y2 % 128 < 128 by omega))
            obtain ⟨m2, hm3⟩ : ∃ m2, m2 = m * 128 + y2 % 128 := ⟨_, rfl⟩
            have hmi : 128 * (m : Int) + (y2 : Int) % 128 = (m2 : Int) := by omega
            rw [← hm3] at HN2 HL
            have hml : m2 < 2097152 := by omega
            clear hm3
            by_cases h128 : y2 < 128
            · have q3 : (y2 : Int) < 128 := by omega
              by_cases hs : m2 < 31
              · have q4 : (m2 : Int) < 31 := by omega
                have hres : readTagS (l.drop p) = .error 4 := by rw [HR.out, HN2.out, if_neg hb1, if_pos h128, if_pos hs]
                have HRES := Lib.hid hres
                clear hres HN2
                rcases hcond with ⟨g1, g2⟩ | g1
                all_goals
                  go_wp2_with fail
                  obtain ⟨B5, F5⟩ := set3 BZ (.int .i64 0) (.int .i64 0) (.bool false)
                  generalize (((wr.setCell ⟨z, 0, none⟩ (.int .i64 0)).setCell ⟨z, 1, none⟩ (.int .i64 0)).setCell ⟨z, 2, none⟩ (.bool false)) = w5 at *
                  have n0 := B5.cell 0
                  have n1 := B5.cell 1
                  have n2 := B5.cell 2
                  simp at n0 n1 n2
                  refine bodyPost_ret (v := .tuple #[.agg #[.int .i64 0, .int .i64 0, .bool false], .int .i64 p, .int .i64 4]) (by simp [results, Tryz.results102, go_sem, n0, n1, n2]) rfl ?_
                  exact ⟨by rw [HRES.out]; rfl, HF1.out.trans' F5 HZW.out⟩
              · have q4 : ¬ (m2 : Int) < 31 := by omega
                have hres : readTagS (l.drop p) = .ok (⟨c1, m2, c3⟩, k + 1 + 1) := by rw [HR.out, HN2.out, if_neg hb1, if_pos h128, if_neg hs]
                have HRES := Lib.hid hres
                have BD3 := BD.set 1 (.int .i64 m2)
                simp at BD3
                have F3 : Fr (fun q => q = d) wr (wr.setCell ⟨d, 1, none⟩ (.int .i64 m2)) := Fr.setCell (S := fun q => q = d) (p := ⟨d, 1, none⟩) (Fr.refl wr) (fun _ => rfl) _
                have BZ3 := BZ.fr F3 (fun e => hdz e.symm)
                have HF3 := Lib.hid (HF1.out.trans' F3 HDW.out)
                clear hres HN2 F3
                rcases hcond with ⟨g1, g2⟩ | g1
                all_goals
                  go_upto_region 20 with fail
                  generalize (wr.setCell ⟨d, 1, none⟩ (.int .i64 m2)) = w3 at *
                  clear SD ZD SZ ZZ
                  have SD := BD3.cell
                  have SZ := BZ3.cell
                  have ZZ := BZ3.frozen
                  go_wp2_with fail
                  obtain ⟨B5, F5⟩ := set3 BZ3 (.int .i64 c1) (.int .i64 m2) (.bool c3)
                  generalize (((w3.setCell ⟨z, 0, none⟩ (.int .i64 c1)).setCell ⟨z, 1, none⟩ (.int .i64 m2)).setCell ⟨z, 2, none⟩ (.bool c3)) = w5 at *
                  have n0 := B5.cell 0
                  have n1 := B5.cell 1
                  have n2 := B5.cell 2
                  simp at n0 n1 n2
                  refine bodyPost_ret (v := .tuple #[.agg #[.int .i64 c1, .int .i64 m2, .bool c3], .int .i64 ((p : Int) + ((k : Int) + 1) + 1), .int .i64 0]) (by simp [results, Tryz.results102, go_sem, n0, n1, n2]) rfl ?_
                  exact ⟨by rw [HRES.out]; simp only [rTagV, tagV]; rw [show ((p + (k + 1 + 1) : Nat) : Int) = (p : Int) + ((k : Int) + 1) + 1 from by omega], HF3.out.trans' F5 HZW.out⟩
            · have q3 : ¬ (y2 : Int) < 128 := by omega
              have hnx : numS 0 0 (l.drop (p + 1)) = numS (k + 1) m2 (l.drop (p + 1 + (k + 1))) := by rw [HN2.out, if_neg hb1, if_neg h128]; rfl
              have HNX := Lib.hid hnx
              clear hnx HN2
              rcases hcond with ⟨g1, g2⟩ | g1
              all_goals
                go_wp2_with fail
                go_roundg (4 - (k + 1))
                case measure => rw [HG.out]; omega
                case rel => exact ⟨k + 1, m2, rfl, by omega, HL.out, rfl, by go_num, HNX.out, rfl⟩
end Go.Proofs.YtgffhiopbnkjbaaGreatDoor

namespace Go.Proofs.YtgffhiopbnkjbaaGreatDoor
open Go Go.RowKit Go.Q

/-- What ReadLength gives. -/
def rLenV (p : Nat) : Except Int (Nat × Nat) → Value
  | .error e => .tuple #[.int .i64 0, .int .i64 p, .int .i64 e]
  | .ok (v, k) => .tuple #[.int .i64 v, .int .i64 ((p + k : Nat) : Int), .int .i64 0]

set_option maxRecDepth 20000 in
set_option maxHeartbeats 2000000 in
theorem r02ReadLength_any (v : Value) (l : List UInt8) (p : Nat) (w : World) (h : Bytes w v l) (hp : p ≤ l.length) (hlm : l.length ≤ 1099511627776) :
    Calls Tryz.prog 103 #[v, .int .i64 p] w fun e w' => e = .returned (rLenV p (readLenS (l.drop p))) ∧ w = w' := by
  obtain ⟨a, cap, rfl, -, -, hx⟩ := h.form
  have HX := Lib.hid hx
  clear h hx
  rcases Nat.lt_or_ge p l.length with hpl | hpl
  case inr =>
    obtain rfl : p = l.length := by omega
    have hn : readLenS (l.drop l.length) = .error 3 := by rw [List.drop_length]; rfl
    have HN := Lib.hid hn
    clear hn
    go_enter Tryz.func103, Tryz.ntmps103
    go_wp2_with fail
    exact bodyPost_ret (v := .tuple #[.int .i64 0, .int .i64 l.length, .int .i64 3]) (by simp [results, Tryz.results103, go_sem]) rfl ⟨by rw [HN.out]; rfl, rfl⟩
  case inl =>
    obtain ⟨b, o, rfl, hy⟩ := HX.out (by omega)
    obtain ⟨x, hxp⟩ : ∃ x, l[p]? = some x := ⟨_, List.getElem?_eq_getElem hpl⟩
    have ex := hy p x hxp
    have hdp := drop_get hxp
    obtain ⟨y, hyy⟩ : ∃ y, y = x.toNat := ⟨_, rfl⟩
    have hx256 : y < 256 := by rw [hyy]; exact x.toNat_lt
    rw [← hyy] at ex
    have hT : readLenS (l.drop p) = if y < 128 then .ok (y, 1) else if y = 128 ∨ 132 < y then .error 5 else longS (y - 128) (l.drop (p + 1)) := by rw [hdp, hyy]; rfl
    have HT := Lib.hid hT
    have HY := Lib.hid hy
    have r0 : (0 : Int) ≤ (p : Int) := by omega
    have r1 : (p : Int) < (l.length : Int) := by omega
    clear hy hyy hdp hT hxp HX
    by_cases h1 : y < 128
    · have q1 : (y : Int) < 128 := by omega
      have hres : readLenS (l.drop p) = .ok (y, 1) := by rw [HT.out, if_pos h1]
      have HR := Lib.hid hres
      clear hres
      go_enter Tryz.func103, Tryz.ntmps103
      go_wp2_with fail
      exact bodyPost_ret (v := .tuple #[.int .i64 y, .int .i64 ((p : Int) + 1), .int .i64 0]) (by simp [results, Tryz.results103, go_sem]) rfl ⟨by rw [HR.out]; rfl, rfl⟩
    have q1 : ¬ (y : Int) < 128 := by omega
    by_cases h2 : y = 128 ∨ 132 < y
    · have hres : readLenS (l.drop p) = .error 5 := by rw [HT.out, if_neg h1, if_pos h2]
      have HR := Lib.hid hres
      have hc : ((y : Int) == 128) = true ∨ (((y : Int) == 128) = false ∧ (132 : Int) < (y : Int)) := by
        rcases Classical.em (y = 128) with h | h
        · exact .inl (by subst h; rfl)
        · exact .inr ⟨beq_eq_false_iff_ne.2 (by omega), by omega⟩
      clear hres
      rcases hc with g1 | ⟨g1, g2⟩
      all_goals
        go_enter Tryz.func103, Tryz.ntmps103
        go_wp2_with fail
        exact bodyPost_ret (v := .tuple #[.int .i64 0, .int .i64 p, .int .i64 5]) (by simp [results, Tryz.results103, go_sem]) rfl ⟨by rw [HR.out]; rfl, rfl⟩
    have g1 : ((y : Int) == 128) = false := beq_eq_false_iff_ne.2 (by omega)
    have g2 : ¬ (132 : Int) < (y : Int) := by omega
    obtain ⟨n, hn⟩ : ∃ n, n = y - 128 := ⟨_, rfl⟩
    have hn1 : 1 ≤ n := by omega
    have hn4 : n ≤ 4 := by omega
    have hyn : (y : Int) - 128 = (n : Int) := by omega
    have hres : readLenS (l.drop p) = longS n (l.drop (p + 1)) := by rw [HT.out, if_neg h1, if_neg h2, ← hn]
    have HR := Lib.hid hres
    clear hres hn HT
    have hdl : (l.drop (p + 1)).length = l.length - (p + 1) := List.length_drop
    by_cases h3 : l.length - (p + 1) < n
    · have q3 : (l.length : Int) - (p : Int) - 1 < (n : Int) := by omega
      have hres : readLenS (l.drop p) = .error 3 := by rw [HR.out]; unfold longS; rw [hdl, if_pos h3]
      have HRES := Lib.hid hres
      clear hres hdl
      go_enter Tryz.func103, Tryz.ntmps103
      go_wp2_with fail
      exact bodyPost_ret (v := .tuple #[.int .i64 0, .int .i64 p, .int .i64 3]) (by simp [results, Tryz.results103, go_sem]) rfl ⟨by rw [HRES.out]; rfl, rfl⟩
    have q3 : ¬ (l.length : Int) - (p : Int) - 1 < (n : Int) := by omega
    obtain ⟨x1, hx1⟩ : ∃ x, l[p + 1]? = some x := ⟨_, List.getElem?_eq_getElem (by omega)⟩
    have ex1 := HY.out (p + 1) x1 hx1
    obtain ⟨V, hV⟩ : ∃ V, V = beS ((l.drop (p + 1)).take n) := ⟨_, rfl⟩
    have hVl : V < 4294967296 := by rw [hV]; exact be_lt _ (by rw [List.length_take]; omega)
    have hL : longS n (l.drop (p + 1)) = if x1.toNat = 0 ∨ V < 128 then .error 5 else if 16777216 < V then .error 2 else .ok (V, n + 1) := by
      unfold longS
      rw [hdl, if_neg h3, ← hV, drop_get hx1]
      simp
    rw [hL] at HR
    have HV := Lib.hid hV
    obtain ⟨y1, hy1⟩ : ∃ y1, y1 = x1.toNat := ⟨_, rfl⟩
    rw [← hy1] at HR ex1
    have r2 : (p : Int) + 1 < (l.length : Int) := by omega
    have HEX := Lib.hid ex1
    clear hL hdl hx1 hV hy1 ex1
    go_enter Tryz.func103, Tryz.ntmps103
    go_wp2_with fail
    go_loopg [9, 10] n (fun g k i wr => ∃ j : Nat, g = n - j ∧ j ≤ n ∧ k = .int .i64 (beS ((l.drop (p + 1)).take j)) ∧ i = .int .i64 ((j : Int) + 1) ∧ wr = w)
    case atStart => exact ⟨0, rfl, Nat.zero_le _, rfl, rfl, rfl⟩
    case round =>
      obtain ⟨j, hg, hj, rfl, rfl, rfl⟩ := hrel
      have HG := Lib.hid hg
      clear hg
      by_cases hjn : j < n
      · have q4 : (j : Int) + 1 ≤ (n : Int) := by omega
        obtain ⟨x2, hx2⟩ : ∃ x, l[p + 1 + j]? = some x := ⟨_, List.getElem?_eq_getElem (by omega)⟩
        have e2 := HY.out (p + 1 + j) x2 hx2
        have hx3 : (l.drop (p + 1))[j]? = some x2 := by rw [List.getElem?_drop]; exact hx2
        have hbe := be_take hx3
        obtain ⟨K, hK⟩ : ∃ K, K = beS ((l.drop (p + 1)).take j) := ⟨_, rfl⟩
        have hKl : K < 4294967296 := by rw [hK]; exact be_lt _ (by rw [List.length_take]; omega)
        rw [← hK] at hbe ⊢
        have HBE := Lib.hid hbe
        have h256 := x2.toNat_lt
        generalize x2.toNat = y2 at *
        rw [show o + (p + 1 + j) = o + (p + (j + 1)) from by omega] at e2
        have hin : ((p : Int) + ((j : Int) + 1)).toNat = p + (j + 1) := by omega
        have r2 : (0 : Int) ≤ (p : Int) + ((j : Int) + 1) := by omega
        have r3 : (p : Int) + ((j : Int) + 1) < (l.length : Int) := by omega
        have hy2 : y2 < 256 := by omega
        clear hbe hK hx2 hx3 h256
        go_wp2_with fail
        go_roundg (n - (j + 1))
        case measure => rw [HG.out]; omega
        case rel => exact ⟨j + 1, rfl, by omega, by rw [HBE.out]; go_num, by go_num, rfl⟩
      · obtain rfl : j = n := by omega
        have q4 : ¬ (j : Int) + 1 ≤ (j : Int) := by omega
        rw [← HV.out]
        have e1 := HEX.out
        have hin : ((p : Int) + 1).toNat = p + 1 := by omega
        have r3 : (0 : Int) ≤ (p : Int) + 1 := by omega
        by_cases h4 : y1 = 0 ∨ V < 128
        · have hres : readLenS (l.drop p) = .error 5 := by rw [HR.out, if_pos h4]
          have HRES := Lib.hid hres
          have hc : ((y1 : Int) == 0) = true ∨ (((y1 : Int) == 0) = false ∧ (V : Int) < 128) := by
            rcases Classical.em (y1 = 0) with h | h
            · exact .inl (by subst h; rfl)
            · exact .inr ⟨beq_eq_false_iff_ne.2 (by omega), by omega⟩
          clear hres
          rcases hc with g3 | ⟨g3, g4⟩
          all_goals
            go_wp2_with fail
            exact bodyPost_ret (v := .tuple #[.int .i64 0, .int .i64 p, .int .i64 5]) (by simp [results, Tryz.results103, go_sem]) rfl ⟨by rw [HRES.out]; rfl, rfl⟩
        · have g3 : ((y1 : Int) == 0) = false := beq_eq_false_iff_ne.2 (by omega)
          have g4 : ¬ (V : Int) < 128 := by omega
          by_cases h5 : 16777216 < V
          · have g5 : (16777216 : Int) < (V : Int) := by omega
            have hres : readLenS (l.drop p) = .error 2 := by rw [HR.out, if_neg h4, if_pos h5]
            have HRES := Lib.hid hres
            clear hres
            go_wp2_with fail
            exact bodyPost_ret (v := .tuple #[.int .i64 0, .int .i64 p, .int .i64 2]) (by simp [results, Tryz.results103, go_sem]) rfl ⟨by rw [HRES.out]; rfl, rfl⟩
          · have g5 : ¬ (16777216 : Int) < (V : Int) := by omega
            have hres : readLenS (l.drop p) = .ok (V, j + 1) := by rw [HR.out, if_neg h4, if_neg h5]
            have HRES := Lib.hid hres
            clear hres
            go_wp2_with fail
            exact bodyPost_ret (v := .tuple #[.int .i64 V, .int .i64 ((p : Int) + (j : Int) + 1), .int .i64 0]) (by simp [results, Tryz.results103, go_sem]) rfl ⟨by rw [HRES.out]; simp only [rLenV]; rw [show ((p + (j + 1) : Nat) : Int) = (p : Int) + (j : Int) + 1 from by omega], rfl⟩
end Go.Proofs.YtgffhiopbnkjbaaGreatDoor

namespace Go.Proofs.YtgffhiopbnkjbaaGreatDoor
open Go Go.RowKit Go.Q
set_option linter.unusedSimpArgs false

/-- What Read gives. -/
def rReadV (p : Nat) : Except Int (Tag × Nat × Nat) → Value
  | .error e => .tuple #[tagV ⟨0, 0, false⟩, .int .i64 0, .int .i64 p, .int .i64 e]
  | .ok (t, n, k) => .tuple #[tagV t, .int .i64 n, .int .i64 ((p + k : Nat) : Int), .int .i64 0]
theorem readTag_le {l : List UInt8} {t : Tag} {k : Nat} (h : readTagS l = .ok (t, k)) : k ≤ l.length := by
  cases l with
  | nil => simp [readTagS] at h
  | cons x r =>
    simp only [readTagS] at h
    split at h
    · simp only [Except.ok.injEq, Prod.mk.injEq] at h
      simp only [List.length_cons]
      omega
    · split at h
      · cases h
      · rename_i n k' he
        have := (numS_pos he).2
        simp only [Except.ok.injEq, Prod.mk.injEq] at h
        simp only [List.length_cons]
        omega

set_option maxRecDepth 20000 in
set_option maxHeartbeats 2000000 in
theorem r02Read_any (v : Value) (l : List UInt8) (p : Nat) (w : World) (h : Bytes w v l) (hp : p ≤ l.length) (hlm : l.length ≤ 1099511627776) :
    Calls Tryz.prog 68 #[v, .int .i64 p] w fun e w' => e = .returned (rReadV p (readS (l.drop p))) ∧ Fr (fun _ => False) w w' := by
  obtain ⟨a, cap, rfl, -⟩ := h.form
  obtain ⟨z, hz⟩ : ∃ z, z = w.heap.size := ⟨_, rfl⟩
  have BZ := Blk.new w 36 #[.int .i64 0, .int .i64 0, .bool false]
  have F0 : Fr (fun _ => False) w (w.alloc (.cells #[.int .i64 0, .int .i64 0, .bool false] 36)) := (Fr.refl w).alloc _
  rw [← hz] at BZ
  have hzw : ∀ k, k < w.heap.size → k = z → False := fun k hk e => by omega
  have HZ := Lib.hid hz
  have HT := Lib.hid (r02ReadTag_any _ l p _ (h.old F0) hp hlm)
  have HB := Lib.hid h
  have HF0 := Lib.hid F0
  have HZW := Lib.hid hzw
  have hR : readS (l.drop p) = match readTagS (l.drop p) with
    | .error e => .error e
    | .ok (t, k) => match readLenS ((l.drop p).drop k) with
      | .error e => .error e
      | .ok (n, m) => .ok (t, n, k + m) := rfl
  have HR := Lib.hid hR
  clear h hz F0 hzw hR
  go_enter Tryz.func68, Tryz.ntmps68
  go_upto_region 1 with fail
  rw [← HZ.out]
  generalize (w.alloc (.cells #[.int .i64 0, .int .i64 0, .bool false] 36)) = w0 at *
  go_wp2_with fail
  refine HT.out.mono ?_
  rintro e w1 ⟨rfl, F⟩
  replace BZ := BZ.fr F (fun h => h)
  have HF := Lib.hid (HF0.out.trans F)
  clear F HF0 HT
  cases ht : readTagS (l.drop p) with
  | error e =>
    have he : e ≠ 0 := readTagS_err ht
    have he1 : (e == 0) = false := beq_eq_false_iff_ne.2 he
    have he2 : (e != 0) = true := by simpa using he
    have hres : readS (l.drop p) = .error e := by rw [HR.out, ht]
    have HRES := Lib.hid hres
    clear ht hres he
    rw [show rTagV p (.error e) = .tuple #[.agg #[.int .i64 0, .int .i64 0, .bool false], .int .i64 p, .int .i64 e] from rfl]
    go_upto_region 2 with fail
    obtain ⟨d, hd⟩ : ∃ d, d = w1.heap.size := ⟨_, rfl⟩
    have BD := Blk.new w1 36 #[.int .i64 0, .int .i64 0, .bool false]
    have F1 : Fr (fun _ => False) w1 (w1.alloc (.cells #[.int .i64 0, .int .i64 0, .bool false] 36)) := (Fr.refl w1).alloc _
    have hzl := BZ.lt
    replace BZ := BZ.fr F1 (fun h => h)
    have HF1 := Lib.hid (HF.out.trans F1)
    rw [← hd] at BD ⊢
    have hdz : d ≠ z := by omega
    clear hd F1 hzl HF
    generalize (w1.alloc (.cells #[.int .i64 0, .int .i64 0, .bool false] 36)) = w2 at *
    have SZ := BZ.cell
    have ZZ := BZ.frozen
    go_wp2_with fail
    obtain ⟨B5, F5⟩ := set3 BZ (.int .i64 0) (.int .i64 0) (.bool false)
    generalize (((w2.setCell ⟨z, 0, none⟩ (.int .i64 0)).setCell ⟨z, 1, none⟩ (.int .i64 0)).setCell ⟨z, 2, none⟩ (.bool false)) = w5 at *
    have n0 := B5.cell 0
    have n1 := B5.cell 1
    have n2 := B5.cell 2
    simp at n0 n1 n2
    refine bodyPost_ret (v := .tuple #[.agg #[.int .i64 0, .int .i64 0, .bool false], .int .i64 0, .int .i64 p, .int .i64 e]) (by simp [results, Tryz.results68, go_sem, n0, n1, n2]) rfl ?_
    exact ⟨by rw [HRES.out]; rfl, HF1.out.trans' F5 HZW.out⟩
  | ok tk =>
    obtain ⟨⟨c1, c2, c3⟩, k⟩ := tk
    have hk := readTag_le ht
    rw [List.length_drop] at hk
    have hres : readS (l.drop p) = match readLenS (l.drop (p + k)) with
      | .error e => .error e
      | .ok (n, m) => .ok (⟨c1, c2, c3⟩, n, k + m) := by rw [HR.out, ht]; simp only [List.drop_drop]
    have HRES := Lib.hid hres
    clear ht hres
    rw [show rTagV p (.ok (⟨c1, c2, c3⟩, k)) = .tuple #[.agg #[.int .i64 c1, .int .i64 c2, .bool c3], .int .i64 ((p + k : Nat) : Int), .int .i64 0] from rfl]
    generalize hq : p + k = q at *
    go_upto_region 2 with fail
    obtain ⟨d, hd⟩ : ∃ d, d = w1.heap.size := ⟨_, rfl⟩
    have BD := Blk.new w1 36 #[.int .i64 c1, .int .i64 c2, .bool c3]
    have F1 : Fr (fun _ => False) w1 (w1.alloc (.cells #[.int .i64 c1, .int .i64 c2, .bool c3] 36)) := (Fr.refl w1).alloc _
    have hzl := BZ.lt
    replace BZ := BZ.fr F1 (fun h => h)
    have HF1 := Lib.hid (HF.out.trans F1)
    rw [← hd] at BD ⊢
    have hdz : d ≠ z := by omega
    clear hd F1 hzl HF
    generalize (w1.alloc (.cells #[.int .i64 c1, .int .i64 c2, .bool c3] 36)) = w2 at *
    have HL := Lib.hid (r02ReadLength_any _ l q w2 (HB.out.old HF1.out) (by omega) hlm)
    have SZ := BZ.cell
    have ZZ := BZ.frozen
    have SD := BD.cell
    go_wp2_with fail
    refine HL.out.mono ?_
    rintro e w3 ⟨rfl, rfl⟩
    cases hl : readLenS (l.drop q) with
    | error e =>
      have he : e ≠ 0 := readLenS_err hl
      have he1 : (e == 0) = false := beq_eq_false_iff_ne.2 he
      have he2 : (e != 0) = true := by simpa using he
      have hres : readS (l.drop p) = .error e := by rw [HRES.out, hl]
      have HRES2 := Lib.hid hres
      clear hl hres he
      rw [show rLenV q (.error e) = .tuple #[.int .i64 0, .int .i64 q, .int .i64 e] from rfl]
      go_wp2_with fail
      obtain ⟨B5, F5⟩ := set3 BZ (.int .i64 0) (.int .i64 0) (.bool false)
      generalize (((w2.setCell ⟨z, 0, none⟩ (.int .i64 0)).setCell ⟨z, 1, none⟩ (.int .i64 0)).setCell ⟨z, 2, none⟩ (.bool false)) = w5 at *
      have n0 := B5.cell 0
      have n1 := B5.cell 1
      have n2 := B5.cell 2
      simp at n0 n1 n2
      refine bodyPost_ret (v := .tuple #[.agg #[.int .i64 0, .int .i64 0, .bool false], .int .i64 0, .int .i64 p, .int .i64 e]) (by simp [results, Tryz.results68, go_sem, n0, n1, n2]) rfl ?_
      exact ⟨by rw [HRES2.out]; rfl, HF1.out.trans' F5 HZW.out⟩
    | ok vm =>
      obtain ⟨n, m⟩ := vm
      have hres : readS (l.drop p) = .ok (⟨c1, c2, c3⟩, n, k + m) := by rw [HRES.out, hl]
      have HRES2 := Lib.hid hres
      clear hl hres
      rw [show rLenV q (.ok (n, m)) = .tuple #[.int .i64 n, .int .i64 ((q + m : Nat) : Int), .int .i64 0] from rfl]
      generalize hr : q + m = r at *
      go_wp2_with fail
      obtain ⟨B5, F5⟩ := set3 BZ (.int .i64 c1) (.int .i64 c2) (.bool c3)
      generalize (((w2.setCell ⟨z, 0, none⟩ (.int .i64 c1)).setCell ⟨z, 1, none⟩ (.int .i64 c2)).setCell ⟨z, 2, none⟩ (.bool c3)) = w5 at *
      have n0 := B5.cell 0
      have n1 := B5.cell 1
      have n2 := B5.cell 2
      simp at n0 n1 n2
      refine bodyPost_ret (v := .tuple #[.agg #[.int .i64 c1, .int .i64 c2, .bool c3], .int .i64 n, .int .i64 r, .int .i64 0]) (by simp [results, Tryz.results68, go_sem, n0, n1, n2]) rfl ?_
      exact ⟨by rw [HRES2.out]; simp only [rReadV, tagV]; rw [show p + (k + m) = r from by omega], HF1.out.trans' F5 HZW.out⟩

end Go.Proofs.YtgffhiopbnkjbaaGreatDoor

namespace Go.Q
open Go
theorem readLen_le {l : List UInt8} {v k : Nat} (h : readLenS l = .ok (v, k)) : k ≤ l.length ∧ v ≤ 16777216 := by
  cases l with
  | nil => simp [readLenS] at h
  | cons x t =>
    simp only [readLenS] at h
    split at h
    · simp only [Except.ok.injEq, Prod.mk.injEq] at h
      simp only [List.length_cons]
      omega
    · split at h
      · cases h
      · unfold longS at h
        split at h
        · cases h
        split at h
        · cases h
        split at h
        · cases h
        · simp only [Except.ok.injEq, Prod.mk.injEq] at h
          simp only [List.length_cons]
          omega
theorem readS_le {l : List UInt8} {t : Tag} {n k : Nat} (h : readS l = .ok (t, n, k)) : k ≤ l.length ∧ n ≤ 16777216 := by
  unfold readS at h
  split at h
  · cases h
  · rename_i t' k' he
    have h1 := Go.Proofs.YtgffhiopbnkjbaaGreatDoor.readTag_le he
    split at h
    · cases h
    · rename_i v m hl
      have h2 := readLen_le hl
      rw [List.length_drop] at h2
      simp only [Except.ok.injEq, Prod.mk.injEq] at h
      omega
end Go.Q

namespace Go.Q
open Go Go.RowKit
theorem Vals.piece {w : World} {a : Option Addr} {m cap : Nat} {l : List UInt8} (h : Bytes w (.slice a m cap) l) (i n : Nat) (hij : i + n ≤ l.length) (a' : Option Addr) (cap' : Nat) (ha : 0 < n → ∀ b o, a = some ⟨b, o, none⟩ → a' = some ⟨b, o + i, none⟩) (hc : n ≤ cap') (hm : cap' ≤ maxLen) : Bytes w (.slice a' n cap') ((l.drop i).take n) := by
  obtain ⟨a0, c0, he, -⟩ := Vals.form h
  simp only [Value.slice.injEq] at he
  obtain ⟨rfl, rfl, rfl⟩ := he
  have := Vals.sub h i (i + n) (by omega) hij a' cap' (fun h0 => ha (by omega)) (by omega) hm
  rw [show i + n - i = n from by omega] at this
  unfold Bytes Lib.byteCells
  rw [List.map_take, List.map_drop]
  exact this
end Go.Q
namespace Go.Proofs.YtgffhiopbnkjbaaGreatDoor
open Go Go.RowKit Go.Q
set_option linter.unusedSimpArgs false
/-- b[i:j]. -/
theorem slice_mid (a : Option Addr) (m cap : Nat) (i j : Nat) (hij : i ≤ j) (hj : j ≤ cap) :
    ∃ A, (∀ w, (Instr.slice 23 (.slice a m cap) (some (.int .i64 (i : Int))) (some (.int .i64 (j : Int))) none).run Tryz.prog w = .ok (.slice A (j - i) (cap - i)) w) ∧ (i < j → ∀ b o, a = some ⟨b, o, none⟩ → A = some ⟨b, o + i, none⟩) := by
  have h1 : (0 : Int) ≤ (i : Int) := by omega
  have h2 : (i : Int) ≤ (j : Int) := by omega
  have h3 : (j : Int) ≤ (cap : Int) := by omega
  by_cases hc : cap - i = 0
  · refine ⟨a, fun w => ?_, fun h => by omega⟩
    simp [go_sem, h1, h2, h3, hc, Tryz.underlying23]
    intro h; omega
  · refine ⟨a.map fun x => x.add i, fun w => ?_, fun h b o e => by rw [e]; unfold Addr.add; simp⟩
    simp [go_sem, h1, h2, h3, hc, Tryz.underlying23]
    intro h; omega
/-- b[i:]. -/
theorem slice_rest (a : Option Addr) (m cap : Nat) (hm : m ≤ cap) (i : Nat) (hi : i ≤ m) :
    ∃ A, (∀ w, (Instr.slice 23 (.slice a m cap) (some (.int .i64 (i : Int))) none none).run Tryz.prog w = .ok (.slice A (m - i) (cap - i)) w) ∧ (i < m → ∀ b o, a = some ⟨b, o, none⟩ → A = some ⟨b, o + i, none⟩) := by
  have h1 : (0 : Int) ≤ (i : Int) := by omega
  have h2 : (i : Int) ≤ (m : Int) := by omega
  have h3 : (m : Int) ≤ (cap : Int) := by omega
  by_cases hc : cap - i = 0
  · refine ⟨a, fun w => ?_, fun h => by omega⟩
    simp [go_sem, h1, h2, h3, hc, Tryz.underlying23]
    intro h; omega
  · refine ⟨a.map fun x => x.add i, fun w => ?_, fun h b o e => by rw [e]; unfold Addr.add; simp⟩
    simp [go_sem, h1, h2, h3, hc, Tryz.underlying23]
    intro h; omega
/-- What b[i:i+n] reads as. -/
theorem bytes_mid {w : World} {a : Option Addr} {m cap : Nat} {l : List UInt8} (h : Bytes w (.slice a m cap) l) (i n : Nat) (hn : i + n ≤ l.length) :
    ∃ A, (∀ w, (Instr.slice 23 (.slice a m cap) (some (.int .i64 (i : Int))) (some (.int .i64 ((i + n : Nat) : Int))) none).run Tryz.prog w = .ok (.slice A n (cap - i)) w) ∧ ∀ W, Bytes W (.slice a m cap) l → Bytes W (.slice A n (cap - i)) ((l.drop i).take n) := by
  obtain ⟨a0, c0, he, hc, hm, -⟩ := Vals.form h
  simp only [Value.slice.injEq] at he
  obtain ⟨rfl, rfl, rfl⟩ := he
  obtain ⟨A, h1, h2⟩ := slice_mid a l.length cap i (i + n) (by omega) (by omega)
  rw [Nat.add_sub_cancel_left] at h1
  exact ⟨A, h1, fun W hW => hW.piece i n hn A (cap - i) (fun h0 => h2 (by omega)) (by omega) (by omega)⟩
theorem bytes_rest {w : World} {a : Option Addr} {m cap : Nat} {l : List UInt8} (h : Bytes w (.slice a m cap) l) (i : Nat) (hi : i ≤ l.length) :
    ∃ A, (∀ w, (Instr.slice 23 (.slice a m cap) (some (.int .i64 (i : Int))) none none).run Tryz.prog w = .ok (.slice A (l.length - i) (cap - i)) w) ∧ ∀ W, Bytes W (.slice a m cap) l → Bytes W (.slice A (l.length - i) (cap - i)) (l.drop i) := by
  obtain ⟨a0, c0, he, hc, hm, -⟩ := Vals.form h
  simp only [Value.slice.injEq] at he
  obtain ⟨rfl, rfl, rfl⟩ := he
  obtain ⟨A, h1, h2⟩ := slice_rest a l.length cap hc i hi
  refine ⟨A, h1, fun W hW => ?_⟩
  have := hW.piece i (l.length - i) (by omega) A (cap - i) (fun h0 => h2 (by omega)) (by omega) (by omega)
  rwa [List.take_of_length_le (by rw [List.length_drop]; exact Nat.le_refl _)] at this
end Go.Proofs.YtgffhiopbnkjbaaGreatDoor

namespace Go.Proofs.YtgffhiopbnkjbaaGreatDoor
open Go Go.RowKit Go.Q
set_option linter.unusedSimpArgs false

/-- A cursor of a call's own: whatever of the old changes, it stands. -/
def NewCur (w w' : World) (g : Nat) (l : List UInt8) : Prop := w.heap.size ≤ g ∧ CurAt w' g (fun k => k < w.heap.size) l 0

set_option maxRecDepth 20000 in
theorem sub_ok {w : World} {c : Nat} {K : Nat → Prop} {bs : List UInt8} {i : Nat} (h : CurAt w c K bs i) (n : Nat) (hn : n ≤ bs.length - i) :
    Calls Tryz.prog 141 #[pt c, .int .i64 n] w fun e w' => ∃ g, e = .returned (.tuple #[pt g, .int .i64 0]) ∧ NewCur w w' g ((bs.drop i).take n) ∧ CurAt w' c K bs (i + n) ∧ Fr (fun k => k = c) w w' := by
  have hsm := h.small
  have hle := h.le
  have hcl := h.lt
  obtain ⟨l, hl⟩ : ∃ l, l = (bs.drop i).take n := ⟨_, rfl⟩
  have hll : l.length = n := by rw [hl, List.length_take, List.length_drop]; omega
  have HT := Lib.hid (take_ok h n hn)
  rw [← hl] at HT ⊢
  have HLL := Lib.hid hll
  clear hl hll h
  go_enter Tryz.func141, Tryz.ntmps141
  go_wp2_with fail
  refine HT.out.mono ?_
  rintro e w1 ⟨v, rfl, ho, C1, F1⟩
  have hv := Vals.of_own ho
  have HV := Lib.hid hv
  obtain ⟨a, m, cap, rfl, rfl⟩ := own_shape ho
  have HC1 := Lib.hid C1
  have HF1 := Lib.hid F1
  have hs1 := F1.size
  clear HT ho hv C1 F1
  go_wp2_with fail
  have F2 : Fr (fun _ => False) w1 (w1.alloc (.cells #[.slice a m cap, .int .i64 0] 114)) := (Fr.refl w1).alloc _
  refine bodyPost_ret (v := .tuple #[pt w1.heap.size, .int .i64 0]) (by simp [results, Tryz.results141, go_sem]) rfl ⟨_, rfl, ⟨hs1, _, Blk.new w1 _ _, HV.out.1.old F2, Nat.zero_le _, by rw [HLL.out]; omega, by omega, fun _ k hk e => ?_⟩, HC1.out.old F2, HF1.out.trans (F2.mono (fun _ _ h => h.elim))⟩
  have := HV.out.2 k hk
  omega

theorem sub_end {w : World} {c : Nat} {K : Nat → Prop} {bs : List UInt8} {i : Nat} (h : CurAt w c K bs i) (n : Nat) (hn : bs.length - i < n) :
    Calls Tryz.prog 141 #[pt c, .int .i64 n] w fun e w' => e = .returned (.tuple #[.pointer none, .int .i64 3]) ∧ Fr (fun _ => False) w w' := by
  have HT := Lib.hid (take_end h n hn)
  clear h
  go_enter Tryz.func141, Tryz.ntmps141
  go_wp2_with fail
  refine HT.out.mono ?_
  rintro e w1 ⟨rfl, F1⟩
  go_wp2_with fail
  exact bodyPost_ret (v := .tuple #[.pointer none, .int .i64 3]) (by simp [results, Tryz.results141, go_sem]) rfl ⟨rfl, F1⟩
theorem NewCur.up {w w1 w' : World} {g : Nat} {l : List UInt8} (h : NewCur w1 w' g l) (hs : w.heap.size ≤ w1.heap.size) : NewCur w w' g l :=
  ⟨Nat.le_trans hs h.1, h.2.step (Fr.refl w') (S := fun _ => False) (fun _ _ h => h.elim) (fun k hk => .inl (Nat.lt_of_lt_of_le hk hs))⟩

set_option maxRecDepth 20000 in
theorem rest_any {w : World} {c : Nat} {K : Nat → Prop} {bs : List UInt8} {i : Nat} (h : CurAt w c K bs i) :
    Calls Tryz.prog 180 #[pt c] w fun e w' => ∃ v, e = .returned v ∧ w'.ownsRow w.heap.size 5 1 v (bs.length - i) (Lib.byteCells (bs.drop i)) ∧ CurAt w' c K bs bs.length ∧ Fr (fun k => k = c) w w' := by
  have hsm := h.small
  have hle := h.le
  have H := Lib.hid h
  have hcut := Lib.hid (fun w' (C : CurAt w' c K bs i) => cut_any C i (bs.length - i) (by omega))
  have e1 : (i : Int) + ((bs.length - i : Nat) : Int) = (bs.length : Int) := by omega
  rw [e1] at hcut
  have e2 : (bs.drop i).take (bs.length - i) = bs.drop i := List.take_of_length_le (by rw [List.length_drop]; omega)
  rw [e2] at hcut
  clear h e1 e2
  go_enter Tryz.func180, Tryz.ntmps180
  go_upto_region 3 with fail
  have C1 := H.out.old (Fr.refl w).drew
  have HC := Lib.hid C1
  obtain ⟨sl, B, -⟩ := C1
  have F2 : Fr (fun _ => False) w w.drew := (Fr.refl w).drew
  have hcl := H.out.lt
  clear H
  go_region_held3 (fun w' => ∀ j, w'.cell? ⟨c, j, none⟩ = (#[sl, .int .i64 i] : Array Value)[j]?) (exact B.cell) (first
    | (go_at_call 104; refine (size_any HC.out).mono ?_; rintro e w' ⟨rfl, rfl⟩)
    | (go_at_call 168; refine (hcut.out _ HC.out).mono ?_; rintro e w' ⟨v, rfl, ho, F⟩; replace B := B.fr F (fun h => h); have C3 := HC.out.old F))
  have HO := Lib.hid ho
  have HC3 := Lib.hid C3
  have e1 := B.cell 1
  have f1 := B.frozen 1
  simp at e1
  have hv := Lib.hid (Vals.of_own ho)
  clear ho C3
  go_wp2_with fail
  refine (size_any HC3.out).mono ?_
  rintro e w4 ⟨rfl, rfl⟩
  go_wp2_with fail
  obtain ⟨C4, F4⟩ := HC3.out.set bs.length (Nat.le_refl _)
  have hne : ∀ k, v.ownBlock = some k → k ≠ c := fun k hk e => by
    have h1 := (hv.out.2 k hk).1
    have h2 := HC.out.lt
    omega
  go_ret
  exact ⟨v, rfl, own_le (ownsRow_fr HO.out F4 (fun k hk e => hne k hk e)) F2.size, C4, ((F2.trans F).mono (fun _ _ h => h.elim)).trans F4⟩
end Go.Proofs.YtgffhiopbnkjbaaGreatDoor

namespace Go.Q
open Go Go.RowKit
theorem openS_err1 {T : Tag} {l : List UInt8} {x : Int} (h : readS l = .error x) : openS T l = .error x := by unfold openS; rw [h]
theorem openS_tag {T u : Tag} {l : List UInt8} {n k : Nat} (h : readS l = .ok (u, n, k)) (hu : u ≠ T) : openS T l = .error 4 := by unfold openS; rw [h]; exact if_pos hu
theorem openS_end {T : Tag} {l : List UInt8} {n k : Nat} (h : readS l = .ok (T, n, k)) (hn : l.length - k < n) : openS T l = .error 3 := by unfold openS; rw [h]; simp only; rw [if_neg (by simp), if_pos hn]
theorem openS_ok {T : Tag} {l : List UInt8} {n k : Nat} (h : readS l = .ok (T, n, k)) (hn : ¬ l.length - k < n) : openS T l = .ok ((l.drop k).take n, k + n) := by unfold openS; rw [h]; simp only; rw [if_neg (by simp), if_neg hn]
theorem openS_nz {T : Tag} {l : List UInt8} {x : Int} (h : openS T l = .error x) : x ≠ 0 := by
  unfold openS at h
  split at h
  · rename_i hr
    cases h
    exact Go.Proofs.YtgffhiopbnkjbaaGreatDoor.readS_err hr
  · split at h
    · cases h; decide
    · split at h
      · cases h; decide
      · cases h
end Go.Q
namespace Go.Proofs.YtgffhiopbnkjbaaGreatDoor
open Go Go.RowKit Go.Q
set_option linter.unusedSimpArgs false

/-- What opening gives, ahead of the way back. -/
def OpenOut1 (w w' : World) (c : Nat) (K : Nat → Prop) (bs : List UInt8) (p : Nat) (r : Except Int (List UInt8 × Nat)) (e : Ending) : Prop :=
  match r with
  | .ok (y, k) => ∃ g, e = .returned (.tuple #[pt g, .int .i64 0]) ∧ NewCur w w' g y ∧ CurAt w' c K bs (p + k)
  | .error x => e = .returned (.tuple #[.pointer none, .int .i64 x]) ∧ ∃ q, p ≤ q ∧ CurAt w' c K bs q

set_option maxRecDepth 20000 in
set_option maxHeartbeats 2000000 in
theorem open1_any {w : World} {c : Nat} {K : Nat → Prop} {bs : List UInt8} {p : Nat} (h : CurAt w c K bs p) (T : Tag) (bx bt : Nat) (B : Blk w bx 67 #[pt c]) (BT : Blk w bt 130 #[.int .i64 T.cls, .int .i64 T.num, .bool T.made]) (hbx : bx ≠ c) (hbt : bt ≠ c) :
    Calls Tryz.prog 139 #[pt bx, pt bt] w fun e w' => OpenOut1 w w' c K bs p (openS T (bs.drop p)) e ∧ Fr (fun k => k = c) w w' := by
  have hle := h.le
  have HR := Lib.hid (read_any h)
  have HB := Lib.hid B
  have HBT := Lib.hid BT
  have e0 := B.cell 0
  simp at e0
  clear h B BT
  go_enter Tryz.func139, Tryz.ntmps139
  go_wp2_with fail
  refine HR.out.mono ?_
  rintro e w1 ⟨⟨⟨tc, tn, tm⟩, n, x, rfl, ht⟩, C1, F1⟩
  rw [show frontV ⟨tc, tn, tm⟩ n = .agg #[.int .i64 tc, .int .i64 tn, .bool tm, .int .i64 n] from rfl]
  have HT := Lib.hid ht
  go_upto_region 2 with fail
  have F2 : Fr (fun _ => False) w1 (w1.alloc (.cells #[.int .i64 tc, .int .i64 tn, .bool tm, .int .i64 n] 213)) := (Fr.refl w1).alloc _
  have BD := Blk.new w1 213 #[.int .i64 tc, .int .i64 tn, .bool tm, .int .i64 n]
  have HC2 := Lib.hid (C1.old F2)
  have G2 := F1.trans (F2.mono (T := fun k => k = c) (fun _ _ h => h.elim))
  have HG2 := Lib.hid G2
  have SB := ((HB.out.fr F1 hbx).fr F2 (fun h => h)).cell 0
  have ST := ((HBT.out.fr F1 hbt).fr F2 (fun h => h)).cell
  have SD := BD.cell
  simp at SB
  obtain ⟨d, hd⟩ : ∃ d, d = w1.heap.size := ⟨_, rfl⟩
  rw [← hd] at BD SD ⊢
  clear hd C1 F1 F2 ht HR e0
  generalize (w1.alloc (.cells #[.int .i64 tc, .int .i64 tn, .bool tm, .int .i64 n] 213)) = w2 at *
  by_cases hx : x = 0
  · subst hx
    obtain ⟨u, hu⟩ : ∃ u : Tag, u = ⟨tc, tn, tm⟩ := ⟨_, rfl⟩
    have hok : ∃ k, readS (bs.drop p) = .ok (u, n, k) := by
      have ht := HT.out
      cases hr : readS (bs.drop p) with
      | error e => rw [hr] at ht; exact absurd ht.symm (readS_err hr)
      | ok vk => obtain ⟨v, m, k⟩ := vk; rw [hr] at ht; exact ⟨k, by rw [hu, ht.1, ht.2.1]⟩
    obtain ⟨k, hk⟩ := hok
    have hkl := (readS_le hk).1
    have hc := HC2.out
    rw [hk] at hc
    have HC := Lib.hid hc
    have HK := Lib.hid hk
    have HU := Lib.hid hu
    rw [List.length_drop] at hkl
    have bad : u ≠ T → OpenOut1 w w2 c K bs p (openS T (bs.drop p)) (.returned (.tuple #[.pointer none, .int .i64 4])) := fun hne => by
      rw [openS_tag HK.out hne]
      exact ⟨rfl, p + k, by omega, HC.out⟩
    have HBAD := Lib.hid bad
    clear hk hc hu bad HC2
    go_wp2_with fail
    rotate_left
    iterate 3
      refine bodyPost_ret (v := .tuple #[.pointer none, .int .i64 4]) (by simp [results, Tryz.results139, go_sem]) rfl ⟨HBAD.out fun e => ?_, HG2.out⟩
      have e2 := HU.out
      rw [e] at e2
      subst e2
      first | exact absurd rfl ‹¬ tm = _› | exact absurd rfl ‹¬ tn = _› | exact absurd rfl ‹¬ tc = _›
    have hT : u = T := by
      rw [HU.out]
      show (⟨tc, tn, tm⟩ : Tag) = ⟨T.cls, T.num, T.made⟩
      rw [‹tc = T.cls›, ‹tn = T.num›, ‹tm = T.made›]
    rw [hT] at HK
    clear hT HU HBAD
    by_cases hn : n ≤ bs.length - (p + k)
    · have HO := Lib.hid (openS_ok (T := T) HK.out (by rw [List.length_drop]; omega))
      have hS := sub_ok HC.out n hn
      rw [show (bs.drop (posR p (.ok (u, n, k)))).take n = ((bs.drop p).drop k).take n from by rw [List.drop_drop]; rfl] at hS
      refine hS.mono ?_
      rintro e w3 ⟨g, rfl, hN, C3, F3⟩
      have HN := Lib.hid hN
      have HC3 := Lib.hid C3
      have HF3 := Lib.hid (HG2.out.trans F3)
      clear hS hN C3 F3 G2
      go_wp2_with fail
      refine bodyPost_ret (v := .tuple #[pt g, .int .i64 0]) (by simp [results, Tryz.results139, go_sem]) rfl ⟨?_, HF3.out⟩
      rw [HO.out]
      exact ⟨g, rfl, HN.out.up HG2.out.size, by have := HC3.out; rwa [show posR p (.ok (u, n, k)) + n = p + (k + n) from Nat.add_assoc p k n] at this⟩
    · have HO := Lib.hid (openS_end (T := T) HK.out (by rw [List.length_drop]; omega))
      refine (sub_end HC.out n (by show bs.length - (p + k) < n; omega)).mono ?_
      rintro e w3 ⟨rfl, F3⟩
      have HC3 := Lib.hid (HC.out.old F3)
      have HF3 := Lib.hid (HG2.out.trans (F3.mono (fun _ _ h => h.elim)))
      clear F3 G2 HC
      go_wp2_with fail
      refine bodyPost_ret (v := .tuple #[.pointer none, .int .i64 3]) (by simp [results, Tryz.results139, go_sem]) rfl ⟨?_, HF3.out⟩
      rw [HO.out]
      exact ⟨rfl, p + k, by omega, HC3.out⟩
  · have hx1 : (x == 0) = false := beq_eq_false_iff_ne.2 hx
    have herr : readS (bs.drop p) = .error x := by
      have ht := HT.out
      cases hr : readS (bs.drop p) with
      | error e => rw [hr] at ht; rw [show x = e from ht]
      | ok vk => obtain ⟨v, m, k⟩ := vk; rw [hr] at ht; exact absurd ht.2.2 hx
    have hc := HC2.out
    rw [herr] at hc
    have HO := Lib.hid (openS_err1 (T := T) herr)
    have HC := Lib.hid hc
    clear herr hc
    go_wp2_with fail
    refine bodyPost_ret (v := .tuple #[.pointer none, .int .i64 x]) (by simp [results, Tryz.results139, go_sem]) rfl ⟨?_, HG2.out⟩
    rw [HO.out]
    exact ⟨rfl, p, Nat.le_refl _, HC.out⟩

/-- What opening gives. -/
def OpenOut (w w' : World) (c : Nat) (K : Nat → Prop) (bs : List UInt8) (p : Nat) (r : Except Int (List UInt8 × Nat)) (e : Ending) : Prop :=
  match r with
  | .ok (y, k) => ∃ g, e = .returned (.tuple #[pt g, .int .i64 0]) ∧ NewCur w w' g y ∧ CurAt w' c K bs (p + k)
  | .error x => e = .returned (.tuple #[.pointer none, .int .i64 x]) ∧ CurAt w' c K bs p

set_option maxRecDepth 20000 in
set_option maxHeartbeats 2000000 in
theorem open_any {w : World} {c : Nat} {K : Nat → Prop} {bs : List UInt8} {p : Nat} (h : CurAt w c K bs p) (T : Tag) :
    Calls Tryz.prog 97 #[pt c, .agg #[.int .i64 T.cls, .int .i64 T.num, .bool T.made]] w fun e w' => OpenOut w w' c K bs p (openS T (bs.drop p)) e ∧ Fr (fun k => k = c) w w' := by
  have hlc := h.lt
  obtain ⟨bx, hbx⟩ : ∃ bx, bx = w.heap.size := ⟨_, rfl⟩
  have B := (Blk.new w 67 #[pt c]).alloc (.cells #[.int .i64 T.cls, .int .i64 T.num, .bool T.made] 130)
  have BT := Blk.new (w.alloc (.cells #[pt c] 67)) 130 #[.int .i64 T.cls, .int .i64 T.num, .bool T.made]
  rw [World.size_alloc] at BT
  have F : Fr (fun _ => False) w ((w.alloc (.cells #[pt c] 67)).alloc (.cells #[.int .i64 T.cls, .int .i64 T.num, .bool T.made] 130)) := ((Fr.refl w).alloc _).alloc _
  have H := Lib.hid (h.old F)
  rw [← hbx] at B BT
  have hbc : bx ≠ c := by omega
  have htc : bx + 1 ≠ c := by omega
  have HBX := Lib.hid hbx
  have e0 := B.cell 0
  simp at e0
  clear h hbx hlc
  go_enter Tryz.func97, Tryz.ntmps97
  go_upto_region 1 with fail
  rw [← HBX.out]
  generalize ((w.alloc (.cells #[pt c] 67)).alloc (.cells #[.int .i64 T.cls, .int .i64 T.num, .bool T.made] 130)) = w0 at *
  have HF := Lib.hid F
  have HO1 := Lib.hid (open1_any H.out T bx (bx + 1) B BT hbc htc)
  clear F B BT HBX
  go_wp2_with (first | (go_at_call 138; go_in))
  refine (at_any H.out).mono ?_
  rintro e w1' ⟨rfl, rfl⟩
  go_wp2_with fail
  refine HO1.out.mono ?_
  rintro e w2 ⟨hout, F2⟩
  have HF2 := Lib.hid ((HF.out.mono (T := fun k => k = c) (fun _ _ h => h.elim)).trans F2)
  clear F2 HO1 H
  have hsz := HF.out.size
  cases hr : openS T (bs.drop p) with
  | error x =>
    rw [hr] at hout
    obtain ⟨rfl, q, hq, C2⟩ := hout
    have hx := openS_nz hr
    have hx1 : (x == 0) = false := beq_eq_false_iff_ne.2 hx
    have hx2 : (x != 0) = true := by simpa using hx
    have HB := Lib.hid (back_any C2 p hq)
    have HR := Lib.hid hr
    clear hr hx C2
    go_wp2_with fail
    refine HB.out.mono ?_
    rintro e w3 ⟨rfl, C3, F3⟩
    have HC3 := Lib.hid C3
    have HF3 := Lib.hid (HF2.out.trans F3)
    clear C3 F3 HB
    go_wp2_with fail
    refine bodyPost_ret (v := .tuple #[.pointer none, .int .i64 x]) (by simp [results, Tryz.results97, go_sem]) rfl ⟨?_, HF3.out⟩
    rw [HR.out]
    exact ⟨rfl, HC3.out⟩
  | ok yk =>
    obtain ⟨y, k⟩ := yk
    rw [hr] at hout
    obtain ⟨g, rfl, hN, C2⟩ := hout
    have HN := Lib.hid (hN.up hsz)
    have HC2 := Lib.hid C2
    have HR := Lib.hid hr
    clear hr hN C2
    go_wp2_with fail
    refine bodyPost_ret (v := .tuple #[pt g, .int .i64 0]) (by simp [results, Tryz.results97, go_sem]) rfl ⟨?_, HF2.out⟩
    rw [HR.out]
    exact ⟨g, rfl, HN.out, HC2.out⟩

theorem open_err {w : World} {c : Nat} {K : Nat → Prop} {bs : List UInt8} {p : Nat} (h : CurAt w c K bs p) (T : Tag) {x : Int} (ho : openS T (bs.drop p) = .error x) :
    Calls Tryz.prog 97 #[pt c, tagV T] w fun e w' => e = .returned (.tuple #[.pointer none, .int .i64 x]) ∧ CurAt w' c K bs p ∧ Fr (fun k => k = c) w w' :=
  (open_any h T).mono fun e w' ⟨h1, h2⟩ => by
    rw [ho] at h1
    exact ⟨h1.1, h1.2, h2⟩
theorem open_on {w : World} {c : Nat} {K : Nat → Prop} {bs : List UInt8} {p : Nat} (h : CurAt w c K bs p) (T : Tag) {y : List UInt8} {k : Nat} (ho : openS T (bs.drop p) = .ok (y, k)) :
    Calls Tryz.prog 97 #[pt c, tagV T] w fun e w' => (∃ g, e = .returned (.tuple #[pt g, .int .i64 0]) ∧ NewCur w w' g y ∧ CurAt w' c K bs (p + k)) ∧ Fr (fun k => k = c) w w' :=
  (open_any h T).mono fun e w' ⟨h1, h2⟩ => by
    rw [ho] at h1
    exact ⟨h1, h2⟩
end Go.Proofs.YtgffhiopbnkjbaaGreatDoor

namespace Go.Proofs.YtgffhiopbnkjbaaGreatDoor
open Go Go.RowKit Go.Q
set_option linter.unusedSimpArgs false

/-- What the reference's Open gives. -/
def rOpenOut (v : Value) (l : List UInt8) (p : Nat) (r : Except Int (List UInt8 × Nat)) (e : Ending) : Prop :=
  match r with
  | .error x => e = .returned (.tuple #[.slice none 0 0, .int .i64 p, .int .i64 x])
  | .ok (y, k) => ∃ A c, e = .returned (.tuple #[.slice A y.length c, .int .i64 ((p + k : Nat) : Int), .int .i64 0]) ∧ ∀ W, Bytes W v l → Bytes W (.slice A y.length c) y

set_option maxRecDepth 20000 in
set_option maxHeartbeats 2000000 in
theorem r02Open_any (v : Value) (l : List UInt8) (p : Nat) (T : Tag) (w : World) (h : Bytes w v l) (hp : p ≤ l.length) (hlm : l.length ≤ 1099511627776) :
    Calls Tryz.prog 65 #[v, .int .i64 p, .agg #[.int .i64 T.cls, .int .i64 T.num, .bool T.made]] w fun e w' => rOpenOut v l p (openS T (l.drop p)) e ∧ Fr (fun _ => False) w w' := by
  obtain ⟨a, cap, rfl, hcap, hcm, -⟩ := h.form
  have H := Lib.hid h
  have F0 : Fr (fun _ => False) w (w.alloc (.cells #[.int .i64 T.cls, .int .i64 T.num, .bool T.made] 36)) := (Fr.refl w).alloc _
  have B0 := Blk.new w 36 #[.int .i64 T.cls, .int .i64 T.num, .bool T.made]
  have HR := Lib.hid (r02Read_any _ l p _ (h.old F0) hp hlm)
  have HF0 := Lib.hid F0
  have HB0 := Lib.hid B0
  obtain ⟨z, hz⟩ : ∃ z, z = w.heap.size := ⟨_, rfl⟩
  rw [← hz] at HB0
  have HZ := Lib.hid hz
  clear h F0 B0 hz hcm
  go_enter Tryz.func65, Tryz.ntmps65
  go_upto_region 1 with fail
  rw [← HZ.out]
  generalize (w.alloc (.cells #[.int .i64 T.cls, .int .i64 T.num, .bool T.made] 36)) = w0 at *
  go_wp2_with fail
  refine HR.out.mono ?_
  rintro e w1 ⟨rfl, F1⟩
  have HF1 := Lib.hid (HF0.out.trans F1)
  have HB1 := Lib.hid (HB0.out.fr F1 (fun h => h))
  clear F1 HF0 HB0 HR
  cases hr : readS (l.drop p) with
  | error x =>
    have hx : x ≠ 0 := readS_err hr
    have hx1 : (x == 0) = false := beq_eq_false_iff_ne.2 hx
    have hx2 : (x != 0) = true := by simpa using hx
    have HO := Lib.hid (openS_err1 (T := T) hr)
    rw [show rReadV p (.error x) = .tuple #[.agg #[.int .i64 0, .int .i64 0, .bool false], .int .i64 0, .int .i64 p, .int .i64 x] from rfl]
    clear hr hx
    go_wp2_with fail
    refine bodyPost_ret (v := .tuple #[.slice none 0 0, .int .i64 p, .int .i64 x]) (by simp [results, Tryz.results65, go_sem]) rfl ⟨?_, HF1.out.alloc _⟩
    rw [HO.out]
    rfl
  | ok tnk =>
    obtain ⟨⟨t1, t2, t3⟩, n, k⟩ := tnk
    rw [show rReadV p (.ok (⟨t1, t2, t3⟩, n, k)) = .tuple #[.agg #[.int .i64 t1, .int .i64 t2, .bool t3], .int .i64 n, .int .i64 ((p + k : Nat) : Int), .int .i64 0] from rfl]
    obtain ⟨u, hu⟩ : ∃ u : Tag, u = ⟨t1, t2, t3⟩ := ⟨_, rfl⟩
    rw [← hu] at hr
    have hk := (readS_le hr).1
    have hn16 := (readS_le hr).2
    rw [List.length_drop] at hk
    obtain ⟨s, hs⟩ : ∃ s, s = p + k := ⟨_, rfl⟩
    rw [← hs]
    have hsl : s ≤ l.length := by omega
    have HS := Lib.hid hs
    have F2 : Fr (fun _ => False) w1 (w1.alloc (.cells #[.int .i64 t1, .int .i64 t2, .bool t3] 36)) := (Fr.refl w1).alloc _
    have HF2 := Lib.hid (HF1.out.trans F2)
    have S1 := (HB1.out.fr F2 (fun h => h)).cell
    have BD := Blk.new w1 36 #[.int .i64 t1, .int .i64 t2, .bool t3]
    obtain ⟨d, hd⟩ : ∃ d, d = w1.heap.size := ⟨_, rfl⟩
    rw [← hd] at BD
    have SD := BD.cell
    have HD := Lib.hid hd
    have HU := Lib.hid hu
    have HRD := Lib.hid hr
    have bad : u ≠ T → rOpenOut (.slice a l.length cap) l p (openS T (l.drop p)) (.returned (.tuple #[.slice none 0 0, .int .i64 p, .int .i64 4])) := fun hne => by
      rw [openS_tag HRD.out hne]
      rfl
    have HBAD := Lib.hid bad
    clear F2 BD hd hu hr hs bad HB1 HF1 hk
    go_upto_region 4 with fail
    rw [← HD.out]
    generalize (w1.alloc (.cells #[.int .i64 t1, .int .i64 t2, .bool t3] 36)) = w2 at *
    by_cases hn : l.length - s < n
    case' pos =>
      have hO : u = T → openS T (l.drop p) = .error 3 := fun e => by
        have hrd := HRD.out
        rw [e] at hrd
        exact openS_end hrd (by rw [List.length_drop]; have := HS.out; omega)
      have HO := Lib.hid hO
      have q3 : (l.length : Int) - (s : Int) < (n : Int) := by omega
      clear hO
    case' neg =>
      obtain ⟨A, hsl2, hby⟩ := bytes_mid H.out s n (by omega)
      have hO : u = T → openS T (l.drop p) = .ok ((l.drop s).take n, k + n) := fun e => by
        have hrd := HRD.out
        rw [e] at hrd
        rw [openS_ok hrd (by rw [List.length_drop]; have := HS.out; omega), List.drop_drop, HS.out]
      have hlen : ((l.drop s).take n).length = n := by rw [List.length_take, List.length_drop]; omega
      have HLEN := Lib.hid hlen
      have HBY := Lib.hid hby
      have HO := Lib.hid hO
      have q3 : ¬ (l.length : Int) - (s : Int) < (n : Int) := by omega
      have b1 : (s : Int) + (n : Int) ≤ 1099511627776 := by omega
      rw [Int.natCast_add] at hsl2
      clear hO hlen hby
    all_goals
      go_wp2_with fail
      rotate_left
      iterate 3
        refine bodyPost_ret (v := .tuple #[.slice none 0 0, .int .i64 p, .int .i64 4]) (by simp [results, Tryz.results65, go_sem]) rfl ⟨HBAD.out fun e => ?_, HF2.out⟩
        have e2 := HU.out
        rw [e] at e2
        subst e2
        first | exact absurd rfl ‹¬ t3 = _› | exact absurd rfl ‹¬ t2 = _› | exact absurd rfl ‹¬ t1 = _›
    all_goals
      have hT : u = T := by
        rw [HU.out]
        show (⟨t1, t2, t3⟩ : Tag) = ⟨T.cls, T.num, T.made⟩
        rw [‹t1 = T.cls›, ‹t2 = T.num›, ‹t3 = T.made›]
      have ho := HO.out hT
    · refine bodyPost_ret (v := .tuple #[.slice A n (cap - s), .int .i64 ((s : Int) + (n : Int)), .int .i64 0]) (by simp [results, Tryz.results65, go_sem]) rfl ⟨?_, HF2.out⟩
      rw [ho]
      exact ⟨A, cap - s, by rw [HLEN.out, show (s : Int) + (n : Int) = ((p + (k + n) : Nat) : Int) from by have := HS.out; omega], by rw [HLEN.out]; exact HBY.out⟩
    · refine bodyPost_ret (v := .tuple #[.slice none 0 0, .int .i64 p, .int .i64 3]) (by simp [results, Tryz.results65, go_sem]) rfl ⟨?_, HF2.out⟩
      rw [ho]
      rfl
end Go.Proofs.YtgffhiopbnkjbaaGreatDoor

namespace Go.Q
open Go Go.RowKit
theorem up7_zero (f : Nat) : up7 f 0 = [] := by cases f <;> simp [up7]
theorem up7_ge : ∀ (f m : Nat), m < 128 ^ f → up7 (f + 1) m = up7 f m
  | 0, m, h => by simp at h; subst h; simp [up7]
  | f + 1, m, h => by
    by_cases h0 : m = 0
    · subst h0; simp [up7]
    · have ih := up7_ge f (m / 128) (by rw [Nat.pow_succ] at h; omega)
      rw [up7, if_neg h0, ih]
      rw [up7, if_neg h0]
theorem base128_small {n : Nat} (h : n < 128) : base128 n = [UInt8.ofNat n] := by
  unfold base128
  rw [show n / 128 = 0 from by omega, up7_zero, show n % 128 = n from by omega]
  rfl
theorem base128_step {n : Nat} (h : 128 ≤ n) (hn : n ≤ 2147483647) : ∃ front : List UInt8, base128 (n / 128) = front ++ [UInt8.ofNat (n / 128 % 128)] ∧ base128 n = front ++ [UInt8.ofNat (n / 128 % 128 + 128)] ++ [UInt8.ofNat (n % 128)] := by
  refine ⟨(up7 5 (n / 128 / 128)).reverse, by simp [base128], ?_⟩
  have e : up7 5 (n / 128) = UInt8.ofNat (n / 128 % 128 + 128) :: up7 4 (n / 128 / 128) := by rw [up7, if_neg (by omega)]
  have e2 : up7 5 (n / 128 / 128) = up7 4 (n / 128 / 128) := up7_ge 4 _ (Nat.lt_of_le_of_lt (show n / 128 / 128 ≤ 131071 by omega) (by decide))
  unfold base128
  rw [e, e2]
  simp
/-- Setting a cell of a row of one's own. -/
theorem own_set {w : World} {base n : Nat} {e : TypeId} {a : Option Addr} {m c : Nat} {xs : List Value} (h : w.ownsRow base e 1 (.slice a m c) n xs) (i : Nat) (hi : i < n) (u : Value) :
    ∃ g, a = some ⟨g, 0, none⟩ ∧ base ≤ g ∧ g < w.heap.size ∧ m = n ∧ n ≤ c ∧ c ≤ maxLen ∧ w.frozen? ⟨g, i, none⟩ = false ∧ w.cell? ⟨g, i, none⟩ = xs[i]? ∧ (w.setCell ⟨g, i, none⟩ u).ownsRow base e 1 (.slice a m c) n (xs.set i u) ∧ Fr (fun k => k = g) w (w.setCell ⟨g, i, none⟩ u) := by
  obtain ⟨h1, h2⟩ := h
  rcases h2 with ⟨he, h0⟩ | ⟨g, cap, cur, he, hg, hh, hnc, hcm, hcs, htk⟩
  · omega
  · simp only [Value.slice.injEq] at he
    obtain ⟨rfl, rfl, rfl⟩ := he
    have B : Blk w g e cur := hh
    simp only [Nat.mul_one] at h1 hcs htk
    refine ⟨g, rfl, hg, B.lt, rfl, hnc, hcm, B.frozen i, ?_, ⟨by simpa using h1, .inr ⟨g, c, cur.setIfInBounds i u, rfl, hg, B.set i u, hnc, hcm, by simpa using hcs, ?_⟩⟩, Fr.setCell (S := fun k => k = g) (p := ⟨g, i, none⟩) (Fr.refl w) (fun _ => rfl) _⟩
    · rw [B.cell, ← htk, List.getElem?_take, if_pos hi, Array.getElem?_toList]
    · rw [Nat.mul_one, Array.toList_setIfInBounds, ← htk, List.take_set]
end Go.Q

namespace Go.Proofs.YtgffhiopbnkjbaaGreatDoor
open Go Go.RowKit Go.Q

theorem steps_next {l : List Part} {ws : List (List UInt8)} {x : List UInt8} {j : Nat} (hS : stepsS none l = (stepsS ws.getLast? (l.drop j)).map (ws ++ ·))
    (hsp : stepsS ws.getLast? (l.drop j) = if (match ws.getLast? with | some y => decide (0 ≤ cmpS y x) | none => false) = true then none else (stepsS (some x) (l.drop (j + 1))).map (x :: ·))
    (hc : (match ws.getLast? with | some y => decide (0 ≤ cmpS y x) | none => false) = false) : stepsS none l = (stepsS (ws ++ [x]).getLast? (l.drop (j + 1))).map ((ws ++ [x]) ++ ·) := by
  rw [hS, hsp, hc, List.getLast?_concat]
  simp only [Bool.false_eq_true, ↓reduceIte, Option.map_map]
  congr 1
  funext y
  simp
theorem attr_len {o : List Int} {b x : List UInt8} (h : attrS o b = some x) (hb : b.length ≤ 10000000) : 0 < x.length ∧ x.length ≤ 1099511627776 := by
  unfold attrS at h
  split at h
  · rename_i h0
    simp only [Bool.and_eq_true] at h0
    simp only [Option.some.injEq] at h
    subst h
    have h1 := oidWhole_len (nums_ok h0.1).2.1
    have h2 : (lenBytes (oidWhole o ++ b).length).length ≤ 5 := by unfold lenBytes; (repeat' split) <;> simp
    rw [wrap_len, List.length_append] at *
    omega
  · cases h
set_option maxRecDepth 20000 in
set_option maxHeartbeats 2000000 in
theorem wholesRdn_any (v : Value) (l : List Part) (w : World) (h : Attrs w v l) (hf : fewB l) :
    Calls Tryz.prog 80 #[v] w fun e w' => (∃ v', e = .returned (.tuple #[v', .bool (rdnS l).isSome]) ∧ ∀ ls, rdnS l = some ls → Row w' w.heap.size v' ls) ∧ Fr (fun _ => False) w w' := by
  have H := Lib.hid h
  obtain ⟨a, cap, rfl, hc, hm, -⟩ := h
  rcases Classical.em (l.length = 0 ∨ 16 < l.length) with hl | hl
  · have hn : rdnS l = none := by unfold rdnS; rw [if_pos hl]
    rcases hl with hl | hl
    · have HN := Lib.hid hn
      have q1 : ((l.length : Int) == 0) = true := by rw [hl]; rfl
      have q2 : (l.length == 0) = true := by rw [hl]; rfl
      clear hn
      go_enter Tryz.func80, Tryz.ntmps80
      go_wp2_with fail
      refine bodyPost_ret (v := .tuple #[.slice none 0 0, .bool false]) (by simp [results, Tryz.results80, go_sem]) rfl ⟨⟨_, by rw [HN.out]; rfl, fun ls e => by rw [HN.out] at e; cases e⟩, Fr.refl _⟩
    · have HN := Lib.hid hn
      have q1 : ((l.length : Int) == 0) = false := beq_eq_false_iff_ne.2 (by omega)
      have q2 : (l.length == 0) = false := beq_eq_false_iff_ne.2 (by omega)
      have q3 : (16 : Int) < (l.length : Int) := by omega
      clear hn
      go_enter Tryz.func80, Tryz.ntmps80
      go_wp2_with fail
      refine bodyPost_ret (v := .tuple #[.slice none 0 0, .bool false]) (by simp [results, Tryz.results80, go_sem]) rfl ⟨⟨_, by rw [HN.out]; rfl, fun ls e => by rw [HN.out] at e; cases e⟩, Fr.refl _⟩
  · have hn : rdnS l = stepsS none l := by unfold rdnS; rw [if_neg hl]
    have HN := Lib.hid hn
    have q1 : ((l.length : Int) == 0) = false := beq_eq_false_iff_ne.2 (by omega)
    have q2 : (l.length == 0) = false := beq_eq_false_iff_ne.2 (by omega)
    have q3 : ¬ (16 : Int) < (l.length : Int) := by omega
    have qT : ∀ (w : World) (a : Option Addr) (n c n' c' : Nat), (binOp .eql 23 (.slice a n c) (.slice none n' c')).run Tryz.prog w = .ok (.bool a.isNone) w := fun w a n c n' c' => Lib.run_eql_slice_nil w _ _ a n c n' c' Tryz.underlying23
    clear hn
    go_enter Tryz.func80, Tryz.ntmps80
    go_wp2_with fail
    go_loopg [4, 18] l.length (fun g u i wr => ∃ (j : Nat) (ws : List (List UInt8)), g = l.length - j ∧ j ≤ l.length ∧ i = .int .i64 j ∧ ws.length = j ∧ (∀ y ∈ ws, y.length ≤ 1099511627776) ∧ Row wr w.heap.size u ws ∧ Fr (fun _ => False) w wr ∧ (stepsS none l = (stepsS ws.getLast? (l.drop j)).map (ws ++ ·)))
    case atStart => exact ⟨0, [], rfl, Nat.zero_le _, rfl, rfl, by simp, Row.nil _ _, Fr.refl _, by simp⟩
    case round =>
      obtain ⟨j, ws, hg, hj, rfl, hws, hwl, hrow, F, hS⟩ := hrel
      have HG := Lib.hid hg
      have HS := Lib.hid hS
      have HF := Lib.hid F
      obtain ⟨au, cu, rfl⟩ : ∃ au cu, u4 = .slice au j cu := by
        obtain ⟨us, h1, _⟩ := hrow
        obtain ⟨a0, m0, c0, rfl, rfl⟩ := own_shape h1
        exact ⟨_, _, by rw [hws]⟩
      have HR := Lib.hid hrow
      have HWS := Lib.hid hws
      clear hg hS hrow hws
      by_cases hjl : j < l.length
      · obtain ⟨a0, cap0, he, _, _, hx⟩ := H.out.old F
        simp only [Value.slice.injEq, true_and] at he
        obtain ⟨rfl, rfl⟩ := he
        obtain ⟨b, off, rfl, hy⟩ := hx (by omega)
        obtain ⟨p, hp⟩ : ∃ p, l[j]? = some p := ⟨_, List.getElem?_eq_getElem hjl⟩
        obtain ⟨x, y, e1, e2, hpx, hpy⟩ := hy j p hp
        have hsp := Lib.hid (stepsS_split l j p hp ws.getLast?)
        have hpb := hf p (List.mem_of_getElem? hp)
        have r1 : (0 : Int) ≤ (j : Int) := by omega
        have r2 : (j : Int) < (l.length : Int) := by omega
        have HPX := Lib.hid hpx
        have HPY := Lib.hid hpy
        obtain ⟨ax, cx, rfl, -⟩ := Ints.form hpx
        obtain ⟨ay, cy, rfl, -⟩ := Vals.form hpy
        have e1' : wr.cell? ⟨b, off + j * 2, none⟩ = some (.slice ax p.o.length cx) := by rw [Nat.mul_comm]; exact e1
        have e2' : wr.cell? ⟨b, off + j * 2 + 1, none⟩ = some (.slice ay p.b.length cy) := by rw [Nat.mul_comm]; exact e2
        clear hx hy hp hpx hpy F
        go_upto_region 7 with fail
        have BZ := Blk.new wr 39 #[.slice ax p.o.length cx, .slice ay p.b.length cy]
        have F1 : Fr (fun _ => False) wr (wr.alloc (.cells #[.slice ax p.o.length cx, .slice ay p.b.length cy] 39)) := (Fr.refl wr).alloc _
        have HPX1 := Lib.hid (HPX.out.old F1)
        have HPY1 := Lib.hid (HPY.out.old F1)
        have HR1 := Lib.hid (HR.out.old F1)
        have HF1 := Lib.hid (HF.out.trans F1)
        clear e1 e2 e1' e2' HPX HPY HF F1 HR
        generalize (wr.alloc (.cells #[.slice ax p.o.length cx, .slice ay p.b.length cy] 39)) = w1 at *
        have z0 := BZ.cell 0
        have z1 := BZ.cell 1
        simp at z0 z1
        go_wp2_with fail
        refine (whole_any _ _ p.o p.b w1 HPX1.out HPY1.out hpb).mono ?_
        rintro e w2 ⟨v2, rfl, hout, F2⟩
        have HR2 := Lib.hid (HR1.out.old F2)
        have HF2 := Lib.hid (HF1.out.trans F2)
        unfold wholeOut at hout
        have hlw1 : ∀ k, (Value.slice au j cu).ownBlock = some k → k < w1.heap.size := fun k hk => by
          obtain ⟨us, g1, _⟩ := HR1.out
          exact ((Vals.of_own g1).2 k hk).2
        have HLW := Lib.hid hlw1
        clear z0 z1 BZ HPX1 HPY1 HR1 HF1 F2 hlw1
        cases hq : attrS p.o p.b with
        | none =>
          rw [hq] at hout
          subst hout
          have hn : rdnS l = none := by rw [HN.out, HS.out, hsp.out, hq]; rfl
          have HNN := Lib.hid hn
          clear hn
          go_wp2_with fail
          refine bodyPost_ret (v := .tuple #[.slice none 0 0, .bool false]) (by simp [results, Tryz.results80, go_sem]) rfl ⟨⟨_, by rw [HNN.out]; rfl, fun ls e => by rw [HNN.out] at e; cases e⟩, HF2.out⟩
        | some x =>
          rw [hq] at hout
          have hsp1 := hsp.out
          rw [hq] at hsp1
          have hx0 : 0 < x.length ∧ x.length ≤ 1099511627776 := attr_len hq hpb
          have HO := Lib.hid hout
          obtain ⟨g2, c2, hgc, hv2⟩ : ∃ g c, w1.heap.size ≤ g ∧ v2 = .slice (some ⟨g, 0, none⟩) x.length c := by
            rcases hout.2 with ⟨rfl, h0⟩ | ⟨g, cap, cur, rfl, hg, _⟩
            · omega
            · exact ⟨g, cap, hg, rfl⟩
          subst hv2
          have HSP := Lib.hid hsp1
          clear hout hsp hsp1
          have hadd : ∀ w3, Fr (fun _ => False) w2 w3 → ∃ a5 c5 w5, (Builtin.append_ #[137, 137] 137 #[.slice au j cu, .slice (some ⟨w3.heap.size, 0, none⟩) 1 1]).run Tryz.prog (w3.alloc (.cells #[.slice (some ⟨g2, 0, none⟩) x.length c2] 23)) = .ok (.slice a5 (j + 1) c5) w5 ∧ Row w5 w.heap.size (.slice a5 (j + 1) c5) (ws ++ [x]) ∧ Fr (fun _ => False) w w5 := fun w3 F23 => by
            have F3 : Fr (fun _ => False) w2 (w3.alloc (.cells #[.slice (some ⟨g2, 0, none⟩) x.length c2] 23)) := F23.alloc _
            have hadd := Row.add (HR2.out.old F3) w3.heap.size (.slice (some ⟨g2, 0, none⟩) x.length c2) x (Blk.new w3 _ _) ((Vals.of_own HO.out).1.old F3) (fun k hk e => by
              simp only [Value.ownBlock, Option.some.injEq] at hk
              have := HLW.out k e
              omega) (by rw [HWS.out]; omega) (HF2.out.trans F3).size
            obtain ⟨a5, c5, w5, hrun, hrow, F5⟩ := hadd
            have G5 := (HF2.out.trans F3).trans' F5 (fun i hi e => by
              obtain ⟨us, g1, _⟩ := HR2.out
              have := ((Vals.of_own g1).2 i e).1
              omega)
            rw [HWS.out] at hrun hrow
            exact ⟨a5, c5, w5, hrun, hrow, G5⟩
          have HADD := Lib.hid hadd
          have hlen : (ws ++ [x]).length = j + 1 := by simp [HWS.out]
          have HLEN := Lib.hid hlen
          have hwl2 : ∀ y ∈ ws ++ [x], y.length ≤ 1099511627776 := fun y hy => by
            rcases List.mem_append.1 hy with h | h
            · exact hwl y h
            · rw [List.mem_singleton.1 h]; exact hx0.2
          have HWL2 := Lib.hid hwl2
          clear hadd hlen hwl2
          by_cases hj0 : j = 0
          · subst hj0
            have hw0 : ws = [] := List.length_eq_zero_iff.1 HWS.out
            have hnx := steps_next HS.out HSP.out (by rw [hw0]; rfl)
            have HNX := Lib.hid hnx
            obtain ⟨a5, c5, w5, hrun, hrow, G5⟩ := HADD.out w2 (Fr.refl _)
            have HRUN := Lib.hid hrun
            have HROW := Lib.hid hrow
            have HG5 := Lib.hid G5
            clear hnx hrun hrow G5
            go_wp2_with (at_builtin; refine wpList_append_run (by rfl) (.tmp 41) (.tmp 43) 137 (by rfl) _ w5 (by exact HRUN.out) ?_)
            go_roundg (l.length - (0 + 1))
            case measure => rw [HG.out]; omega
            case rel =>
              exact ⟨0 + 1, ws ++ [x], rfl, by omega, by go_num, HLEN.out, HWL2.out, HROW.out, HG5.out, HNX.out⟩
          · obtain ⟨us, g1, g2', g3⟩ := HR2.out
            obtain ⟨aR, cR, heR, hcR, hmR, hxR⟩ := (Vals.of_own g1).1
            rw [g2', HWS.out] at heR hcR hxR
            simp only [Value.slice.injEq, true_and] at heR
            obtain ⟨rfl, rfl⟩ := heR
            obtain ⟨bR, oR, rfl, hyR⟩ := hxR (by omega)
            obtain ⟨k, rfl⟩ : ∃ k, j = k + 1 := ⟨j - 1, by omega⟩
            have hws2 := HWS.out
            obtain ⟨uk, huk⟩ : ∃ u, us[k]? = some u := ⟨_, List.getElem?_eq_getElem (by omega)⟩
            obtain ⟨xk, hxk⟩ : ∃ x, ws[k]? = some x := ⟨_, List.getElem?_eq_getElem (by omega)⟩
            have ek := hyR k uk huk
            have hbk := (g3 k uk xk huk hxk).1
            have hlast : ws.getLast? = some xk := by rw [List.getLast?_eq_getElem?, hws2]; exact hxk
            have hsp2 := HSP.out
            rw [hlast] at hsp2
            obtain ⟨ak, ck, rfl, -⟩ := Vals.form hbk
            have t1 : IntKind.i64.wrap (((k + 1 : Nat) : Int) - 1) = (k : Int) := by simp [IntKind.wrap, IntKind.signed, IntKind.bits]; omega
            have t2 : (0 : Int) < ((k + 1 : Nat) : Int) := by omega
            have hck : xk.length ≤ 1099511627776 := hwl xk (List.mem_of_getElem? hxk)
            have HCM := Lib.hid (compare_any _ _ xk x w2 hbk (Vals.of_own HO.out).1 hck hx0.2)
            obtain ⟨cm, hcm⟩ : ∃ cm, cm = cmpS xk x := ⟨_, rfl⟩
            have HCC := Lib.hid hcm
            rw [← hcm] at HCM
            have hr3 : ∀ w3, Fr (fun _ => False) w2 w3 → True := fun _ _ => trivial
            have HLA := Lib.hid hlast
            clear hyR g1 g3 hxR hsp2 hwl hxk huk hlast hr3 hcm
            by_cases hge : 0 ≤ cm
            · have hn : rdnS l = none := by
                rw [HN.out, HS.out, HSP.out, HLA.out]
                simp [← HCC.out, hge]
              have HNN := Lib.hid hn
              clear hn
              go_wp2_with fail
              refine HCM.out.mono ?_
              rintro e w3 ⟨rfl, F3⟩
              go_wp2_with fail
              refine bodyPost_ret (v := .tuple #[.slice none 0 0, .bool false]) (by simp [results, Tryz.results80, go_sem]) rfl ⟨⟨_, by rw [HNN.out]; rfl, fun ls e => by rw [HNN.out] at e; cases e⟩, HF2.out.trans F3⟩
            · have hcond : (match ws.getLast? with | some y => decide (0 ≤ cmpS y x) | none => false) = false := by
                rw [HLA.out]
                simp only [← HCC.out]
                exact decide_eq_false hge
              have HNX := Lib.hid (steps_next HS.out HSP.out hcond)
              clear hcond
              go_wp2_with fail
              refine HCM.out.mono ?_
              rintro e w3 ⟨rfl, F3⟩
              obtain ⟨a5, c5, w5, hrun, hrow, G5⟩ := HADD.out w3 F3
              have HRUN := Lib.hid hrun
              have HROW := Lib.hid hrow
              have HG5 := Lib.hid G5
              clear hrun hrow G5
              go_wp2_with (at_builtin; refine wpList_append_run (by rfl) (.tmp 41) (.tmp 43) 137 (by rfl) _ w5 (by exact HRUN.out) ?_)
              go_roundg (l.length - (k + 1 + 1))
              case measure => rw [HG.out]; omega
              case rel =>
                exact ⟨k + 1 + 1, ws ++ [x], rfl, by omega, by go_num, HLEN.out, HWL2.out, HROW.out, HG5.out, HNX.out⟩
      · have hd : l.drop j = [] := List.drop_eq_nil_of_le (by omega)
        have hres : rdnS l = some ws := by rw [HN.out, HS.out, hd]; simp [stepsS]
        have HRES := Lib.hid hres
        clear hd hres
        go_wp2_with fail
        refine bodyPost_ret (v := .tuple #[.slice au j cu, .bool true]) (by simp [results, Tryz.results80, go_sem]) rfl ⟨⟨_, by rw [HRES.out]; rfl, fun ls e => ?_⟩, HF.out⟩
        rw [HRES.out] at e
        cases e
        exact HR.out
end Go.Proofs.YtgffhiopbnkjbaaGreatDoor

namespace Go.Q
open Go Go.RowKit
/-- Is it a name? -/
def nameOk (n : List (List Part)) : Bool := decide (n.length ≤ 64) && n.all (fun r => (rdnS r).isSome)
end Go.Q
namespace Go.Proofs.YtgffhiopbnkjbaaGreatDoor
open Go Go.RowKit Go.Q

set_option maxRecDepth 20000 in
set_option maxHeartbeats 2000000 in
theorem right_any (v : Value) (n : List (List Part)) (w : World) (h : NameAt w v n) (hf : ∀ r ∈ n, fewB r) :
    Calls Tryz.prog 40 #[v] w fun e w' => e = .returned (.bool (nameOk n)) ∧ Fr (fun _ => False) w w' := by
  have H := Lib.hid h
  obtain ⟨a, cap, rfl, hc, hm, -⟩ := h
  rcases Nat.lt_or_ge 64 n.length with hl | hl
  · have hn : nameOk n = false := by unfold nameOk; rw [decide_eq_false (by omega), Bool.false_and]
    have HN := Lib.hid hn
    have q1 : (64 : Int) < (n.length : Int) := by omega
    clear hn
    go_enter Tryz.func40, Tryz.ntmps40
    go_wp2_with fail
    go_ret
    exact ⟨by rw [HN.out]; rfl, Fr.refl _⟩
  · have hn : nameOk n = n.all (fun r => (rdnS r).isSome) := by unfold nameOk; rw [decide_eq_true hl, Bool.true_and]
    have HN := Lib.hid hn
    have q1 : ¬ (64 : Int) < (n.length : Int) := by omega
    clear hn
    go_enter Tryz.func40, Tryz.ntmps40
    go_wp2_with fail
    go_loopg [12] n.length (fun g i wr => ∃ j : Nat, g = n.length - j ∧ j ≤ n.length ∧ i = .int .i64 j ∧ (∀ r ∈ n.take j, (rdnS r).isSome = true) ∧ Fr (fun _ => False) w wr)
    case atStart => exact ⟨0, rfl, Nat.zero_le _, rfl, by simp, Fr.refl _⟩
    case round =>
      obtain ⟨j, hg, hj, rfl, he, F⟩ := hrel
      have HG := Lib.hid hg
      have HE := Lib.hid he
      have HF := Lib.hid F
      clear hg he
      by_cases hjl : j < n.length
      · obtain ⟨a0, cap0, he, _, _, hx⟩ := H.out.old F
        simp only [Value.slice.injEq, true_and] at he
        obtain ⟨rfl, rfl⟩ := he
        obtain ⟨b, off, rfl, hy⟩ := hx (by omega)
        obtain ⟨r, hr⟩ : ∃ r, n[j]? = some r := ⟨_, List.getElem?_eq_getElem hjl⟩
        obtain ⟨x, e1, hA⟩ := hy j r hr
        have r1 : (0 : Int) ≤ (j : Int) := by omega
        have r2 : (j : Int) < (n.length : Int) := by omega
        have HW := Lib.hid (wholesRdn_any x r wr hA (hf r (List.mem_of_getElem? hr)))
        have HR := Lib.hid hr
        clear hx hy hr hA F
        obtain ⟨o, ho⟩ : ∃ o, o = (rdnS r).isSome := ⟨_, rfl⟩
        have HO := Lib.hid ho
        rw [← ho] at HW
        clear ho
        go_wp2_with fail
        refine HW.out.mono ?_
        rintro e w2 ⟨⟨v2, rfl, -⟩, F2⟩
        have G2 := HF.out.trans F2
        clear HF F2
        cases o with
        | false =>
          have hn : n.all (fun r => (rdnS r).isSome) = false := by
            rw [List.all_eq_false]
            exact ⟨r, List.mem_of_getElem? HR.out, by rw [← HO.out]; simp⟩
          have HNN := Lib.hid hn
          clear hn
          go_wp2_with fail
          go_ret
          exact ⟨by rw [HN.out, HNN.out]; rfl, G2⟩
        | true =>
          go_wp2_with fail
          go_roundg (n.length - (j + 1))
          case measure => rw [HG.out]; omega
          case rel =>
            refine ⟨j + 1, rfl, by omega, by go_num, fun s hs => ?_, G2⟩
            rw [List.take_add_one, HR.out] at hs
            rcases List.mem_append.1 hs with h | h
            · exact HE.out s h
            · simp at h
              rw [h, ← HO.out]
      · have hall : n.all (fun r => (rdnS r).isSome) = true := by
          rw [List.all_eq_true]
          have := HE.out
          rwa [List.take_of_length_le (by omega)] at this
        have HNN := Lib.hid hall
        clear hall
        go_wp2_with fail
        go_ret
        exact ⟨by rw [HN.out, HNN.out]; rfl, F⟩
end Go.Proofs.YtgffhiopbnkjbaaGreatDoor

namespace Go.Q
open Go Go.RowKit
theorem numS_ge : ∀ {l : List UInt8} {i n v k : Nat}, numS i n l = .ok (v, k) → 31 ≤ v
  | [], _, _, _, _, h => by simp [numS] at h
  | x :: t, i, n, v, k, h => by
    simp only [numS] at h
    split at h
    · cases h
    split at h
    · split at h
      · cases h
      · simp only [Except.ok.injEq, Prod.mk.injEq] at h
        omega
    · exact numS_ge h
theorem ofNat_eq {x : UInt8} {n : Nat} (h : n = x.toNat) : UInt8.ofNat n = x := by subst h; simp
theorem tag_back {l : List UInt8} {t : Tag} {k : Nat} (h : readTagS l = .ok (t, k)) (ht : tagGood t) : k = 1 ∧ ∃ r, l = tagByte t :: r := by
  cases l with
  | nil => simp [readTagS] at h
  | cons x r =>
    have hx := x.toNat_lt
    simp only [readTagS] at h
    split at h
    · simp only [Except.ok.injEq, Prod.mk.injEq] at h
      obtain ⟨rfl, rfl⟩ := h
      refine ⟨rfl, r, ?_⟩
      congr 1
      unfold tagByte
      refine (ofNat_eq ?_).symm
      simp only [decide_eq_true_eq]
      split <;> omega
    · split at h
      · cases h
      · rename_i n k' hn
        simp only [Except.ok.injEq, Prod.mk.injEq] at h
        obtain ⟨rfl, -⟩ := h
        have := numS_ge hn
        have h3 := ht.2.2
        simp only at h3
        omega
theorem len_back {l : List UInt8} {v m : Nat} (h : readLenS l = .ok (v, m)) : l.take m = lenBytes v := by
  cases l with
  | nil => simp [readLenS] at h
  | cons x t =>
    have hx := x.toNat_lt
    simp only [readLenS] at h
    split at h
    · simp only [Except.ok.injEq, Prod.mk.injEq] at h
      obtain ⟨rfl, rfl⟩ := h
      rw [lenBytes, if_pos (by assumption), ofNat_eq rfl]
      rfl
    split at h
    · cases h
    rename_i h1 h2
    obtain ⟨n, hn⟩ : ∃ n, n = x.toNat - 128 := ⟨_, rfl⟩
    rw [← hn] at h
    have hn1 : 1 ≤ n ∧ n ≤ 4 := by omega
    have hxn : x = UInt8.ofNat (128 + n) := (ofNat_eq (by omega)).symm
    unfold longS at h
    split at h
    · cases h
    split at h
    · cases h
    split at h
    · cases h
    rename_i h3 h4 h5
    simp only [Except.ok.injEq, Prod.mk.injEq] at h
    obtain ⟨hv, rfl⟩ := h
    rw [List.take_succ_cons]
    match n, t with
    | 0, _ => omega
    | 1, [] => simp at h3
    | 1, a :: t =>
      have ha := a.toNat_lt
      simp only [List.take_succ_cons, List.take_zero, beS, List.foldl_cons, List.foldl_nil] at h4 h5 hv ⊢
      rw [lenBytes, if_neg (by omega), if_pos (by omega), ofNat_eq (x := a) (by omega), hxn]
      rfl
    | 2, [] => simp at h3
    | 2, [a] => simp at h3
    | 2, a :: b :: t =>
      have ha := a.toNat_lt
      have hb := b.toNat_lt
      simp only [List.take_succ_cons, List.take_zero, beS, List.foldl_cons, List.foldl_nil, List.head?_cons, Option.map_some, Option.some.injEq] at h4 h5 hv ⊢
      rw [lenBytes, if_neg (by omega), if_neg (by omega), if_pos (by omega), ofNat_eq (x := a) (by omega), ofNat_eq (x := b) (by omega), hxn]
      rfl
    | 3, [] => simp at h3
    | 3, [a] => simp at h3
    | 3, [a, b] => simp at h3
    | 3, a :: b :: c :: t =>
      have ha := a.toNat_lt
      have hb := b.toNat_lt
      have hc := c.toNat_lt
      simp only [List.take_succ_cons, List.take_zero, beS, List.foldl_cons, List.foldl_nil, List.head?_cons, Option.map_some, Option.some.injEq] at h4 h5 hv ⊢
      rw [lenBytes, if_neg (by omega), if_neg (by omega), if_neg (by omega), if_pos (by omega), ofNat_eq (x := a) (by omega), ofNat_eq (x := b) (by omega), ofNat_eq (x := c) (by omega), hxn]
      rfl
    | 4, [] => simp at h3
    | 4, [a] => simp at h3
    | 4, [a, b] => simp at h3
    | 4, [a, b, c] => simp at h3
    | 4, a :: b :: c :: d :: t =>
      have ha := a.toNat_lt
      have hb := b.toNat_lt
      have hc := c.toNat_lt
      have hd := d.toNat_lt
      simp only [List.take_succ_cons, List.take_zero, beS, List.foldl_cons, List.foldl_nil, List.head?_cons, Option.map_some, Option.some.injEq] at h4 h5 hv ⊢
      rw [lenBytes, if_neg (by omega), if_neg (by omega), if_neg (by omega), if_neg (by omega), ofNat_eq (x := a) (by omega), ofNat_eq (x := b) (by omega), ofNat_eq (x := c) (by omega), ofNat_eq (x := d) (by omega), hxn]
      rfl
    | n + 5, _ => omega
theorem readS_parts {l : List UInt8} {t : Tag} {n k : Nat} (h : readS l = .ok (t, n, k)) : ∃ j m, readTagS l = .ok (t, j) ∧ readLenS (l.drop j) = .ok (n, m) ∧ k = j + m := by
  unfold readS at h
  split at h
  · cases h
  · rename_i t' j hj
    split at h
    · cases h
    · rename_i n' m hm
      simp only [Except.ok.injEq, Prod.mk.injEq] at h
      obtain ⟨rfl, rfl, rfl⟩ := h
      exact ⟨j, m, hj, hm, rfl⟩
/-- The front that was read is the one that is written. -/
theorem readS_back {l : List UInt8} {t : Tag} {n k : Nat} (h : readS l = .ok (t, n, k)) (ht : tagGood t) : l.take k = tagByte t :: lenBytes n ∧ n ≤ 16777216 ∧ k ≤ l.length := by
  have hle := readS_le h
  obtain ⟨j, m, h1, h2, rfl⟩ := readS_parts h
  obtain ⟨rfl, r, rfl⟩ := tag_back h1 ht
  have h3 := len_back h2
  refine ⟨?_, hle.2, hle.1⟩
  rw [Nat.add_comm, List.take_succ_cons, ← h3]
  rfl
theorem take_both {α : Type} (l : List α) (k n : Nat) : l.take (k + n) = l.take k ++ (l.drop k).take n := by
  rw [List.take_add]
theorem open_back {t : Tag} {l y : List UInt8} {k : Nat} (h : openS t l = .ok (y, k)) (ht : tagGood t) : l.take k = wrapS t y ∧ y.length ≤ 16777216 ∧ k ≤ l.length ∧ y.length < k := by
  unfold openS at h
  split at h
  · cases h
  rename_i u n j hr
  split at h
  · cases h
  rename_i hu
  split at h
  · cases h
  rename_i hn
  simp only [Except.ok.injEq, Prod.mk.injEq] at h
  obtain ⟨rfl, rfl⟩ := h
  have hu' : u = t := by simpa using hu
  subst hu'
  obtain ⟨h1, h2, h3⟩ := readS_back hr ht
  have hp := readS_pos hr
  have hl : ((l.drop j).take n).length = n := by rw [List.length_take, List.length_drop]; omega
  refine ⟨?_, by rw [hl]; exact h2, by omega, by rw [hl]; omega⟩
  rw [take_both, h1, wrapS, hl]
  rfl
theorem oneE {l : List UInt8} {e : Int} (h : readS l = .error e) : oneS l = .error e := by unfold oneS; rw [h]
theorem oneEnd {l : List UInt8} {t : Tag} {n k : Nat} (h : readS l = .ok (t, n, k)) (hn : l.length - k < n) : oneS l = .error 3 := by unfold oneS; rw [h]; exact if_pos hn
theorem oneOk {l : List UInt8} {t : Tag} {n k : Nat} (h : readS l = .ok (t, n, k)) (hn : ¬ l.length - k < n) : oneS l = .ok (t, k, k + n) := by unfold oneS; rw [h]; exact if_neg hn
theorem one_alone {y : List UInt8} {t : Tag} {k n : Nat} (h : oneS y = .ok (t, k, n)) (hn : ¬ n < y.length) : singleB y = true := by
  have hp := oneS_pos h
  have h0 : y ≠ [] := by
    intro e
    subst e
    simp [oneS, readS, readTagS] at h
  unfold singleB
  rw [allS_ok h0 h, List.drop_of_length_le (by omega), allS_nil]
  rfl
/-- The number in front of an oid's contents: the number, how many bytes it has. -/
def numberS : Nat → Nat → List UInt8 → Except Int (Nat × Nat)
  | _, _, [] => .error 6
  | i, n, x :: t => if i = 0 ∧ x.toNat = 128 then .error 6 else if 2147483647 < n * 128 + x.toNat % 128 then .error 2 else if x.toNat < 128 then .ok (n * 128 + x.toNat, i + 1) else numberS (i + 1) (n * 128 + x.toNat % 128) t
/-- A number more; of the first one come two. -/
def addS (o : List Int) (m : Nat) : List Int := if o = [] then (if m < 80 then [((m / 40 : Nat) : Int), ((m % 40 : Nat) : Int)] else [2, (m : Int) - 80]) else o ++ [(m : Int)]
/-- The numbers of an oid's contents, on the way. -/
def oidStS (o : List Int) (i n : Nat) : List UInt8 → Except Int (List Int)
  | [] => if i = 0 then .ok o else .error 6
  | x :: t => if i = 0 ∧ x.toNat = 128 then .error 6 else if 2147483647 < n * 128 + x.toNat % 128 then .error 2 else if x.toNat < 128 then (if o.length = 32 then .error 2 else oidStS (addS o (n * 128 + x.toNat)) 0 0 t) else oidStS o (i + 1) (n * 128 + x.toNat % 128) t
/-- The oid of contents. -/
def oidParseS (l : List UInt8) : Except Int (List Int) := if l = [] then .error 6 else oidStS [] 0 0 l
theorem oidSt_num (o : List Int) : ∀ (l : List UInt8) (i n : Nat), (i ≠ 0 ∨ l ≠ []) → oidStS o i n l = match numberS i n l with | .error e => .error e | .ok (m, k) => if o.length = 32 then .error 2 else oidStS (addS o m) 0 0 (l.drop (k - i))
  | [], i, n, h => by
    rcases h with h | h
    · simp [oidStS, numberS, h]
    · exact absurd rfl h
  | x :: t, i, n, _ => by
    simp only [oidStS, numberS]
    split
    · rfl
    split
    · rfl
    split
    · simp only [show i + 1 - i = 1 from by omega, List.drop_succ_cons, List.drop_zero]
    · have ih := oidSt_num o t (i + 1) (n * 128 + x.toNat % 128) (.inl (by omega))
      rw [ih]
      have hpos : ∀ (l : List UInt8) (i n m k : Nat), numberS i n l = .ok (m, k) → i < k := by
        intro l
        induction l with
        | nil => intro i n m k h; simp [numberS] at h
        | cons x t ih =>
          intro i n m k h
          simp only [numberS] at h
          split at h
          · cases h
          split at h
          · cases h
          split at h
          · simp only [Except.ok.injEq, Prod.mk.injEq] at h
            omega
          · have := ih _ _ _ _ h
            omega
      cases hn : numberS (i + 1) (n * 128 + x.toNat % 128) t with
      | error e => rfl
      | ok mk =>
        obtain ⟨m, k⟩ := mk
        have := hpos _ _ _ _ _ hn
        simp only [show k - i = (k - (i + 1)) + 1 from by omega, List.drop_succ_cons]
theorem numberS_back : ∀ (l : List UInt8) (i n m k : Nat), (i = 0 → n = 0) → (i ≠ 0 → n ≠ 0) → numberS i n l = .ok (m, k) → ∃ j, k = i + j ∧ base128 m = (up7 5 n).reverse ++ l.take j ∧ m ≤ 2147483647 ∧ 1 ≤ j ∧ j ≤ l.length
  | [], i, n, m, k, _, _, h => by simp [numberS] at h
  | x :: t, i, n, m, k, h1, h2, h => by
    have hx := x.toNat_lt
    simp only [numberS] at h
    split at h
    · cases h
    rename_i hf
    split at h
    · cases h
    rename_i hm
    split at h
    · rename_i hs
      simp only [Except.ok.injEq, Prod.mk.injEq] at h
      obtain ⟨rfl, rfl⟩ := h
      refine ⟨1, rfl, ?_, by omega, Nat.le_refl _, by simp⟩
      unfold base128
      rw [show (n * 128 + x.toNat) % 128 = x.toNat from by omega, show (n * 128 + x.toNat) / 128 = n from by omega, ofNat_eq rfl]
      simp
    · rename_i hs
      have hn' : n * 128 + x.toNat % 128 ≠ 0 := by
        rcases Nat.eq_zero_or_pos i with h0 | h0
        · have := h1 h0
          omega
        · have := h2 (by omega)
          omega
      obtain ⟨j, rfl, g1, g2, g3, g4⟩ := numberS_back t (i + 1) _ m k (fun h => by omega) (fun _ => hn') h
      refine ⟨j + 1, by omega, ?_, g2, by omega, by simp; omega⟩
      rw [g1]
      have e : up7 5 (n * 128 + x.toNat % 128) = x :: up7 5 n := by
        rw [up7, if_neg hn', show (n * 128 + x.toNat % 128) / 128 = n from by omega, ofNat_eq (x := x) (by omega), up7_ge 4 n (Nat.lt_of_le_of_lt (show n ≤ 16777216 by omega) (by decide))]
      rw [e]
      simp
/-- The bytes of the numbers so far. -/
def partBytes (o : List Int) : List UInt8 := if o = [] then [] else oidBytes o
def goodO (o : List Int) : Prop := o.length ≤ 32 ∧ (o = [] ∨ oidOk o = true)
theorem addS_good {o : List Int} (h : goodO o) (hl : o.length ≠ 32) {m : Nat} (hm : m ≤ 2147483647) : oidOk (addS o m) = true ∧ goodO (addS o m) ∧ partBytes (addS o m) = partBytes o ++ base128 m ∧ addS o m ≠ [] := by
  obtain ⟨h1, h2⟩ := h
  have key : oidOk (addS o m) = true ∧ (addS o m).length ≤ 32 ∧ partBytes (addS o m) = partBytes o ++ base128 m ∧ addS o m ≠ [] := by
    rcases h2 with rfl | h2
    · unfold addS
      rw [if_pos rfl]
      have hp : partBytes [] = [] := rfl
      rw [hp, List.nil_append]
      split
      · refine ⟨?_, by simp, ?_, by simp⟩
        · simp [oidOk, arcOk, twoOk]
          omega
        · unfold partBytes
          rw [if_neg (by simp)]
          simp only [oidBytes, Go.Proofs.YtgffhiopbnkjbaaGreatDoor.numsS, List.getD_cons_zero, List.getD_cons_succ, List.drop_succ_cons, List.drop_zero, List.flatMap_cons, List.flatMap_nil, List.append_nil]
          congr 1
          omega
      · refine ⟨?_, by simp, ?_, by simp⟩
        · simp [oidOk, arcOk, twoOk]
          omega
        · unfold partBytes
          rw [if_neg (by simp)]
          simp only [oidBytes, Go.Proofs.YtgffhiopbnkjbaaGreatDoor.numsS, List.getD_cons_zero, List.getD_cons_succ, List.drop_succ_cons, List.drop_zero, List.flatMap_cons, List.flatMap_nil, List.append_nil]
          congr 1
          omega
    · have h0 : o ≠ [] := by rintro rfl; simp [oidOk] at h2
      unfold oidOk at h2
      simp only [Bool.and_eq_true, decide_eq_true_eq] at h2
      obtain ⟨⟨⟨g1, g2⟩, g3⟩, g4⟩ := h2
      unfold addS
      rw [if_neg h0]
      obtain ⟨a, b, r, rfl⟩ : ∃ a b r, o = a :: b :: r := by
        match o, g1 with
        | a :: b :: r, _ => exact ⟨a, b, r, rfl⟩
        | [a], g1 => simp at g1
        | [], g1 => simp at g1
      have ha : arcOk (m : Int) = true := by unfold arcOk; exact decide_eq_true (by omega)
      simp only [List.length_cons] at g1 g2 hl h1
      refine ⟨?_, by simp; omega, ?_, by simp⟩
      · unfold oidOk
        simp only [Bool.and_eq_true, decide_eq_true_eq]
        refine ⟨⟨⟨by simp, by simp; omega⟩, ?_⟩, g4⟩
        rw [List.all_append, g3]
        simp [ha]
      · unfold partBytes
        rw [if_neg (by simp), if_neg (by simp)]
        simp only [oidBytes, Go.Proofs.YtgffhiopbnkjbaaGreatDoor.numsS, List.cons_append, List.getD_cons_zero, List.getD_cons_succ, List.drop_succ_cons, List.drop_zero, List.flatMap_cons, List.flatMap_append, List.flatMap_nil, List.append_nil, List.append_assoc, Int.toNat_natCast]
  exact ⟨key.1, ⟨key.2.1, .inr key.1⟩, key.2.2⟩
theorem oidSt_back : ∀ (f : Nat) (l : List UInt8) (o r : List Int), l.length ≤ f → goodO o → oidStS o 0 0 l = .ok r → goodO r ∧ partBytes r = partBytes o ++ l
  | 0, l, o, r, hf, ho, h => by
    obtain rfl : l = [] := List.length_eq_zero_iff.1 (by omega)
    simp only [oidStS, ↓reduceIte, Except.ok.injEq] at h
    subst h
    exact ⟨ho, by simp⟩
  | f + 1, [], o, r, hf, ho, h => by
    simp only [oidStS, ↓reduceIte, Except.ok.injEq] at h
    subst h
    exact ⟨ho, by simp⟩
  | f + 1, x :: t, o, r, hf, ho, h => by
    rw [oidSt_num o (x :: t) 0 0 (.inr (by simp))] at h
    cases hn : numberS 0 0 (x :: t) with
    | error e => rw [hn] at h; cases h
    | ok mk =>
      obtain ⟨m, k⟩ := mk
      rw [hn] at h
      simp only at h
      split at h
      · cases h
      rename_i hl
      obtain ⟨j, rfl, g1, g2, g3, g4⟩ := numberS_back _ 0 0 m k (fun _ => rfl) (fun h => absurd rfl h) hn
      rw [up7_zero, List.reverse_nil, List.nil_append] at g1
      rw [Nat.zero_add, Nat.sub_zero] at h
      obtain ⟨-, a2, a3, -⟩ := addS_good ho hl g2
      obtain ⟨b1, b2⟩ := oidSt_back f _ _ r (by rw [List.length_drop]; simp only [List.length_cons] at hf ⊢; omega) a2 h
      refine ⟨b1, ?_⟩
      rw [b2, a3, g1, List.append_assoc, List.take_append_drop]
theorem oidParse_back {l : List UInt8} {o : List Int} (h : oidParseS l = .ok o) : oidOk o = true ∧ oidBytes o = l := by
  unfold oidParseS at h
  split at h
  · cases h
  rename_i h0
  obtain ⟨h1, h2⟩ := oidSt_back l.length l [] o (Nat.le_refl _) ⟨by simp, .inl rfl⟩ h
  have h3 : partBytes [] = [] := rfl
  rw [h3, List.nil_append] at h2
  rcases h1.2 with rfl | h4
  · rw [h3] at h2
    exact absurd h2.symm h0
  · refine ⟨h4, ?_⟩
    rw [← h2]
    unfold partBytes
    rw [if_neg (by rintro rfl; simp [oidOk] at h4)]
/-- The next oid: it, and how many bytes it has. -/
def oidReadS (l : List UInt8) : Except Int (List Int × Nat) :=
  match openS (tagOf 6) l with
  | .error e => .error e
  | .ok (x, k) => match oidParseS x with
    | .error e => .error e
    | .ok o => .ok (o, k)
theorem tag6 : tagGood (tagOf 6) := ⟨by decide, by decide⟩
theorem tag16 : tagGood (tagOf 16) := ⟨by decide, by decide⟩
theorem tag17 : tagGood (tagOf 17) := ⟨by decide, by decide⟩
theorem oidRead_back {l : List UInt8} {o : List Int} {k : Nat} (h : oidReadS l = .ok (o, k)) : oidOk o = true ∧ l.take k = oidWhole o ∧ k ≤ l.length ∧ 1 ≤ k := by
  unfold oidReadS at h
  split at h
  · cases h
  rename_i x k' hx
  split at h
  · cases h
  rename_i o' ho
  simp only [Except.ok.injEq, Prod.mk.injEq] at h
  obtain ⟨rfl, rfl⟩ := h
  obtain ⟨h1, h2, h3, h4⟩ := open_back hx tag6
  obtain ⟨g1, g2⟩ := oidParse_back ho
  refine ⟨g1, ?_, h3, by omega⟩
  rw [h1, oidWhole, g2]
/-- The next part: it, and how many bytes it has. -/
def partReadS (l : List UInt8) : Except Int (Part × Nat) :=
  match openS (tagOf 16) l with
  | .error e => .error e
  | .ok (y, m) => match oidReadS y with
    | .error e => .error e
    | .ok (o, q) => match oneS (y.drop q) with
      | .error e => .error e
      | .ok (_, _, n) => if n < y.length - q then .error 7 else .ok (⟨o, y.drop q⟩, m)
theorem partRead_back {l : List UInt8} {p : Part} {m : Nat} (h : partReadS l = .ok (p, m)) : attrS p.o p.b = some (l.take m) ∧ m ≤ l.length ∧ 1 ≤ m ∧ p.b.length ≤ l.length := by
  unfold partReadS at h
  split at h
  · cases h
  rename_i y m' hy
  split at h
  · cases h
  rename_i o q ho
  split at h
  · cases h
  rename_i t k n hn
  split at h
  · cases h
  rename_i hne
  simp only [Except.ok.injEq, Prod.mk.injEq] at h
  obtain ⟨rfl, rfl⟩ := h
  obtain ⟨h1, h2, h3, h4⟩ := open_back hy tag16
  obtain ⟨g1, g2, g3, g4⟩ := oidRead_back ho
  have hs := one_alone hn (by rw [List.length_drop]; exact hne)
  refine ⟨?_, h3, by omega, by simp only [List.length_drop]; omega⟩
  unfold attrS
  rw [g1, hs, if_pos (show (true && true) = true from rfl), h1, ← g2, List.take_append_drop]
/-- The parts of a step, on the way. -/
def rdnGoS : Nat → List Part → List UInt8 → List UInt8 → Except Int (List Part)
  | _, out, _, [] => if out.length = 0 then .error 6 else .ok out
  | 0, _, _, _ :: _ => .error 3
  | f + 1, out, last, x :: t =>
    if out.length = 16 then .error 2 else
    match partReadS (x :: t) with
    | .error e => .error e
    | .ok (p, m) => if out.length ≠ 0 ∧ cmpS last ((x :: t).take m) = 0 then .error 10 else if out.length ≠ 0 ∧ 0 < cmpS last ((x :: t).take m) then .error 9 else rdnGoS f (out ++ [p]) ((x :: t).take m) ((x :: t).drop m)
theorem rdnGo_fuel : ∀ (f g : Nat) (out : List Part) (last l : List UInt8), l.length ≤ f → l.length ≤ g → rdnGoS f out last l = rdnGoS g out last l := by
  intro f
  induction f with
  | zero =>
    intro g out last l h _
    obtain rfl : l = [] := List.length_eq_zero_iff.1 (by omega)
    cases g <;> rfl
  | succ f ih =>
    intro g out last l h h2
    cases l with
    | nil => cases g <;> rfl
    | cons x t =>
      simp only [List.length_cons] at h h2
      obtain ⟨g, rfl⟩ : ∃ g', g = g' + 1 := ⟨g - 1, by omega⟩
      simp only [rdnGoS]
      cases hp : partReadS (x :: t) with
      | error e => rfl
      | ok v =>
        obtain ⟨p, m⟩ := v
        have hb := partRead_back hp
        have hl : ((x :: t).drop m).length ≤ t.length := by simp only [List.length_drop, List.length_cons]; omega
        simp only
        rw [ih g _ _ _ (by omega) (by omega)]
/-- What the rest of a step gives. -/
def rdnSt (out : List Part) (last l : List UInt8) : Except Int (List Part) := rdnGoS l.length out last l
theorem rdnSt_end (out : List Part) (last : List UInt8) : rdnSt out last [] = if out.length = 0 then .error 6 else .ok out := rfl
theorem rdnSt_full {out : List Part} {last l : List UInt8} (h0 : l ≠ []) (h : out.length = 16) : rdnSt out last l = .error 2 := by
  cases l with
  | nil => exact absurd rfl h0
  | cons x t => simp only [rdnSt, List.length_cons, rdnGoS, if_pos h]
theorem rdnSt_err {out : List Part} {last l : List UInt8} {e : Int} (h0 : l ≠ []) (h : out.length ≠ 16) (hp : partReadS l = .error e) : rdnSt out last l = .error e := by
  cases l with
  | nil => exact absurd rfl h0
  | cons x t => simp only [rdnSt, List.length_cons, rdnGoS, if_neg h, hp]
theorem rdnSt_ok {out : List Part} {last l : List UInt8} {p : Part} {m : Nat} (h : out.length ≠ 16) (hp : partReadS l = .ok (p, m)) : rdnSt out last l = if out.length ≠ 0 ∧ cmpS last (l.take m) = 0 then .error 10 else if out.length ≠ 0 ∧ 0 < cmpS last (l.take m) then .error 9 else rdnSt (out ++ [p]) (l.take m) (l.drop m) := by
  have hb := partRead_back hp
  cases l with
  | nil => simp at hb; omega
  | cons x t =>
    simp only [rdnSt, List.length_cons, rdnGoS, if_neg h, hp]
    rw [rdnGo_fuel t.length ((x :: t).drop m).length _ _ _ (by simp only [List.length_drop, List.length_cons]; omega) (Nat.le_refl _)]
/-- The next step: it, and how many bytes it has. -/
def rdnReadS (l : List UInt8) : Except Int (List Part × Nat) :=
  match openS (tagOf 17) l with
  | .error e => .error e
  | .ok (x, k) => match rdnSt [] [] x with
    | .error e => .error e
    | .ok r => .ok (r, k)
theorem rdnRead_len {l : List UInt8} {r : List Part} {k : Nat} (h : rdnReadS l = .ok (r, k)) : k ≤ l.length ∧ 1 ≤ k := by
  unfold rdnReadS at h
  split at h
  · cases h
  rename_i x k' hx
  split at h
  · cases h
  simp only [Except.ok.injEq, Prod.mk.injEq] at h
  obtain ⟨-, rfl⟩ := h
  obtain ⟨-, -, h3, h4⟩ := open_back hx tag17
  exact ⟨h3, by omega⟩
/-- The steps of a name, on the way. -/
def nameGoS : Nat → List (List Part) → List UInt8 → Except Int (List (List Part))
  | _, out, [] => .ok out
  | 0, _, _ :: _ => .error 3
  | f + 1, out, x :: t =>
    if out.length = 64 then .error 2 else
    match rdnReadS (x :: t) with
    | .error e => .error e
    | .ok (r, k) => nameGoS f (out ++ [r]) ((x :: t).drop k)
theorem nameGo_fuel : ∀ (f g : Nat) (out : List (List Part)) (l : List UInt8), l.length ≤ f → l.length ≤ g → nameGoS f out l = nameGoS g out l := by
  intro f
  induction f with
  | zero =>
    intro g out l h _
    obtain rfl : l = [] := List.length_eq_zero_iff.1 (by omega)
    cases g <;> rfl
  | succ f ih =>
    intro g out l h h2
    cases l with
    | nil => cases g <;> rfl
    | cons x t =>
      simp only [List.length_cons] at h h2
      obtain ⟨g, rfl⟩ : ∃ g', g = g' + 1 := ⟨g - 1, by omega⟩
      simp only [nameGoS]
      cases hp : rdnReadS (x :: t) with
      | error e => rfl
      | ok v =>
        obtain ⟨p, m⟩ := v
        have hb := rdnRead_len hp
        have hl : ((x :: t).drop m).length ≤ t.length := by simp only [List.length_drop, List.length_cons]; omega
        simp only
        rw [ih g _ _ (by omega) (by omega)]
def nameSt (out : List (List Part)) (l : List UInt8) : Except Int (List (List Part)) := nameGoS l.length out l
theorem nameSt_full {out : List (List Part)} {l : List UInt8} (h0 : l ≠ []) (h : out.length = 64) : nameSt out l = .error 2 := by
  cases l with
  | nil => exact absurd rfl h0
  | cons x t => simp only [nameSt, List.length_cons, nameGoS, if_pos h]
theorem nameSt_err {out : List (List Part)} {l : List UInt8} {e : Int} (h0 : l ≠ []) (h : out.length ≠ 64) (hp : rdnReadS l = .error e) : nameSt out l = .error e := by
  cases l with
  | nil => exact absurd rfl h0
  | cons x t => simp only [nameSt, List.length_cons, nameGoS, if_neg h, hp]
theorem nameSt_ok {out : List (List Part)} {l : List UInt8} {r : List Part} {k : Nat} (h : out.length ≠ 64) (hp : rdnReadS l = .ok (r, k)) : nameSt out l = nameSt (out ++ [r]) (l.drop k) := by
  have hb := rdnRead_len hp
  cases l with
  | nil => simp at hb; omega
  | cons x t =>
    simp only [nameSt, List.length_cons, nameGoS, if_neg h, hp]
    exact nameGo_fuel t.length ((x :: t).drop k).length _ _ (by simp only [List.length_drop, List.length_cons]; omega) (Nat.le_refl _)
/-- The next name: it, and how many bytes it has. -/
def nameReadS (l : List UInt8) : Except Int (List (List Part) × Nat) :=
  match openS (tagOf 16) l with
  | .error e => .error e
  | .ok (x, k) => match nameSt [] x with
    | .error e => .error e
    | .ok n => .ok (n, k)
/-- The name of bytes. -/
def nameParseS (l : List UInt8) : Except Int (List (List Part)) :=
  match nameReadS l with
  | .error e => .error e
  | .ok (n, k) => if k < l.length then .error 7 else .ok n
end Go.Q

namespace Go.Q
open Go Go.RowKit
theorem numberS_nz : ∀ {l : List UInt8} {i n : Nat} {x : Int}, numberS i n l = .error x → x ≠ 0
  | [], i, n, x, h => by simp only [numberS, Except.error.injEq] at h; omega
  | y :: t, i, n, x, h => by
    simp only [numberS] at h
    split at h
    · cases h; decide
    split at h
    · cases h; decide
    split at h
    · cases h
    · exact numberS_nz h
theorem oidStS_nz : ∀ {l : List UInt8} {o : List Int} {i n : Nat} {x : Int}, oidStS o i n l = .error x → x ≠ 0
  | [], o, i, n, x, h => by
    simp only [oidStS] at h
    split at h
    · cases h
    · cases h; decide
  | y :: t, o, i, n, x, h => by
    simp only [oidStS] at h
    split at h
    · cases h; decide
    split at h
    · cases h; decide
    split at h
    · split at h
      · cases h; decide
      · exact oidStS_nz h
    · exact oidStS_nz h
theorem oidParse_nz {l : List UInt8} {x : Int} (h : oidParseS l = .error x) : x ≠ 0 := by
  unfold oidParseS at h
  split at h
  · cases h; decide
  · exact oidStS_nz h
theorem oidRead_nz {l : List UInt8} {x : Int} (h : oidReadS l = .error x) : x ≠ 0 := by
  unfold oidReadS at h
  split at h
  · rename_i hx
    cases h
    exact openS_nz hx
  · split at h
    · rename_i hx
      cases h
      exact oidParse_nz hx
    · cases h
end Go.Q
namespace Go.Proofs.YtgffhiopbnkjbaaGreatDoor
open Go Go.RowKit Go.Q
set_option linter.unusedSimpArgs false

/-- What next gives. -/
def nextOut (w' : World) (c : Nat) (K : Nat → Prop) (bs : List UInt8) (p : Nat) (r : Except Int (Nat × Nat)) (e : Ending) : Prop :=
  match r with
  | .ok (m, k) => e = .returned (.tuple #[.int .i64 m, .int .i64 0]) ∧ CurAt w' c K bs (p + k)
  | .error x => e = .returned (.tuple #[.int .i64 0, .int .i64 x]) ∧ ∃ q, p ≤ q ∧ CurAt w' c K bs q

set_option maxRecDepth 20000 in
set_option maxHeartbeats 2000000 in
theorem oidNext_any {w : World} {c : Nat} {K : Nat → Prop} {bs : List UInt8} {p : Nat} (h : CurAt w c K bs p) :
    Calls Tryz.prog 228 #[pt c] w fun e w' => nextOut w' c K bs p (numberS 0 0 (bs.drop p)) e ∧ Fr (fun k => k = c) w w' := by
  have H := Lib.hid h
  have hple := h.le
  clear h
  go_enter Tryz.func228, Tryz.ntmps228
  go_wp2_with fail
  go_loopg [4, 5] (bs.length - p) (fun g n i wr => ∃ (k m : Nat), g = bs.length - p - k ∧ m ≤ 2147483647 ∧ n = .int .i64 m ∧ i = .int .i64 k ∧ CurAt wr c K bs (p + k) ∧ Fr (fun k => k = c) w wr ∧ numberS 0 0 (bs.drop p) = numberS k m (bs.drop (p + k)))
  case atStart => exact ⟨0, 0, rfl, by omega, rfl, rfl, H.out, Fr.refl _, rfl⟩
  case round =>
    obtain ⟨k, m, hg, hm, rfl, rfl, hC, hF, hN⟩ := hrel
    have HG := Lib.hid hg
    have HC := Lib.hid hC
    have HN := Lib.hid hN
    have hcle := hC.le
    have hcsm := hC.small
    clear hg hC hN
    cases hd : bs.drop (p + k) with
    | nil =>
      have HD := Lib.hid hd
      clear hd
      go_wp2_with fail
      refine (byte_end HC.out HD.out).mono ?_
      rintro e w1 ⟨rfl, F1⟩
      go_wp2_with fail
      have hN := HN.out
      rw [HD.out] at hN
      simp only [numberS] at hN
      refine bodyPost_ret (v := .tuple #[.int .i64 0, .int .i64 6]) (by simp [results, Tryz.results228, go_sem]) rfl ⟨?_, hF.trans (F1.mono (fun _ _ h => h.elim))⟩
      rw [hN]
      exact ⟨rfl, _, Nat.le_add_right _ _, HC.out.old F1⟩
    | cons x t =>
      have HD := Lib.hid hd
      have hdl : (bs.drop (p + k)).length = t.length + 1 := by rw [hd]; rfl
      rw [List.length_drop] at hdl
      have hd2 : bs.drop (p + (k + 1)) = t := by
        rw [← Nat.add_assoc, ← List.drop_drop, hd]; rfl
      have HD2 := Lib.hid hd2
      clear hd hd2 hdl
      go_wp2_with fail
      refine (byte_on HC.out HD.out).mono ?_
      rintro e w1 ⟨rfl, C1, F1⟩
      have hx : x.toNat < 256 := x.toNat_lt
      have hN := HN.out
      rw [HD.out] at hN
      simp only [numberS] at hN
      have HC1 := Lib.hid C1
      have HF1 := Lib.hid (hF.trans F1)
      clear C1 hF F1 HC
      by_cases h3 : k = 0 ∧ x.toNat = 128
      · rw [if_pos h3] at hN
        have HN2 := Lib.hid hN
        obtain ⟨rfl, h128⟩ := h3
        have h128' : (x.toNat : Int) = 128 := by omega
        clear hN HN
        go_wp2_with fail
        refine bodyPost_ret (v := .tuple #[.int .i64 0, .int .i64 6]) (by simp [results, Tryz.results228, go_sem]) rfl ⟨?_, HF1.out⟩
        rw [HN2.out]
        exact ⟨rfl, _, by omega, HC1.out⟩
      · rw [if_neg h3] at hN
        obtain ⟨r, hr⟩ : ∃ r, r = x.toNat % 128 := ⟨_, rfl⟩
        have hr2 : r < 128 := by omega
        have hb1 : bits .and .u8 (x.toNat : Int) 127 = (r : Int) := by rw [hr]; exact and127 x
        obtain ⟨v, hv⟩ : ∃ v, v = m * 128 + r := ⟨_, rfl⟩
        have hb2 : bits .or .i64 ((m : Int) * 128) (r : Int) = (v : Int) := by rw [hv]; exact or7 m r (by omega) hr2
        have hw1 : wrap64 ((m : Int) * 128) = (m : Int) * 128 := by unfold wrap64; omega
        have hw2 : wrap64 (r : Int) = (r : Int) := wrap_nat r (by omega)
        rw [← hr, ← hv] at hN
        have HN2 := Lib.hid hN
        have HW := Lib.hid (And.intro hb1 (And.intro hb2 (And.intro hw1 hw2)))
        clear hb1 hb2 hw1 hw2 hN HN
        have hxv : x.toNat < 128 → m * 128 + x.toNat = v := fun h => by omega
        have HXV := Lib.hid hxv
        clear hr hv hxv
        rcases Classical.em (k = 0) with h0 | h0
        case' inl =>
          have h128' : ¬ (x.toNat : Int) = 128 := by omega
          have hk0 : ((k : Int) == 0) = true := by simpa using h0
        case' inr =>
          have hk0 : ((k : Int) == 0) = false := by simpa using h0
        all_goals
          by_cases hvm : 2147483647 < v
          · have hv31 : (2147483647 : Int) < (v : Int) := by omega
            have hE := HN2.out
            rw [if_pos hvm] at hE
            have HE := Lib.hid hE
            clear hE HN2 hvm hm
            go_upto_region 8 with fail
            simp only [HW.out.1, HW.out.2.2.1, HW.out.2.2.2, HW.out.2.1]
            go_wp2_with fail
            refine bodyPost_ret (v := .tuple #[.int .i64 0, .int .i64 2]) (by simp [results, Tryz.results228, go_sem]) rfl ⟨?_, HF1.out⟩
            rw [HE.out]
            exact ⟨rfl, _, by omega, HC1.out⟩
          · have hv31 : ¬ (2147483647 : Int) < (v : Int) := by omega
            have hE := HN2.out
            rw [if_neg hvm] at hE
            by_cases hx7 : x.toNat < 128
            · have hx8 : (x.toNat : Int) < 128 := by omega
              rw [if_pos hx7, HXV.out hx7] at hE
              have HE := Lib.hid hE
              clear hE HN2 hvm hm
              go_upto_region 8 with fail
              simp only [HW.out.1, HW.out.2.2.1, HW.out.2.2.2, HW.out.2.1]
              go_wp2_with fail
              refine bodyPost_ret (v := .tuple #[.int .i64 v, .int .i64 0]) (by simp [results, Tryz.results228, go_sem]) rfl ⟨?_, HF1.out⟩
              rw [HE.out]
              exact ⟨rfl, HC1.out⟩
            · have hx8 : ¬ (x.toNat : Int) < 128 := by omega
              rw [if_neg hx7] at hE
              have HE := Lib.hid hE
              clear hE HN2 hvm hm
              go_upto_region 8 with fail
              simp only [HW.out.1, HW.out.2.2.1, HW.out.2.2.2, HW.out.2.1]
              go_wp2_with fail
              go_roundg (bs.length - p - (k + 1))
              case measure => rw [HG.out]; have := HC1.out.le; omega
              case rel => exact ⟨k + 1, v, rfl, by omega, rfl, by go_num, HC1.out, HF1.out, by rw [HE.out, HD2.out]⟩

set_option maxRecDepth 20000 in
theorem oidSplit_any (m : Nat) (hm : m ≤ 2147483647) (w : World) :
    Calls Tryz.prog 229 #[.int .i64 m] w fun e w' => ∃ a c, e = .returned (.slice a 2 c) ∧ w'.ownsRow w.heap.size 3 1 (.slice a 2 c) 2 (intCells (addS [] m)) ∧ Fr (fun _ => False) w w' := by
  have HA := Lib.hid (show addS [] m = if m < 80 then [((m / 40 : Nat) : Int), ((m % 40 : Nat) : Int)] else [2, (m : Int) - 80] from rfl)
  have hq : (m : Int) / 40 = ((m / 40 : Nat) : Int) := by omega
  have hr : (m : Int) % 40 = ((m % 40 : Nat) : Int) := by omega
  generalize m / 40 = mq at *
  generalize m % 40 = mr at *
  by_cases h8 : m < 80
  · have q1 : (m : Int) < 80 := by omega
    have hA := HA.out
    rw [if_pos h8] at hA
    have HA2 := Lib.hid hA
    clear hA HA
    go_enter Tryz.func229, Tryz.ntmps229
    go_wp2_with fail
    go_ret
    rw [HA2.out]
    exact ⟨_, 2, rfl, own_block (Blk.new w 3 #[.int .i64 mq, .int .i64 mr]) 2 (Nat.le_refl _) (by unfold maxLen; simp) _ (Nat.le_refl _), (Fr.refl w).alloc _⟩
  · have q1 : ¬ (m : Int) < 80 := by omega
    have hA := HA.out
    rw [if_neg h8] at hA
    have HA2 := Lib.hid hA
    clear hA HA hq hr
    go_enter Tryz.func229, Tryz.ntmps229
    go_wp2_with fail
    go_ret
    rw [HA2.out]
    exact ⟨_, 2, rfl, own_block (Blk.new w 3 #[.int .i64 2, .int .i64 ((m : Int) - 80)]) 2 (Nat.le_refl _) (by unfold maxLen; simp) _ (Nat.le_refl _), (Fr.refl w).alloc _⟩

/-- What Parse gives. -/
def oidParseOut (w w' : World) (r : Except Int (List Int)) (e : Ending) : Prop :=
  match r with
  | .ok o => ∃ a c, e = .returned (.tuple #[.slice a o.length c, .int .i64 0]) ∧ w'.ownsRow w.heap.size 3 1 (.slice a o.length c) o.length (intCells o)
  | .error x => e = .returned (.tuple #[.slice none 0 0, .int .i64 x])
theorem addS_snoc {o : List Int} (h : o ≠ []) (m : Nat) : addS o m = o ++ [(m : Int)] := if_neg h

set_option maxRecDepth 20000 in
set_option maxHeartbeats 2000000 in
theorem oidParse_any (v : Value) (l : List UInt8) (w : World) (h : Bytes w v l) (hl : l.length ≤ 1099511627776) :
    Calls Tryz.prog 179 #[v] w fun e w' => oidParseOut w w' (oidParseS l) e ∧ Fr (fun _ => False) w w' := by
  have hN := Lib.hid (new_any w v l h hl)
  have HP := Lib.hid (show oidParseS l = if l = [] then .error 6 else oidStS [] 0 0 l from rfl)
  clear h
  go_enter Tryz.func179, Tryz.ntmps179
  go_wp2_with fail
  refine hN.out.mono ?_
  rintro e w1 ⟨rfl, C1, F1⟩
  obtain ⟨c, hc⟩ : ∃ c, c = w.heap.size := ⟨_, rfl⟩
  have HX := Lib.hid (oidNext_any C1)
  have HF1 := Lib.hid F1
  rw [← hc] at HX C1 ⊢
  have hs1 := F1.size
  have hc1 := C1.lt
  have HC := Lib.hid hc
  clear C1 F1 hN hc
  go_wp2_with fail
  refine HX.out.mono ?_
  rintro e w2 ⟨hout, F2⟩
  rw [List.drop_zero] at hout
  have HF2 := Lib.hid (HF1.out.trans' F2 (fun i hi e => absurd hi (by rw [e, HC.out]; exact Nat.lt_irrefl _)))
  have hs2 := F2.size
  clear F2 HX HF1
  unfold nextOut at hout
  cases hn : numberS 0 0 l with
  | error x =>
    rw [hn] at hout
    obtain ⟨rfl, -⟩ := hout
    have hx := numberS_nz hn
    have hx1 : (x == 0) = false := beq_eq_false_iff_ne.2 hx
    have hx2 : (x != 0) = true := by simpa using hx
    have hr : oidParseS l = .error x := by
      rw [HP.out]
      cases l with
      | nil => rw [if_pos rfl]; simp only [numberS] at hn; cases hn; rfl
      | cons y t => rw [if_neg (by simp), oidSt_num [] _ 0 0 (.inr (by simp)), hn]
    have HR := Lib.hid hr
    clear hn hr hx HP
    go_wp2_with fail
    refine bodyPost_ret (v := .tuple #[.slice none 0 0, .int .i64 x]) (by simp [results, Tryz.results179, go_sem]) rfl ⟨?_, HF2.out⟩
    rw [HR.out]
    exact rfl
  | ok mk =>
    obtain ⟨m, k⟩ := mk
    rw [hn] at hout
    obtain ⟨rfl, C2⟩ := hout
    obtain ⟨j, hj, -, hm, hj1, hjl⟩ := numberS_back _ 0 0 m k (fun _ => rfl) (fun h => absurd rfl h) hn
    have hl0 : l ≠ [] := by rintro rfl; simp at hjl; omega
    have hst : oidParseS l = oidStS (addS [] m) 0 0 (l.drop k) := by
      rw [HP.out, if_neg hl0, oidSt_num [] _ 0 0 (.inr hl0), hn]
      simp only [List.length_nil]
      rw [if_neg (by omega), Nat.sub_zero]
    have hal : (addS [] m).length = 2 := by unfold addS; rw [if_pos rfl]; split <;> rfl
    obtain ⟨o2, ho2⟩ : ∃ o, o = addS [] m := ⟨_, rfl⟩
    have HS2 := Lib.hid (oidSplit_any m hm w2)
    rw [← ho2] at hst hal HS2
    rw [Nat.zero_add] at C2
    have hc2 := C2.lt
    have HST := Lib.hid hst
    have HAL := Lib.hid hal
    have HC2 := Lib.hid C2
    have hle2 := C2.le
    clear C2 hst hal ho2 hn hj hjl hl0 HP
    go_wp2_with fail
    refine HS2.out.mono ?_
    rintro e w3 ⟨a2, c2, rfl, hown, F3⟩
    have HO3 := Lib.hid hown
    have HC3 := Lib.hid ((HC2.out.step (K' := fun k => k < w.heap.size ∨ w2.heap.size ≤ k) (Fr.refl w2) (S := fun _ => False) (fun _ _ h => h.elim) (fun k hk => by have := HC.out; omega)).old F3)
    have HF3 := Lib.hid (HF2.out.trans F3)
    have hs3 := F3.size
    clear hown F3 HF2 HC2 HS2
    go_wp2_with fail
    go_loopg [7] (l.length - k) (fun g u wr => ∃ (o : List Int) (q : Nat) (a : Option Addr) (cc : Nat), g = l.length - q ∧ q ≤ l.length ∧ o.length ≤ 32 ∧ 2 ≤ o.length ∧ u = .slice a o.length cc ∧ wr.ownsRow w2.heap.size 3 1 (.slice a o.length cc) o.length (intCells o) ∧ CurAt wr c (fun k => k < w.heap.size ∨ w2.heap.size ≤ k) l q ∧ Fr (fun _ => False) w wr ∧ w2.heap.size ≤ wr.heap.size ∧ oidParseS l = oidStS o 0 0 (l.drop q))
    case atStart => exact ⟨o2, k, a2, c2, rfl, hle2, by rw [HAL.out]; omega, by rw [HAL.out]; exact Nat.le_refl _, by rw [HAL.out], by rw [HAL.out]; exact HO3.out, HC3.out, HF3.out, hs3, HST.out⟩
    case round =>
      obtain ⟨o, q, a, cc, hg, hq, ho32, ho2, rfl, hown, hC, hF, hsz, hR⟩ := hrel
      have HG := Lib.hid hg
      have HOW := Lib.hid hown
      have HCC := Lib.hid hC
      have HF := Lib.hid hF
      have HR := Lib.hid hR
      have HL := Lib.hid (left_any hC)
      clear hg hown hC hF hR
      by_cases hql : q < l.length
      · have q1 : (0 : Int) < ((l.length - q : Nat) : Int) := by omega
        obtain ⟨lq, hlq⟩ : ∃ lq, lq = l.length - q := ⟨_, rfl⟩
        rw [← hlq] at q1 HL HG
        have HLQ := Lib.hid hlq
        clear hlq
        go_wp2_with fail
        refine HL.out.mono ?_
        rintro e w4 ⟨rfl, F4⟩
        have HC4 := Lib.hid (HCC.out.old F4)
        have HX := Lib.hid (oidNext_any HC4.out)
        have HF4 := Lib.hid (HF.out.trans F4)
        have HO4 := Lib.hid (ownsRow_fr HOW.out F4 (fun _ _ h => h))
        have hs4 := F4.size
        clear F4 HCC HF HOW HL
        go_wp2_with fail
        refine HX.out.mono ?_
        rintro e w5 ⟨hout, F5⟩
        have HF5 := Lib.hid (HF4.out.trans' F5 (fun i hi e => absurd hi (by rw [e, HC.out]; exact Nat.lt_irrefl _)))
        have HO5 := Lib.hid (ownsRow_fr HO4.out F5 (fun k hk e => by have := ((Vals.of_own HO4.out).2 k hk).1; omega))
        have hs5 := F5.size
        unfold nextOut at hout
        have hd0 : l.drop q ≠ [] := by
          intro e
          have := congrArg List.length e
          rw [List.length_drop, List.length_nil] at this
          omega
        have hst := oidSt_num o (l.drop q) 0 0 (.inr hd0)
        clear F5 HF4 HO4 HX hd0
        cases hn : numberS 0 0 (l.drop q) with
        | error x =>
          rw [hn] at hout hst
          obtain ⟨rfl, -⟩ := hout
          have hx := numberS_nz hn
          have hx1 : (x == 0) = false := beq_eq_false_iff_ne.2 hx
          have hx2 : (x != 0) = true := by simpa using hx
          have HR2 := Lib.hid (HR.out.trans hst)
          clear hn hx hst
          go_wp2_with fail
          refine bodyPost_ret (v := .tuple #[.slice none 0 0, .int .i64 x]) (by simp [results, Tryz.results179, go_sem]) rfl ⟨?_, HF5.out⟩
          rw [HR2.out]
          exact rfl
        | ok mk =>
          obtain ⟨m2, k2⟩ := mk
          rw [hn] at hout hst
          obtain ⟨rfl, C5⟩ := hout
          obtain ⟨j2, hj2, -, hm2, hj3, hjl2⟩ := numberS_back _ 0 0 m2 k2 (fun _ => rfl) (fun h => absurd rfl h) hn
          have HR2 := Lib.hid (HR.out.trans hst)
          rw [Nat.zero_add] at hj2
          subst hj2
          have hk2 := C5.le
          have HC5 := Lib.hid C5
          have hql2 : l.length - (q + k2) < l.length - q := by omega
          have HQ := Lib.hid hql2
          clear hn hst C5 HC4 hm2 hjl2 hql2
          by_cases h32 : o.length = 32
          · have q3 : ((o.length : Int) == 32) = true := by rw [h32]; rfl
            have q4 : (o.length == 32) = true := by rw [h32]; rfl
            have hr := HR2.out
            simp only [h32, ↓reduceIte] at hr
            have HR3 := Lib.hid hr
            clear hr HR2 h32
            go_wp2_with fail
            refine bodyPost_ret (v := .tuple #[.slice none 0 0, .int .i64 2]) (by simp [results, Tryz.results179, go_sem]) rfl ⟨?_, HF5.out⟩
            rw [HR3.out]
            exact rfl
          · have q3 : ((o.length : Int) == 32) = false := beq_eq_false_iff_ne.2 (by omega)
            have q4 : (o.length == 32) = false := beq_eq_false_iff_ne.2 (by omega)
            have hr := HR2.out
            have hlt : o.length + 1 ≤ 32 := by omega
            simp only [h32, ↓reduceIte, Nat.sub_zero] at hr
            rw [addS_snoc (by rintro rfl; simp at ho2), List.drop_drop] at hr
            have HR3 := Lib.hid hr
            obtain ⟨a7, c7, w7, hrun, ho7, F7, hw7⟩ := add_int HO5.out (Nat.le_trans hsz (Nat.le_trans hs4 hs5)) (by omega) (m2 : Int) w5.heap.size ((Fr.refl w5).alloc (.cells #[.int .i64 m2] 3)) (Blk.new w5 3 #[.int .i64 m2])
            have hkp := (Vals.of_own HO5.out).2
            have HC7 := Lib.hid (HC5.out.step (K' := fun k => k < w.heap.size ∨ w2.heap.size ≤ k) F7 (fun k hk e => .inr (hkp k e).1) (fun k hk => .inl hk))
            have HF7 := Lib.hid (HF5.out.trans' F7 (fun i hi e => absurd hi (by have := (hkp i e).1; omega)))
            have hs7 := F7.size
            have HRUN := Lib.hid hrun
            have HO7 := Lib.hid ho7
            clear hr HR2 h32 hrun ho7 F7 hw7 hkp HC5
            go_wp2_with (at_builtin; refine wpList_append_run (by rfl) (.tmp 36) (.tmp 38) 22 (by rfl) _ w7 (by exact HRUN.out) ?_)
            go_roundg (l.length - (q + k2))
            case measure => rw [HG.out, HLQ.out]; exact HQ.out
            case rel => exact ⟨o ++ [(m2 : Int)], q + k2, a7, c7, rfl, hk2, by rw [List.length_append]; exact hlt, by rw [List.length_append]; omega, by rw [List.length_append]; rfl, by rw [List.length_append]; exact HO7.out, HC7.out, HF7.out, by omega, HR3.out⟩
      · obtain rfl : q = l.length := by omega
        have q1 : ¬ (0 : Int) < ((l.length - l.length : Nat) : Int) := by omega
        have hr := HR.out
        rw [List.drop_length] at hr
        simp only [oidStS, ↓reduceIte] at hr
        have HR2 := Lib.hid hr
        rw [Nat.sub_self] at HL
        clear hr HR q1
        go_wp2_with fail
        refine HL.out.mono ?_
        rintro e w4 ⟨rfl, F4⟩
        have HF4 := Lib.hid (HF.out.trans F4)
        have HO4 := Lib.hid (own_le (ownsRow_fr HOW.out F4 (fun _ _ h => h)) (Nat.le_trans hs1 hs2))
        clear F4 HF HOW HL
        go_wp2_with fail
        refine bodyPost_ret (v := .tuple #[.slice a o.length cc, .int .i64 0]) (by simp [results, Tryz.results179, go_sem]) rfl ⟨?_, HF4.out⟩
        rw [HR2.out]
        exact ⟨a, cc, rfl, HO4.out⟩
end Go.Proofs.YtgffhiopbnkjbaaGreatDoor

namespace Go.Proofs.YtgffhiopbnkjbaaGreatDoor
open Go Go.RowKit Go.Q
set_option linter.unusedSimpArgs false

set_option maxRecDepth 20000 in
theorem r02Of_any (n : Int) (w : World) :
    Calls Tryz.prog 15 #[.int .i64 n] w fun e w' => e = .returned (tagV (tagOf n)) ∧ Fr (fun _ => False) w w' := by
  rcases Classical.em (n = 16) with h | h
  case' inl => subst h
  case' inr => have h16 : (n == 16) = false := beq_eq_false_iff_ne.2 h
  case' inl =>
    go_enter Tryz.func15, Tryz.ntmps15
    go_wp2_with fail
    exact bodyPost_ret (v := tagV ⟨0, 16, true⟩) (by simp [results, Tryz.results15, go_sem, tagV]) rfl ⟨rfl, (Fr.refl w).alloc _⟩
  case' inr =>
    go_enter Tryz.func15, Tryz.ntmps15
    go_wp2_with fail
    exact bodyPost_ret (v := tagV ⟨0, n, n == 17⟩) (by simp [results, Tryz.results15, go_sem, tagV]) rfl ⟨by simp [tagOf, tagV, h16], (Fr.refl w).alloc _⟩

set_option maxRecDepth 20000 in
theorem r02Length_any (n : Nat) (hn : n ≤ 16777216) (w : World) :
    Calls Tryz.prog 51 #[.int .i64 n] w fun e w' => ∃ v, e = .returned v ∧ w'.ownsRow w.heap.size 5 1 v (lenBytes n).length (Lib.byteCells (lenBytes n)) ∧ Fr (fun _ => False) w w' := by
  have key : ∀ cs : Array Value, cs = (Lib.byteCells (lenBytes n)).toArray → (lenBytes n).length ≤ 5 → (w.alloc (.cells cs 5)).ownsRow w.heap.size 5 1 (.slice (some ⟨w.heap.size, 0, none⟩) (lenBytes n).length (lenBytes n).length) (lenBytes n).length (Lib.byteCells (lenBytes n)) ∧ Fr (fun _ => False) w (w.alloc (.cells cs 5)) := by
    rintro cs rfl h5
    exact ⟨own_bytes (Blk.new w 5 _) (by omega) _ (Nat.le_refl _), (Fr.refl w).alloc _⟩
  by_cases h1 : n < 128
  · have q1 : (n : Int) < 128 := by omega
    have hL : lenBytes n = [UInt8.ofNat n] := by simp [lenBytes, h1]
    rw [hL] at key ⊢
    have HK := Lib.hid key
    clear key hL
    go_enter Tryz.func51, Tryz.ntmps51
    go_wp2_with fail
    go_ret
    refine ⟨_, rfl, HK.out _ ?_ (by simp)⟩
    simp [Lib.byteCells, IntKind.wrap, IntKind.signed, IntKind.bits]
    try omega
  have q1 : ¬ (n : Int) < 128 := by omega
  by_cases h2 : n < 256
  · have q2 : (n : Int) < 256 := by omega
    have hL : lenBytes n = [129, UInt8.ofNat n] := by simp [lenBytes, h1, h2]
    rw [hL] at key ⊢
    have HK := Lib.hid key
    clear key hL
    go_enter Tryz.func51, Tryz.ntmps51
    go_wp2_with fail
    go_ret
    refine ⟨_, rfl, HK.out _ ?_ (by simp)⟩
    simp [Lib.byteCells, IntKind.wrap, IntKind.signed, IntKind.bits]
    try omega
  have q2 : ¬ (n : Int) < 256 := by omega
  by_cases h3 : n < 65536
  · have q3 : (n : Int) < 65536 := by omega
    have hL : lenBytes n = [130, UInt8.ofNat (n / 256), UInt8.ofNat (n % 256)] := by simp only [lenBytes, h1, h2, h3, if_true, if_false]
    rw [hL] at key ⊢
    have HK := Lib.hid key
    clear key hL
    go_enter Tryz.func51, Tryz.ntmps51
    go_wp2_with fail
    go_ret
    refine ⟨_, rfl, HK.out _ ?_ (by simp)⟩
    simp [Lib.byteCells, IntKind.wrap, IntKind.signed, IntKind.bits]
    try omega
  have q3 : ¬ (n : Int) < 65536 := by omega
  by_cases h4 : n < 16777216
  · have q4 : (n : Int) < 16777216 := by omega
    have hL : lenBytes n = [131, UInt8.ofNat (n / 65536), UInt8.ofNat (n / 256 % 256), UInt8.ofNat (n % 256)] := by simp only [lenBytes, h1, h2, h3, h4, if_true, if_false]
    rw [hL] at key ⊢
    have HK := Lib.hid key
    clear key hL
    go_enter Tryz.func51, Tryz.ntmps51
    go_wp2_with fail
    go_ret
    refine ⟨_, rfl, HK.out _ ?_ (by simp)⟩
    simp [Lib.byteCells, IntKind.wrap, IntKind.signed, IntKind.bits]
    try omega
  have q4 : ¬ (n : Int) < 16777216 := by omega
  · have hL : lenBytes n = [132, UInt8.ofNat (n / 16777216), UInt8.ofNat (n / 65536 % 256), UInt8.ofNat (n / 256 % 256), UInt8.ofNat (n % 256)] := by simp only [lenBytes, h1, h2, h3, h4, if_false]
    rw [hL] at key ⊢
    have HK := Lib.hid key
    clear key hL
    go_enter Tryz.func51, Tryz.ntmps51
    go_wp2_with fail
    go_ret
    refine ⟨_, rfl, HK.out _ ?_ (by simp)⟩
    simp [Lib.byteCells, IntKind.wrap, IntKind.signed, IntKind.bits]
    try omega

set_option maxRecDepth 20000 in
theorem r02Bytes_any (t : Tag) (h : tagGood t) (w : World) :
    Calls Tryz.prog 50 #[tagV t] w fun e w' => ∃ v, e = .returned v ∧ w'.ownsRow w.heap.size 5 1 v 1 (Lib.byteCells [tagByte t]) ∧ Fr (fun _ => False) w w' := by
  have hv := tagByte_val h
  have key : ∀ (w' : World) (cs : Array Value), cs = (Lib.byteCells [tagByte t]).toArray → Fr (fun _ => False) w w' → (w'.alloc (.cells cs 5)).ownsRow w.heap.size 5 1 (.slice (some ⟨w'.heap.size, 0, none⟩) 1 1) 1 (Lib.byteCells [tagByte t]) ∧ Fr (fun _ => False) w (w'.alloc (.cells cs 5)) := by
    rintro w' cs rfl F
    exact ⟨own_bytes (l := [tagByte t]) (Blk.new w' 5 _) (by simp) _ F.size, F.alloc _⟩
  obtain ⟨⟨h1, h2⟩, h3, h4⟩ := h
  obtain ⟨c, n, m⟩ := t
  simp only at h1 h2 h3 h4
  have HV := Lib.hid hv
  have HK := Lib.hid key
  have B := Blk.new w 36 #[.int .i64 c, .int .i64 n, .bool m]
  have F0 : Fr (fun _ => False) w (w.alloc (.cells #[.int .i64 c, .int .i64 n, .bool m] 36)) := (Fr.refl w).alloc _
  have q1 : n < 31 := h4
  clear hv key
  rw [show tagV ⟨c, n, m⟩ = .agg #[.int .i64 c, .int .i64 n, .bool m] from rfl]
  cases m
  all_goals
    go_enter Tryz.func50, Tryz.ntmps50
    go_upto_region 1 with fail
    generalize hz : w.heap.size = z at B ⊢
    have HZ := Lib.hid hz
    generalize (w.alloc (.cells _ 36)) = w0 at *
    clear hz
    have S := B.cell
    go_wp2_with fail
    go_ret
    refine ⟨_, rfl, ?_⟩
    rw [← HZ.out]
    refine HK.out _ _ ?_ F0
    have := HV.out
    simp at this
    simp [Lib.byteCells, IntKind.wrap, IntKind.signed, IntKind.bits, this]
    try omega

set_option maxRecDepth 20000 in
theorem r02Wrap_any (t : Tag) (ht : tagGood t) (v : Value) (l : List UInt8) (w : World) (hv : Bytes w v l) (hl : l.length ≤ 16777216) :
    Calls Tryz.prog 14 #[tagV t, v] w fun e w' => ∃ v', e = .returned v' ∧ w'.ownsRow w.heap.size 5 1 v' (wrapS t l).length (Lib.byteCells (wrapS t l)) ∧ Fr (fun _ => False) w w' := by
  obtain ⟨a, cap, rfl, -⟩ := hv.form
  have HB := Lib.hid hv
  have HT := Lib.hid ht
  obtain ⟨N, hN⟩ : ∃ N, N = l.length := ⟨_, rfl⟩
  have HN := Lib.hid hN
  rw [← hN] at hl ⊢
  obtain ⟨c, n, m⟩ := t
  have B := Blk.new w 36 #[.int .i64 c, .int .i64 n, .bool m]
  have F0 : Fr (fun _ => False) w (w.alloc (.cells #[.int .i64 c, .int .i64 n, .bool m] 36)) := (Fr.refl w).alloc _
  obtain ⟨z, hz⟩ : ∃ z, z = w.heap.size := ⟨_, rfl⟩
  rw [← hz] at B
  have HZ := Lib.hid hz
  clear hz hv ht hN
  rw [show tagV ⟨c, n, m⟩ = .agg #[.int .i64 c, .int .i64 n, .bool m] from rfl]
  go_enter Tryz.func14, Tryz.ntmps14
  go_upto_region 1 with fail
  rw [← HZ.out]
  generalize (w.alloc (.cells #[.int .i64 c, .int .i64 n, .bool m] 36)) = w0 at *
  have S := B.cell
  go_wp2_with fail
  refine (r02Bytes_any ⟨c, n, m⟩ HT.out w0).mono ?_
  rintro e w1 ⟨vb, rfl, hob, F1⟩
  have G1 := F0.trans F1
  have hob' := own_le hob F0.size
  obtain ⟨ab, cb, rfl, -⟩ := (Vals.of_own hob').1.form
  have HOB := Lib.hid hob'
  clear hob hob' F0 F1 B S
  go_wp2_with fail
  refine (r02Length_any N hl w1).mono ?_
  rintro e w2 ⟨vd, rfl, hod, F2⟩
  have G2 := G1.trans F2
  have hb0 : w.heap.size ≤ w2.heap.size := G2.size
  have ho1 := ownsRow_fr HOB.out F2 (fun _ _ h => h)
  have hvd := (Vals.of_own hod).1
  obtain ⟨ad, cd, rfl, -⟩ := hvd.form
  obtain ⟨v3, w3, hr3, ho3, F3, _⟩ := append_bytes ho1 ad _ cd (lenBytes N) hvd (by have := len_small N hl; simp; omega) hb0
  have hvb := (Vals.of_own ho1).2
  have G3 := G2.trans' F3 (fun i hi e => absurd hi (by have := hvb i e; omega))
  have hll : (Lib.byteCells (lenBytes N)).length = (lenBytes N).length := byteCells_len _
  obtain ⟨a3, c3, rfl, -⟩ := (Vals.of_own ho3).1
  have hb3 : w.heap.size ≤ w3.heap.size := G3.size
  obtain ⟨v4, w4, hr4, ho4, F4, _⟩ := append_bytes ho3 a _ cap l (HB.out.old G3) (by have := len_small N hl; have := HN.out; simp; omega) hb3
  have hvb4 := (Vals.of_own ho3).2
  have G4 := G3.trans' F4 (fun i hi e => absurd hi (by have := hvb4 i e; omega))
  rw [← HN.out] at hr4 ho4
  have HO4 := Lib.hid ho4
  have HG4 := Lib.hid G4
  clear hod G2 ho1 hvd ho3 F3 hvb G3 F2 F4 hvb4 G4 ho4
  generalize (Lib.byteCells ([tagByte ⟨c, n, m⟩] ++ lenBytes N)).length = L3 at *
  go_wp2_with (at_builtin; first
    | refine wpList_append_run (by rfl) (.tmp 7) (.tmp 10) 23 (by rfl) _ w3 (by exact hr3) ?_
    | refine wpList_append_run (by rfl) (.tmp 12) (.tmp 13) 23 (by rfl) _ w4 (by exact hr4) ?_)
  go_ret
  refine ⟨_, rfl, ?_, HG4.out⟩
  have := HO4.out
  have e : wrapS ⟨c, n, m⟩ l = [tagByte ⟨c, n, m⟩] ++ lenBytes N ++ l := by rw [wrapS, ← HN.out]; simp
  rw [wrap_len, ← HN.out, e]
  exact this
end Go.Proofs.YtgffhiopbnkjbaaGreatDoor

namespace Go.Q
open Go Go.RowKit
theorem oidSt_one : ∀ (l : List UInt8) (o : List Int) (i n : Nat), oidStS o (i + 1) n l = oidStS o 1 n l
  | [], o, i, n => by simp [oidStS]
  | x :: t, o, i, n => by
    have h1 := oidSt_one t o (i + 1) (n * 128 + x.toNat % 128)
    have h2 := oidSt_one t o 1 (n * 128 + x.toNat % 128)
    simp only [oidStS, h1, h2, Nat.succ_ne_zero, Nat.one_ne_zero, false_and, ite_false]
theorem oidSt_next {l : List UInt8} {o : List Int} {st n i : Nat} {x : UInt8} (h : l[i]? = some x) : oidStS o st n (l.drop i) = if st = 0 ∧ x.toNat = 128 then .error 6 else if 2147483647 < n * 128 + x.toNat % 128 then .error 2 else if x.toNat < 128 then (if o.length = 32 then .error 2 else oidStS (addS o (n * 128 + x.toNat % 128)) 0 0 (l.drop (i + 1))) else oidStS o 1 (n * 128 + x.toNat % 128) (l.drop (i + 1)) := by
  obtain ⟨hi, rfl⟩ := List.getElem?_eq_some_iff.1 h
  rw [List.drop_eq_getElem_cons hi]
  simp only [oidStS]
  by_cases h1 : l[i].toNat < 128
  · simp only [if_pos h1, show l[i].toNat % 128 = l[i].toNat from by omega]
  · simp only [if_neg h1, oidSt_one]
end Go.Q
namespace Go.Proofs.YtgffhiopbnkjbaaGreatDoor
open Go Go.RowKit Go.Q
set_option linter.unusedSimpArgs false

set_option maxRecDepth 20000 in
set_option maxHeartbeats 4000000 in
theorem r04Parse_any (v : Value) (l : List UInt8) (w : World) (h : Bytes w v l) (hl : l.length ≤ 1099511627776) :
    Calls Tryz.prog 101 #[v] w fun e w' => oidParseOut w w' (oidParseS l) e ∧ Fr (fun _ => False) w w' := by
  obtain ⟨a0, cap, rfl, hcap, hcm, hx⟩ := Vals.form h
  have HX := Lib.hid hx
  have HP := Lib.hid (show oidParseS l = if l = [] then .error 6 else oidStS [] 0 0 l from rfl)
  clear h hx hcm
  by_cases hl0 : l.length = 0
  · have q1 : ((l.length : Int) == 0) = true := by rw [hl0]; rfl
    have q2 : (l.length == 0) = true := by rw [hl0]; rfl
    have hp := HP.out
    rw [if_pos (List.length_eq_zero_iff.1 hl0)] at hp
    have HP2 := Lib.hid hp
    clear hp HP hl0
    go_enter Tryz.func101, Tryz.ntmps101
    go_wp2_with fail
    refine bodyPost_ret (v := .tuple #[.slice none 0 0, .int .i64 6]) (by simp [results, Tryz.results101, go_sem]) rfl ⟨?_, Fr.refl _⟩
    rw [HP2.out]
    rfl
  · have q1 : ((l.length : Int) == 0) = false := beq_eq_false_iff_ne.2 (by omega)
    have q2 : (l.length == 0) = false := beq_eq_false_iff_ne.2 hl0
    have hp := HP.out
    rw [if_neg (by rintro rfl; exact hl0 rfl)] at hp
    have HP2 := Lib.hid hp
    clear hp HP hl0
    go_enter Tryz.func101, Tryz.ntmps101
    go_wp2_with fail
    go_loopg [4, 5, 6, 7] l.length (fun gk u4 u5 u6 u7 wr => ∃ (o : List Int) (fr : Bool) (m i : Nat) (a : Option Addr) (c : Nat), gk = l.length - i ∧ i ≤ l.length ∧ u4 = .slice a o.length c ∧ u5 = .int .i64 m ∧ u6 = .bool fr ∧ u7 = .int .i64 i ∧ (fr = false → i < l.length) ∧ m ≤ 2147483647 ∧ o.length ≤ 32 ∧ wr.ownsRow w.heap.size 3 1 (.slice a o.length c) o.length (intCells o) ∧ Fr (fun _ => False) w wr ∧ oidParseS l = oidStS o (if fr then 0 else 1) m (l.drop i))
    case atStart => exact ⟨[], true, 0, 0, none, 0, rfl, Nat.zero_le _, rfl, rfl, rfl, rfl, by simp, by omega, by simp, ⟨rfl, .inl ⟨rfl, rfl⟩⟩, Fr.refl _, by rw [HP2.out]; rfl⟩
    case round =>
      obtain ⟨o, fr, m, i, a, c, hgk, hi, rfl, rfl, rfl, rfl, hfr, hm, ho32, hown, hF, hR⟩ := hrel
      have HG := Lib.hid hgk
      have HOW := Lib.hid hown
      have HF := Lib.hid hF
      have HR := Lib.hid hR
      have HFR := Lib.hid hfr
      clear hgk hown hF hR hfr HP2
      by_cases hil : i < l.length
      · have q3 : (i : Int) < (l.length : Int) := by omega
        obtain ⟨x, hx⟩ : ∃ x, l[i]? = some x := ⟨_, List.getElem?_eq_getElem hil⟩
        obtain ⟨b, off, rfl, hy⟩ := HX.out (by omega)
        have e1 := HF.out.cell (hy i x hx) (fun h => h)
        have HE1 := Lib.hid e1
        have hr := HR.out.trans (oidSt_next hx)
        have hx8 : x.toNat < 256 := x.toNat_lt
        obtain ⟨r, hr2⟩ : ∃ r, r = x.toNat % 128 := ⟨_, rfl⟩
        obtain ⟨vv, hv⟩ : ∃ vv, vv = m * 128 + r := ⟨_, rfl⟩
        rw [← hr2, ← hv] at hr
        have HRR := Lib.hid hr
        have s0 : (0 : Int) ≤ (i : Int) := by omega
        have hrl : r < 128 := by omega
        have HV := Lib.hid (And.intro hr2 hv)
        clear hx hy hr hr2 hv HR
        clear HX
        by_cases h6 : fr = true ∧ x.toNat = 128
        · obtain ⟨rfl, h128⟩ := h6
          have h128' : (x.toNat : Int) = 128 := by omega
          have hr := HRR.out
          rw [if_pos ⟨rfl, h128⟩] at hr
          have HR2 := Lib.hid hr
          clear hr HRR h128
          go_wp2_with fail
          refine bodyPost_ret (v := .tuple #[.slice none 0 0, .int .i64 6]) (by simp [results, Tryz.results101, go_sem]) rfl ⟨?_, HF.out⟩
          rw [HR2.out]
          rfl
        · have hr := HRR.out
          rw [if_neg (fun h => h6 ⟨by cases fr; (simp at h); rfl, h.2⟩)] at hr
          have HR2 := Lib.hid hr
          have h128' : fr = true → ¬ (x.toNat : Int) = 128 := fun h e => h6 ⟨h, by omega⟩
          clear hr HRR h6
          have HSUM := Lib.hid (show 128 * (m : Int) + (x.toNat : Int) % 128 = (vv : Int) from by have := HV.out; omega)
          cases fr
          case' false =>
            clear h128'
            go_upto_region 13 with fail
          case' true =>
            replace h128' := h128' rfl
            go_upto_region 13 with fail
          all_goals
            simp only [HSUM.out]
            clear HSUM e1 hm
            by_cases hvm : 2147483647 < vv
            · have q5 : (2147483647 : Int) < (vv : Int) := by omega
              have hr := HR2.out
              rw [if_pos hvm] at hr
              have HR3 := Lib.hid hr
              clear hr HR2 hvm
              go_wp2_with fail
              refine bodyPost_ret (v := .tuple #[.slice none 0 0, .int .i64 2]) (by simp [results, Tryz.results101, go_sem]) rfl ⟨?_, HF.out⟩
              rw [HR3.out]
              rfl
            · have q5 : ¬ (2147483647 : Int) < (vv : Int) := by omega
              have hr := HR2.out
              rw [if_neg hvm] at hr
              have e1 := HE1.out
              by_cases hx7 : x.toNat < 128
              · have q6 : ¬ (128 : Int) ≤ (x.toNat : Int) := by omega
                rw [if_pos hx7] at hr
                by_cases h32 : o.length = 32
                · have q7 : ((o.length : Int) == 32) = true := by rw [h32]; rfl
                  have q8 : (o.length == 32) = true := by rw [h32]; rfl
                  rw [if_pos h32] at hr
                  have HR3 := Lib.hid hr
                  clear hr HR2 h32 hvm
                  go_wp2_with fail
                  refine bodyPost_ret (v := .tuple #[.slice none 0 0, .int .i64 2]) (by simp [results, Tryz.results101, go_sem]) rfl ⟨?_, HF.out⟩
                  rw [HR3.out]
                  rfl
                · have q7 : ((o.length : Int) == 32) = false := beq_eq_false_iff_ne.2 (by omega)
                  have q8 : (o.length == 32) = false := beq_eq_false_iff_ne.2 h32
                  rw [if_neg h32] at hr
                  have HR3 := Lib.hid hr
                  have ho31 : o.length + 1 ≤ 32 := by omega
                  clear hr HR2 h32
                  by_cases h0 : o.length = 0
                  · obtain rfl : o = [] := List.length_eq_zero_iff.1 h0
                    have hvm2 : vv ≤ 2147483647 := by omega
                    by_cases h40 : vv < 40
                    · have q9 : (vv : Int) < 40 := by omega
                      have HAD := Lib.hid (show addS [] vv = [0, (vv : Int)] from by
                        unfold addS
                        rw [if_pos rfl, if_pos (by omega), show vv / 40 = 0 from by omega, show vv % 40 = vv from by omega]
                        rfl)
                      clear h0 hvm hvm2 h40 ho31
                      obtain ⟨v7, w7, hrun, ho7, F7, -⟩ := append_ints (ownsRow_fr HOW.out ((Fr.refl wr).alloc (.cells #[.int .i64 0, .int .i64 (vv : Int)] 3)) (fun _ _ h => h)) (some ⟨wr.heap.size, 0, none⟩) 2 2 [0, (vv : Int)] (Vals.of_block (Blk.new wr 3 #[.int .i64 0, .int .i64 (vv : Int)]) (by unfold maxLen; simp)) (by simp) (Nat.le_trans HF.out.size ((Fr.refl wr).alloc (S := fun _ => False) _).size)
                      obtain ⟨a7, n7, c7, rfl, rfl⟩ := own_shape ho7
                      have hkp := (Vals.of_own HOW.out).2
                      have HF7 := Lib.hid ((HF.out.alloc _).trans' F7 (fun k hk e => by have := (hkp k e).1; omega))
                      have HRUN := Lib.hid hrun
                      have HO7 := Lib.hid ho7
                      clear hrun ho7 F7 hkp
                      go_wp2_with (at_builtin; refine wpList_append_run (by rfl) (.tmp 65) (.tmp 67) 22 (by rfl) _ w7 (by exact HRUN.out) ?_)
                      go_roundg (l.length - (i + 1))
                      case measure => rw [HG.out]; omega
                      case rel => exact ⟨[0, (vv : Int)], true, 0, i + 1, a7, c7, rfl, by omega, rfl, rfl, rfl, by go_num, by simp, by omega, by simp, HO7.out, HF7.out, by rw [HR3.out, HAD.out]; rfl⟩
                    · have q9 : ¬ (vv : Int) < 40 := by omega
                      by_cases h80 : vv < 80
                      · have q10 : (vv : Int) < 80 := by omega
                        have HAD := Lib.hid (show addS [] vv = [1, (vv : Int) - 40] from by
                          unfold addS
                          rw [if_pos rfl, if_pos h80, show vv / 40 = 1 from by omega, show ((vv % 40 : Nat) : Int) = (vv : Int) - 40 from by omega]
                          rfl)
                        clear h0 hvm hvm2 h40 h80 ho31
                        obtain ⟨v7, w7, hrun, ho7, F7, -⟩ := append_ints (ownsRow_fr HOW.out ((Fr.refl wr).alloc (.cells #[.int .i64 1, .int .i64 ((vv : Int) - 40)] 3)) (fun _ _ h => h)) (some ⟨wr.heap.size, 0, none⟩) 2 2 [1, ((vv : Int) - 40)] (Vals.of_block (Blk.new wr 3 #[.int .i64 1, .int .i64 ((vv : Int) - 40)]) (by unfold maxLen; simp)) (by simp) (Nat.le_trans HF.out.size ((Fr.refl wr).alloc (S := fun _ => False) _).size)
                        obtain ⟨a7, n7, c7, rfl, rfl⟩ := own_shape ho7
                        have hkp := (Vals.of_own HOW.out).2
                        have HF7 := Lib.hid ((HF.out.alloc _).trans' F7 (fun k hk e => by have := (hkp k e).1; omega))
                        have HRUN := Lib.hid hrun
                        have HO7 := Lib.hid ho7
                        clear hrun ho7 F7 hkp
                        go_wp2_with (at_builtin; refine wpList_append_run (by rfl) (.tmp 72) (.tmp 75) 22 (by rfl) _ w7 (by exact HRUN.out) ?_)
                        go_roundg (l.length - (i + 1))
                        case measure => rw [HG.out]; omega
                        case rel => exact ⟨[1, ((vv : Int) - 40)], true, 0, i + 1, a7, c7, rfl, by omega, rfl, rfl, rfl, by go_num, by simp, by omega, by simp, HO7.out, HF7.out, by rw [HR3.out, HAD.out]; rfl⟩
                      · have q10 : ¬ (vv : Int) < 80 := by omega
                        have HAD := Lib.hid (show addS [] vv = [2, (vv : Int) - 80] from by
                          unfold addS
                          rw [if_pos rfl, if_neg h80])
                        clear h0 hvm hvm2 h40 h80 ho31
                        obtain ⟨v7, w7, hrun, ho7, F7, -⟩ := append_ints (ownsRow_fr HOW.out ((Fr.refl wr).alloc (.cells #[.int .i64 2, .int .i64 ((vv : Int) - 80)] 3)) (fun _ _ h => h)) (some ⟨wr.heap.size, 0, none⟩) 2 2 [2, ((vv : Int) - 80)] (Vals.of_block (Blk.new wr 3 #[.int .i64 2, .int .i64 ((vv : Int) - 80)]) (by unfold maxLen; simp)) (by simp) (Nat.le_trans HF.out.size ((Fr.refl wr).alloc (S := fun _ => False) _).size)
                        obtain ⟨a7, n7, c7, rfl, rfl⟩ := own_shape ho7
                        have hkp := (Vals.of_own HOW.out).2
                        have HF7 := Lib.hid ((HF.out.alloc _).trans' F7 (fun k hk e => by have := (hkp k e).1; omega))
                        have HRUN := Lib.hid hrun
                        have HO7 := Lib.hid ho7
                        clear hrun ho7 F7 hkp
                        go_wp2_with (at_builtin; refine wpList_append_run (by rfl) (.tmp 49) (.tmp 52) 22 (by rfl) _ w7 (by exact HRUN.out) ?_)
                        go_roundg (l.length - (i + 1))
                        case measure => rw [HG.out]; omega
                        case rel => exact ⟨[2, ((vv : Int) - 80)], true, 0, i + 1, a7, c7, rfl, by omega, rfl, rfl, rfl, by go_num, by simp, by omega, by simp, HO7.out, HF7.out, by rw [HR3.out, HAD.out]; rfl⟩
                  · have q9 : (0 : Int) < (o.length : Int) := by omega
                    have q10 : 0 < o.length := by omega
                    have HAD := Lib.hid (addS_snoc (o := o) (by rintro rfl; exact h0 rfl) vv)
                    obtain ⟨a7, c7, w7, hrun, ho7, F7, hw7⟩ := add_int HOW.out HF.out.size (by omega) (vv : Int) wr.heap.size ((Fr.refl wr).alloc (.cells #[.int .i64 vv] 3)) (Blk.new wr 3 #[.int .i64 vv])
                    have hkp := (Vals.of_own HOW.out).2
                    have HF7 := Lib.hid (HF.out.trans' F7 (fun k hk e => by have := (hkp k e).1; omega))
                    have HRUN := Lib.hid hrun
                    have HO7 := Lib.hid ho7
                    clear hrun ho7 F7 hkp h0 hvm hw7
                    go_wp2_with (at_builtin; refine wpList_append_run (by rfl) (.tmp 58) (.tmp 60) 22 (by rfl) _ w7 (by exact HRUN.out) ?_)
                    go_roundg (l.length - (i + 1))
                    case measure => rw [HG.out]; omega
                    case rel => exact ⟨o ++ [(vv : Int)], true, 0, i + 1, a7, c7, rfl, by omega, by rw [List.length_append]; rfl, rfl, rfl, by go_num, by simp, by omega, by rw [List.length_append]; exact ho31, by rw [List.length_append]; exact HO7.out, HF7.out, by rw [HR3.out, HAD.out]; rfl⟩
              · have q6 : (128 : Int) ≤ (x.toNat : Int) := by omega
                rw [if_neg hx7] at hr
                by_cases hlast : i + 1 = l.length
                · have q7 : ((i : Int) == (l.length : Int) - 1) = true := by simp; omega
                  rw [List.drop_eq_nil_of_le (by omega)] at hr
                  simp only [oidStS, Nat.one_ne_zero, ite_false] at hr
                  have HR3 := Lib.hid hr
                  clear hr HR2 hvm hlast
                  go_wp2_with fail
                  refine bodyPost_ret (v := .tuple #[.slice none 0 0, .int .i64 6]) (by simp [results, Tryz.results101, go_sem]) rfl ⟨?_, HF.out⟩
                  rw [HR3.out]
                  rfl
                · have q7 : ((i : Int) == (l.length : Int) - 1) = false := by simp; omega
                  have HR3 := Lib.hid hr
                  have HVM := Lib.hid hvm
                  clear hr HR2 hvm
                  go_wp2_with fail
                  go_roundg (l.length - (i + 1))
                  case measure => rw [HG.out]; omega
                  case rel => exact ⟨o, false, vv, i + 1, a, c, rfl, by omega, rfl, rfl, rfl, by go_num, fun _ => by omega, Nat.not_lt.1 HVM.out, ho32, HOW.out, HF.out, HR3.out⟩
      · have q3 : ¬ (i : Int) < (l.length : Int) := by omega
        obtain rfl : fr = true := by
          cases fr
          · exact absurd (HFR.out rfl) hil
          · rfl
        have hr := HR.out
        rw [List.drop_eq_nil_of_le (by omega)] at hr
        simp only [oidStS, ↓reduceIte] at hr
        have HR3 := Lib.hid hr
        clear hr HR
        go_wp2_with fail
        refine bodyPost_ret (v := .tuple #[.slice a o.length c, .int .i64 0]) (by simp [results, Tryz.results101, go_sem]) rfl ⟨?_, HF.out⟩
        rw [HR3.out]
        exact ⟨a, c, rfl, HOW.out⟩
end Go.Proofs.YtgffhiopbnkjbaaGreatDoor

namespace Go.Q
open Go Go.RowKit
theorem kind_contains (k : Int) : ([12, 19, 20, 22, 26, 30] : List Int).contains k = kindOk k := by
  unfold kindOk
  rw [Bool.eq_iff_iff]
  simp
/-- Printable, by ranges. -/
def printB (n : Int) : Bool := (decide (97 ≤ n ∧ n ≤ 122) || decide (65 ≤ n ∧ n ≤ 90) || decide (48 ≤ n ∧ n ≤ 57)) || (decide (0 < n ∧ n < 128) && decide (0 ≤ Lib.indexByte [32, 39, 40, 41, 43, 44, 45, 46, 47, 58, 61, 63] (UInt8.ofNat n.toNat)))
set_option maxRecDepth 100000 in
theorem printB_small : ∀ m : Fin 256, printB (m.val : Int) = printables.contains (UInt8.ofNat m.val) := by decide +kernel
theorem printB_eq (n : Int) : printB n = mayS 19 n := by
  simp only [mayS, show ¬ ((19 : Int) = 12) from by decide, if_false, if_true]
  by_cases h : 0 ≤ n ∧ n < 256
  · obtain ⟨m, rfl⟩ : ∃ m : Nat, n = m := ⟨n.toNat, by omega⟩
    have := printB_small ⟨m, by omega⟩
    simp only at this
    rw [this, decide_eq_true h, Bool.true_and, Int.toNat_natCast]
  · rw [decide_eq_false h, Bool.false_and]
    unfold printB
    rw [decide_eq_false (by omega), decide_eq_false (by omega), decide_eq_false (by omega), decide_eq_false (by omega)]
    rfl
end Go.Q
namespace Go.Proofs.YtgffhiopbnkjbaaGreatDoor
open Go Go.RowKit Go.Q

set_option maxRecDepth 20000 in
theorem known_any (k : Int) (w : World) :
    Calls Tryz.prog 135 #[.int .i64 k] w fun e w' => e = .returned (.bool (Go.Q.kindOk k)) ∧ Fr (fun _ => False) w w' := by
  have F : Fr (fun _ => False) w (w.alloc (.cells #[.int .i64 12, .int .i64 19, .int .i64 20, .int .i64 22, .int .i64 26, .int .i64 30] 3)) := (Fr.refl w).alloc _
  have B := Blk.new w 3 #[.int .i64 12, .int .i64 19, .int .i64 20, .int .i64 22, .int .i64 26, .int .i64 30]
  have H := Go.Proofs.Tryz.slices_Contains_int w.heap.size 0 6 6 [12, 19, 20, 22, 26, 30] k _ (by simp) (by omega) (fun j hj => by
    rw [Nat.zero_add, B.cell]
    match j, hj with
    | 0, _ => rfl
    | 1, _ => rfl
    | 2, _ => rfl
    | 3, _ => rfl
    | 4, _ => rfl
    | 5, _ => rfl
    | j + 6, hj => simp at hj; omega)
  rw [show ([12, 19, 20, 22, 26, 30] : List Int).take 6 = [12, 19, 20, 22, 26, 30] from rfl, kind_contains] at H
  have HH := Lib.hid H
  have HF := Lib.hid F
  clear H F B
  go_enter Tryz.func135, Tryz.ntmps135
  go_wp2_with (first | (go_at_call 129; go_in))
  refine HH.out.mono ?_
  rintro e w' ⟨rfl, rfl⟩
  go_wp2_with fail
  go_ret
  exact ⟨rfl, HF.out⟩

theorem surr_any (n : Int) (w : World) :
    Calls Tryz.prog 172 #[.int .i64 n] w fun e w' => e = .returned (.bool (surr n)) ∧ w = w' := by
  have hs : surr n = if 55296 ≤ n then (if n ≤ 57343 then true else false) else false := by
    unfold surr
    split
    · split
      · exact decide_eq_true (by omega)
      · exact decide_eq_false (by omega)
    · exact decide_eq_false (by omega)
  have HS := Lib.hid hs
  clear hs
  rcases Int.lt_or_le n 55296 with h1 | h1
  · have q1 : ¬ (55296 : Int) ≤ n := by omega
    go_enter Tryz.func172, Tryz.ntmps172
    go_wp2_with fail
    go_ret
    exact ⟨by rw [HS.out, if_neg (by omega)]; rfl, rfl⟩
  · rcases Int.lt_or_le 57343 n with h2 | h2
    · have q2 : ¬ n ≤ (57343 : Int) := by omega
      go_enter Tryz.func172, Tryz.ntmps172
      go_wp2_with fail
      go_ret
      exact ⟨by rw [HS.out, if_pos h1, if_neg (by omega)]; rfl, rfl⟩
    · go_enter Tryz.func172, Tryz.ntmps172
      go_wp2_with fail
      go_ret
      exact ⟨by rw [HS.out, if_pos h1, if_pos h2]; rfl, rfl⟩
end Go.Proofs.YtgffhiopbnkjbaaGreatDoor

namespace Go.Proofs.YtgffhiopbnkjbaaGreatDoor
open Go Go.RowKit Go.Q

set_option maxRecDepth 20000 in
theorem printable_any (n : Int) (w : World) :
    Calls Tryz.prog 173 #[.int .i64 n] w fun e w' => e = .returned (.bool (mayS 19 n)) ∧ w = w' := by
  go_enter Tryz.func173, Tryz.ntmps173
  go_wp2_with (first | (go_at_call 219; refine (Go.Proofs.Tryz.strings_IndexByte _ _ w).mono ?_; rintro e w' ⟨rfl, rfl⟩))
  all_goals
    go_ret
    refine ⟨?_, rfl⟩
    rw [← printB_eq]
    first
    | (have e : printB n = true := by unfold printB; rw [Bool.or_eq_true]; left; simp only [Bool.or_eq_true, decide_eq_true_eq]; omega
       rw [e]; rfl)
    | (have e : printB n = false := by unfold printB; rw [decide_eq_false (by omega), decide_eq_false (by omega), decide_eq_false (by omega), decide_eq_false (by omega)]; rfl
       rw [e]; rfl)
    | (have e : printB n = decide (0 ≤ Lib.indexByte [32, 39, 40, 41, 43, 44, 45, 46, 47, 58, 61, 63] (UInt8.ofNat n.toNat)) := by
         unfold printB; rw [decide_eq_false (by omega), decide_eq_false (by omega), decide_eq_false (by omega), decide_eq_true (by omega)]; rfl
       have hw : IntKind.u8.wrap n = n := by simp [IntKind.wrap, IntKind.signed, IntKind.bits]; omega
       have e2 : UInt8.ofNat n.toNat = (IntKind.u8.wrap n).toNat.toUInt8 := by rw [hw]
       rw [e, e2]
       rfl)

set_option maxRecDepth 20000 in
set_option maxHeartbeats 1000000 in
theorem may_any (k n : Int) (w : World) :
    Calls Tryz.prog 136 #[.int .i64 k, .int .i64 n] w fun e w' => e = .returned (.bool (mayS k n)) ∧ w = w' := by
  have hk : k = 12 ∨ k = 19 ∨ k = 20 ∨ k = 22 ∨ k = 26 ∨ k = 30 ∨ (k ≠ 12 ∧ k ≠ 19 ∧ k ≠ 20 ∧ k ≠ 22 ∧ k ≠ 26 ∧ k ≠ 30) := by omega
  rcases hk with rfl | rfl | rfl | rfl | rfl | rfl | ⟨h1, h2, h3, h4, h5, h6⟩
  case' inr.inr.inr.inr.inr.inr =>
    have q1 : (k == 12) = false := beq_eq_false_iff_ne.2 h1
    have q2 : (k == 19) = false := beq_eq_false_iff_ne.2 h2
    have q3 : (k == 20) = false := beq_eq_false_iff_ne.2 h3
    have q4 : (k == 22) = false := beq_eq_false_iff_ne.2 h4
    have q5 : (k == 26) = false := beq_eq_false_iff_ne.2 h5
    have q6 : (k == 30) = false := beq_eq_false_iff_ne.2 h6
  all_goals
    go_enter Tryz.func136, Tryz.ntmps136
    go_wp2_with (first | (go_at_call 172; refine (surr_any _ w).mono ?_; rintro e w' ⟨rfl, rfl⟩) | (go_at_call 173; refine (printable_any _ w).mono ?_; rintro e w' ⟨rfl, rfl⟩))
    all_goals
      go_ret
      refine ⟨?_, rfl⟩
      refine congrArg (fun z => Ending.returned (Value.bool z)) ?_
      first
      | rfl
      | (unfold mayS; simp only [*, Int.reduceEq, if_false, if_true]; done)
      | (simp [mayS, *]; done)
      | (simp [mayS]; omega)
end Go.Proofs.YtgffhiopbnkjbaaGreatDoor

namespace Go.Q
open Go Go.RowKit

theorem Fr.putObj {S : Nat → Prop} {a w : World} (h : Fr S a w) (l : Nat) (hl : l < a.heap.size → S l) (o : Obj) : Fr S a (w.putObj l o) :=
  ⟨h.os, h.tape, h.output, by rw [World.putObj_size]; exact h.size, fun k hk hS => by
    rw [World.putObj_heap_other (fun e => hS (by subst e; exact hl hk))]
    exact h.block k hk hS⟩

/-- What an iterator over the numbers xs, with a cell cb of its own, owes: whatever the rounds keep. -/
def Iter (P : Program) (gf : Nat) (lb : Array Value) (xs : List Int) (cb base : Nat) (w : World) : Prop :=
  ∀ (l : Nat) (J Jx : List Int → World → Prop) (W : World), Fr (fun _ => False) w W →
    (∀ s A B, J s A → Fr (fun k => k = cb) A B → J s B) → (∀ s A B, Jx s A → Fr (fun k => k = cb) A B → Jx s B) →
    (∀ pre x rest W1, xs = pre ++ x :: rest → J pre W1 → YieldAt Fence.wide 1 P l #[.int .i64 x] W1 fun e W' =>
      (e = .returned (.bool true) ∧ J (pre ++ [x]) W' ∧ Fr (fun k => base ≤ k ∧ k ≠ cb) W1 W') ∨ (e = .returned (.bool false) ∧ Jx (pre ++ [x]) W')) →
    J [] W →
    CallsIn Fence.wide 2 P gf (#[.func (.yield l) #[] #[]] ++ lb) W fun e W' => (∃ v, e = .returned v) ∧ (J xs W' ∨ ∃ pre, pre <+: xs ∧ Jx pre W')

/-- How a round's body may be left. -/
def seqPost (I : List Int → World → Prop) (Ix : Code → List Int → World → Prop) (base cb : Nat) (E : Nat) (xs : List Int) (W : World) : Exit → Act → World → Prop
  | .normal, _, W' => Fr (fun k => base ≤ k ∧ k ≠ cb ∧ k ≠ E ∧ k ≠ E + 1) W W' ∧ I xs W'
  | .ret, _, W' => Fr (fun k => base ≤ k ∧ k ≠ cb ∧ k ≠ E ∧ k ≠ E + 1) W W' ∧ Ix .ret xs W'
  | .exit id, _, W' => Fr (fun k => base ≤ k ∧ k ≠ cb ∧ k ≠ E ∧ k ≠ E + 1) W W' ∧ Ix (.exit id) xs W'
  | .goto t, _, W' => Fr (fun k => base ≤ k ∧ k ≠ cb ∧ k ≠ E ∧ k ≠ E + 1) W W' ∧ Ix (.goto t) xs W'
  | .panic _, _, _ => False
  | .outgrown, _, _ => False

variable {P : Program}
theorem range_law {g : Operand} {ps : Array Tmp} {assign body : Code} {Q : Exit → Act → World → Prop} {a : Act} {w : World}
    {gf : Nat} {lb : Array Value} (hg : a.eval g = .func (.func gf) #[] lb) (eg : ∀ args w, (callFunc gf args).run P w = .ok (.enter gf args) w)
    {xs : List Int} {cb base : Nat} (hcb : cb < w.heap.size) (hbase : base ≤ w.heap.size) (hseq : Iter P gf lb xs cb base w) (hps : ps.size = 1)
    (I : List Int → World → Prop) (Ix : Code → List Int → World → Prop)
    (hI : ∀ s A B, I s A → Fr (fun k => k = cb ∨ k = w.heap.size ∨ k = w.heap.size + 1) A B → I s B)
    (hIx : ∀ c s A B, Ix c s A → Fr (fun k => k = cb ∨ k = w.heap.size ∨ k = w.heap.size + 1) A B → Ix c s B) (h0 : I [] w) (a₁ : Int → Act)
    (hassign : ∀ (l : Nat) (x : Int) (W : World) (K : Act → World → Prop), K (a₁ x) W →
      assign.wpIn (Fence.wide.inRound l) 1 P (Exit.then K (fun _ _ _ => False)) { tmps := (ps.zip #[.int .i64 x]).foldl (fun t (p, v) => t.setIfInBounds p v) a.tmps, defers := [] } W)
    (hbody : ∀ (l : Nat) (pre : List Int) (x : Int) (rest : List Int) (W : World), xs = pre ++ x :: rest → I pre W → w.heap.size + 2 ≤ W.heap.size → body.wpIn (Fence.wide.inRound l) 1 P (seqPost I Ix base cb w.heap.size (pre ++ [x]) W) (a₁ x) W)
    (hdone : ∀ (D : Nat) (W : World), D = w.heap.size → I xs W → W.heap[D]? = some (.deferred (some [])) → Q .normal { a with defers := { target := .collected D, args := #[] } :: a.defers } W)
    (hstop : ∀ (D : Nat) (c : Code) (pre : List Int) (W : World), D = w.heap.size → pre <+: xs → Ix c pre W → W.heap[D]? = some (.deferred (some [])) → c.wpIn Fence.wide 3 P Q { a with defers := { target := .collected D, args := #[] } :: a.defers } W) :
    (Code.rangeFunc g ps assign body).wpIn Fence.wide 3 P Q a w := by
  refine wpIn_rangeFunc ?_
  intro fn hfn
  obtain ⟨E, hE⟩ : ∃ E, E = w.heap.size := ⟨_, rfl⟩
  obtain ⟨rec, hrec⟩ : ∃ rec : LoopState → Option Code → Loop, rec = fun st pe => { state := st, pending := pe, fn, tmps := a.tmps, params := ps, assign, body, defers := E } := ⟨_, rfl⟩
  obtain ⟨W1, hW1⟩ : ∃ W1, W1 = (w.alloc (.deferred (some []))).alloc (.loop (rec .ready none)) := ⟨_, rfl⟩
  have F1 : Fr (fun _ => False) w W1 := by rw [hW1]; exact ((Fr.refl w).alloc _).alloc _
  have hL1 : W1.heap[E + 1]? = some (.loop (rec .ready none)) := by
    rw [hW1, hE]
    have := World.alloc_heap_new (w.alloc (.deferred (some []))) (.loop (rec .ready none))
    rwa [World.size_alloc] at this
  have hK1 : W1.heap[E]? = some (.deferred (some [])) := by
    rw [hW1, hE]
    exact (Below.heap_alloc _ _ _ (by simp)).trans (World.alloc_heap_new w _)
  have hI1 : I [] W1 := hI [] w W1 h0 (F1.mono (fun _ _ h => h.elim))
  -- the two facts of book-keeping beside the invariant abide a step of the iterator's cell
  have keep : ∀ {S : Nat → Prop} {A B : World} {k : Nat} {o : Obj}, Fr S A B → A.heap[k]? = some o → ¬ S k → B.heap[k]? = some o := fun f h hS =>
    (f.block _ (Array.getElem?_eq_some_iff.1 h).1 hS).trans h
  have hcbE : cb < E := by rw [hE]; exact hcb
  refine ⟨E + 1, [{ target := .collected E, args := #[] }], W1, { target := .fn (.func gf) lb, args := #[.func (.yield (E + 1)) #[] #[]] }, W1, gf,
    #[.func (.yield (E + 1)) #[] #[]] ++ lb, W1, ?_, ?_, fun _ _ => trivial, ?_, fun _ => by decide, ?_⟩
  · rw [hW1, hrec, hE]
    exact run_enterLoop_outer _ _ _ _ _
  · simp only [resolve, hg]
    simp [go_sem]
  · simp [invoke, go_sem, eg]
  refine (hseq (E + 1)
    (fun pre W => I pre W ∧ W.heap[E + 1]? = some (.loop (rec .ready none)) ∧ W.heap[E]? = some (.deferred (some [])))
    (fun pre W => ∃ c, Ix c pre W ∧ W.heap[E + 1]? = some (.loop (rec .done (some c))) ∧ W.heap[E]? = some (.deferred (some [])))
    W1 F1 ?_ ?_ ?_ ⟨hI1, hL1, hK1⟩).mono ?_
  · rintro s A B ⟨hi, hl, hk⟩ f
    exact ⟨hI s A B hi (f.mono (fun _ _ h => .inl h)), keep f hl (by omega), keep f hk (by omega)⟩
  · rintro s A B ⟨c, hi, hl, hk⟩ f
    exact ⟨c, hIx c s A B hi (f.mono (fun _ _ h => .inl h)), keep f hl (by omega), keep f hk (by omega)⟩
  · rintro pre x rest W hxs ⟨hi, hl, hk⟩
    have hlt : E + 1 < W.heap.size := (Array.getElem?_eq_some_iff.1 hl).1
    have hy := run_yield (P := P) (args := #[.int .i64 x]) hl (by rw [hrec]; simp [hps])
    rw [hrec] at hy
    refine ⟨fn, _, assign, body, hy, roundIn_of_wpIn hfn (hassign _ x W _ ⟨_, run_beginRound hl (by rw [hrec]), ?_⟩)⟩
    obtain ⟨W2, hW2⟩ : ∃ W2, W2 = W.putObj (E + 1) (.loop { rec .ready none with state := .busy }) := ⟨_, rfl⟩
    have F2 : Fr (fun k => k = E + 1) W W2 := by rw [hW2]; exact Fr.putObj (S := fun k => k = E + 1) (Fr.refl W) (E + 1) (fun _ => rfl) _
    have hl2 : W2.heap[E + 1]? = some (.loop { rec .ready none with state := .busy }) := by rw [hW2]; exact World.putObj_heap_same hlt
    have hk2 : W2.heap[E]? = some (.deferred (some [])) := keep F2 hk (by omega)
    rw [← hW2]
    refine wpIn_mono (hbody _ pre x rest W2 hxs (hI pre W W2 hi (F2.mono (fun _ _ h => .inr (.inr (by rw [← hE]; exact h))))) (by rw [← hE]; have := F2.size; omega)) ?_
    have fin : ∀ (jump : Option Code) (W3 : World), Fr (fun k => base ≤ k ∧ k ≠ cb ∧ k ≠ E ∧ k ≠ E + 1) W2 W3 →
        (Instr.endRound (E + 1) jump).run P W3 = .ok (.bool jump.isNone) (W3.putObj (E + 1) (.loop (rec (if jump.isNone then .ready else .done) jump))) ∧
        (W3.putObj (E + 1) (.loop (rec (if jump.isNone then .ready else .done) jump))).heap[E + 1]? = some (.loop (rec (if jump.isNone then .ready else .done) jump)) ∧
        (W3.putObj (E + 1) (.loop (rec (if jump.isNone then .ready else .done) jump))).heap[E]? = some (.deferred (some [])) ∧
        Fr (fun k => k = cb ∨ k = w.heap.size ∨ k = w.heap.size + 1) W3 (W3.putObj (E + 1) (.loop (rec (if jump.isNone then .ready else .done) jump))) ∧
        Fr (fun k => base ≤ k ∧ k ≠ cb) W (W3.putObj (E + 1) (.loop (rec (if jump.isNone then .ready else .done) jump))) := fun jump W3 f3 => by
      have hl3 := keep f3 hl2 (by simp)
      have hk3 := keep f3 hk2 (by simp)
      have hr := run_endRound (P := P) jump hl3
      have f4 : Fr (fun k => k = E + 1) W3 (W3.putObj (E + 1) (.loop (rec (if jump.isNone then .ready else .done) jump))) := Fr.putObj (S := fun k => k = E + 1) (Fr.refl W3) (E + 1) (fun _ => rfl) _
      have g : ∀ k, k = E + 1 → base ≤ k ∧ k ≠ cb := fun k e => by omega
      refine ⟨?_, World.putObj_heap_same (Array.getElem?_eq_some_iff.1 hl3).1, keep f4 hk3 (by omega), f4.mono (fun _ _ h => .inr (.inr (by rw [← hE]; exact h))), ?_⟩
      · rw [hr, hrec]
      · exact ((F2.mono (fun k _ h => g k h)).trans (f3.mono (fun _ _ h => ⟨h.1, h.2.1⟩))).trans (f4.mono (fun k _ h => g k h))
    rw [← hE]
    rintro e a3 W3 hp
    cases e with
    | normal =>
      obtain ⟨f3, hi3⟩ := hp
      obtain ⟨hr, hl4, hk4, f4, f5⟩ := fin none W3 f3
      exact ⟨_, _, hr, .inl ⟨rfl, ⟨hI _ _ _ hi3 f4, hl4, hk4⟩, f5⟩⟩
    | ret =>
      obtain ⟨f3, hi3⟩ := hp
      obtain ⟨hr, hl4, hk4, f4, f5⟩ := fin (some .ret) W3 f3
      exact ⟨_, _, hr, .inr ⟨rfl, .ret, hIx _ _ _ _ hi3 f4, hl4, hk4⟩⟩
    | exit id =>
      obtain ⟨f3, hi3⟩ := hp
      obtain ⟨hr, hl4, hk4, f4, f5⟩ := fin (some (.exit id)) W3 f3
      exact ⟨_, _, hr, .inr ⟨rfl, .exit id, hIx _ _ _ _ hi3 f4, hl4, hk4⟩⟩
    | goto t =>
      obtain ⟨f3, hi3⟩ := hp
      obtain ⟨hr, hl4, hk4, f4, f5⟩ := fin (some (.goto t)) W3 f3
      exact ⟨_, _, hr, .inr ⟨rfl, .goto t, hIx _ _ _ _ hi3 f4, hl4, hk4⟩⟩
    | panic ch => exact hp.elim
    | outgrown => exact hp.elim
  · rintro e W2 ⟨⟨v, rfl⟩, (⟨hi, hl, hk⟩ | ⟨pre, hpre, c, hi, hl, hk⟩)⟩
    · have hr := run_endLoop (P := P) hl (by rw [hrec]; simp)
      rw [hrec] at hr
      refine ⟨none, _, hr, hdone E _ hE (hI _ _ _ hi ((Fr.refl W2).putObj _ (fun _ => .inr (.inr (by omega))) _)) ((World.putObj_heap_other (by omega)).trans hk)⟩
    · have hr := run_endLoop (P := P) hl (by rw [hrec]; simp)
      rw [hrec] at hr
      refine ⟨some c, _, hr, hstop E c pre _ hE hpre (hIx c _ _ _ hi ((Fr.refl W2).putObj _ (fun _ => .inr (.inr (by omega))) _)) ((World.putObj_heap_other (by omega)).trans hk)⟩
end Go.Q

namespace Go.Q
open Go Go.RowKit
def byteInts (l : List UInt8) : List Int := l.map (fun x => (x.toNat : Int))
def idx (n : Nat) : Value → Nat
  | .int _ k => n - k.toNat
  | _ => 0
end Go.Q
namespace Go.Proofs.YtgffhiopbnkjbaaGreatDoor
open Go Go.RowKit Go.Q
attribute [local go_sem] Oper.semAt_some

theorem wrap64_next {m r n : Nat} (h : m + (r + 1) = n) (hn : n ≤ maxLen) : wrap64 ((m : Int) + 1) = (m : Int) + 1 := by
  have e : maxLen = 9223372036854775807 := rfl
  rw [e] at hn
  clear e
  unfold wrap64
  omega
theorem idx_next {m r n : Nat} (h : m + (r + 1) = n) : idx n (.int .i64 ((m : Int) + 1)) < idx n (.int .i64 (m : Int)) := by
  simp only [idx]
  omega
theorem wrap64_byte (y : UInt8) : wrap64 (y.toNat : Int) = (y.toNat : Int) := by
  have := y.toNat_lt
  unfold wrap64
  omega
set_option maxRecDepth 100000 in
set_option maxHeartbeats 1000000 in
theorem single1_iter (v : Value) (l : List UInt8) (cb base : Nat) (w : World) (hc : w.cell? ⟨cb, 0, none⟩ = some v) (hv : Bytes w v l) (hoff : Off v l.length (fun k => base ≤ k)) :
    Iter Tryz.prog 218 #[pt cb] (byteInts l) cb base w := by
  intro lp J Jx W hW hJ hJx hY h0
  obtain ⟨a, cap, rfl, hcap, hmax, hx⟩ := Vals.form hv
  have HX := Lib.hid hx
  have hc1 := hW.cell hc (fun h => h)
  refine callsIn_of_wp Tryz.func218 rfl trivial ?_ rfl
  simp only [Tryz.ntmps218, List.size_toArray, List.length_cons, List.length_nil, Nat.reduceAdd, Nat.reduceSub, Array.replicate_succ, Array.replicate_zero, List.push_toArray, List.append_toArray, List.nil_append, List.cons_append]
  gi_wp2
  gi_loopw [7] (fun i wr => ∃ (pre rest : List Int), i = .int .i64 pre.length ∧ byteInts l = pre ++ rest ∧ Fr (fun k => base ≤ k ∧ k ≠ cb) W wr ∧ J pre wr) (fun i _ => idx l.length i)
  case atStart => exact ⟨[], byteInts l, rfl, rfl, Fr.refl _, h0⟩
  case round =>
    obtain ⟨pre, rest, rfl, hxs, F, hj⟩ := hrel
    have hlen : pre.length + rest.length = l.length := by
      have := congrArg List.length hxs
      simp only [byteInts, List.length_map, List.length_append] at this
      omega
    cases rest with
    | nil =>
      have q1 : ¬ (pre.length : Int) < (l.length : Int) := by simp only [List.length_nil] at hlen; omega
      gi_wp2
      go_end0
      exact ⟨⟨_, rfl⟩, .inl hj⟩
    | cons x rest =>
      simp only [List.length_cons] at hlen
      obtain ⟨y, hy, rfl⟩ : ∃ y : UInt8, l[pre.length]? = some y ∧ x = (y.toNat : Int) := by
        have h : (byteInts l)[pre.length]? = some x := by rw [hxs, List.getElem?_append_right (Nat.le_refl _), Nat.sub_self]; rfl
        unfold byteInts at h
        rw [List.getElem?_map] at h
        cases hq : l[pre.length]? with
        | none => rw [hq] at h; cases h
        | some y => rw [hq] at h; simp only [Option.map_some, Option.some.injEq] at h; exact ⟨y, rfl, h.symm⟩
      obtain ⟨b, o, rfl, hcell⟩ := HX.out (by omega)
      have hb : ¬ base ≤ b := hoff (by omega) b rfl
      have e1 := F.cell (hW.cell (hcell _ y hy) (fun h => h)) (fun h => hb h.1)
      have q1 : (pre.length : Int) < (l.length : Int) := by omega
      have q2 : (0 : Int) ≤ (pre.length : Int) := by omega
      have q4 : wrap64 ((pre.length : Int) + 1) = (pre.length : Int) + 1 := wrap64_next hlen (Nat.le_trans hcap hmax)
      have q3 : wrap64 (y.toNat : Int) = (y.toNat : Int) := wrap64_byte y
      obtain ⟨fn, tmps, assign, body, hyy, hR⟩ := hY pre _ rest wr hxs hj
      clear hx hcell
      gi_wp2
      refine hR.mono ?_
      rintro e W3 (⟨rfl, hJ3, F3⟩ | ⟨rfl, hJx3⟩)
      · gi_wp2
        go_roundw
        case rel => exact ⟨pre ++ [(y.toNat : Int)], rest, by rw [q4]; simp, by simp [hxs], F.trans F3, hJ3⟩
        case measure => rw [q4]; exact idx_next hlen
      · gi_wp2
        refine bodyPost_ret (results_none rfl _ _ _) rfl ?_
        exact ⟨⟨_, rfl⟩, .inr ⟨_, ⟨rest, by simp [hxs]⟩, hJx3⟩⟩
end Go.Proofs.YtgffhiopbnkjbaaGreatDoor

namespace Go.Q
open Go Go.RowKit
/-- How long the slice in a cell is. -/
def cellLen (w : World) (cb : Nat) : Nat :=
  match w.cell? ⟨cb, 0, none⟩ with
  | some (.slice _ n _) => n
  | _ => 0
theorem cellLen_of {w : World} {cb : Nat} {t : TypeId} {a : Option Addr} {n c : Nat} (B : Blk w cb t #[.slice a n c]) : cellLen w cb = n := by
  have := B.cell 0
  simp at this
  unfold cellLen
  rw [this]
/-- The iterator's slice goes on by k bytes. -/
theorem slice_on {W : World} {cb base b o cap n : Nat} {ty : TypeId} {u0 : Value} {r : List UInt8} (B : Blk W cb ty #[u0]) (hr : Bytes W (.slice (some ⟨b, o, none⟩) n cap) r) (hb : ¬ base ≤ b) (hcb : base ≤ cb) (k m c' : Nat) (a' : Option Addr) (hm : m + k = n)
    (ha : 0 < m → a' = some ⟨b, o + k, none⟩) (hc : m ≤ c') (hmax : c' ≤ maxLen) :
    Blk (W.setCell ⟨cb, 0, none⟩ (.slice a' m c')) cb ty #[.slice a' m c'] ∧ Bytes (W.setCell ⟨cb, 0, none⟩ (.slice a' m c')) (.slice a' m c') (r.drop k) ∧ Off (.slice a' m c') m (fun k => base ≤ k) ∧ Fr (fun k => k = cb) W (W.setCell ⟨cb, 0, none⟩ (.slice a' m c')) := by
  have f : Fr (fun k => k = cb) W (W.setCell ⟨cb, 0, none⟩ (.slice a' m c')) := Fr.setCell (S := fun k => k = cb) (p := ⟨cb, 0, none⟩) (Fr.refl W) (fun _ => rfl) _
  have hoff : Off (.slice a' m c') m (fun k => base ≤ k) := fun h0 j hj => by
    rw [ha h0] at hj
    simp only [Value.ownBlock, Option.some.injEq] at hj
    omega
  have hlen : r.length = n := by
    obtain ⟨a, c, he, _⟩ := hr.form
    simp only [Value.slice.injEq] at he
    exact he.2.1.symm
  have hs : Bytes W (.slice a' m c') (r.drop k) := by
    have h := Vals.sub hr k n (by omega) (Nat.le_refl _) a' c' (fun h b0 o0 e => by
      simp only [Option.some.injEq, Addr.mk.injEq, and_true] at e
      obtain ⟨rfl, rfl⟩ := e
      exact ha (by omega)) (by omega) hmax
    rw [Go.Proofs.YtgffhiopbnkjbaaGreatDoor.byteCells_drop, Go.Proofs.YtgffhiopbnkjbaaGreatDoor.byteCells_take, show n - k = m from by omega, List.take_of_length_le (by rw [List.length_drop]; omega)] at h
    exact h
  have hrl : (r.drop k).length = m := by rw [List.length_drop]; omega
  refine ⟨?_, hs.fr f (fun h0 j hj e => ?_), hoff, f⟩
  · have := B.set 0 (.slice a' m c')
    simpa using this
  · rw [byteCells_len, hrl] at h0
    exact hoff h0 j hj (by omega)
end Go.Q
namespace Go.Proofs.YtgffhiopbnkjbaaGreatDoor
open Go Go.RowKit Go.Q
attribute [local go_sem] Oper.semAt_some

theorem pair_facts (x y : UInt8) : IntKind.i64.wrap (x.toNat : Int) = (x.toNat : Int) ∧ IntKind.i64.wrap (y.toNat : Int) = (y.toNat : Int) ∧ IntKind.i64.wrap ((x.toNat : Int) * 256) = (x.toNat : Int) * 256 ∧ bits .or .i64 ((x.toNat : Int) * 256) (y.toNat : Int) = ((x.toNat * 256 + y.toNat : Nat) : Int) := by
  have hx := x.toNat_lt
  have hy := y.toNat_lt
  generalize x.toNat = X at *
  generalize y.toNat = Y at *
  refine ⟨by simp [IntKind.wrap, IntKind.signed, IntKind.bits]; omega, by simp [IntKind.wrap, IntKind.signed, IntKind.bits]; omega, by simp [IntKind.wrap, IntKind.signed, IntKind.bits]; omega, ?_⟩
  exact or8 X Y (by omega) (by omega)
set_option maxRecDepth 100000 in
set_option maxHeartbeats 1000000 in
theorem pairs1_iter (v : Value) (l : List UInt8) (cb base : Nat) (w : World) (hc : Blk w cb 23 #[v]) (hv : Bytes w v l) (hoff : Off v l.length (fun k => base ≤ k)) (hcb : base ≤ cb) :
    Iter Tryz.prog 217 #[pt cb] (pairsS l) cb base w := by
  intro lp J Jx W hW hJ hJx hY h0
  have BW := hc.fr hW (fun h => h)
  have hv1 := hv.old hW
  refine callsIn_of_wp Tryz.func217 rfl trivial ?_ rfl
  simp only [Tryz.ntmps217, List.size_toArray, List.length_cons, List.length_nil, Nat.reduceAdd, Nat.reduceSub, Array.replicate_succ, Array.replicate_zero, List.push_toArray, List.append_toArray, List.nil_append, List.cons_append]
  gi_wp2
  gi_loopw [3] (fun _ wr => ∃ (pre : List Int) (r : List UInt8) (u : Value), pairsS l = pre ++ pairsS r ∧ Blk wr cb 23 #[u] ∧ Bytes wr u r ∧ Off u r.length (fun k => base ≤ k) ∧ J pre wr) (fun _ wr => cellLen wr cb)
  case atStart => exact ⟨[], l, v, rfl, BW, hv1, hoff, h0⟩
  case round =>
    obtain ⟨pre, r, u, hxs, B, hr, ho, hj⟩ := hrel
    rcases r with _ | ⟨x, _ | ⟨y, t⟩⟩
    · obtain ⟨a, cap, rfl, hcap, hmax, hx⟩ := Vals.form hr
      have e0 := B.cell 0
      simp at e0
      simp only [List.length_nil, pairsS, List.append_nil] at *
      gi_wp2
      go_end0
      exact ⟨⟨_, rfl⟩, .inl (by rw [hxs]; exact hj)⟩
    · obtain ⟨a, cap, rfl, hcap, hmax, hx⟩ := Vals.form hr
      have e0 := B.cell 0
      simp at e0
      simp only [List.length_cons, List.length_nil, pairsS, Nat.zero_add] at *
      obtain ⟨fn, tmps, assign, body, hyy, hR⟩ := hY pre _ [] wr hxs hj
      gi_wp2
      refine hR.mono ?_
      rintro e W3 (⟨rfl, hJ3, F3⟩ | ⟨rfl, hJx3⟩)
      · gi_wp2
        go_end0
        exact ⟨⟨_, rfl⟩, .inl (by rw [hxs]; exact hJ3)⟩
      · gi_wp2
        go_end0
        exact ⟨⟨_, rfl⟩, .inr ⟨_, ⟨[], by simp [hxs]⟩, hJx3⟩⟩
    · obtain ⟨a, cap, rfl, hcap, hmax, hx⟩ := Vals.form hr
      have e0 := B.cell 0
      have f0 := B.frozen 0
      simp at e0
      simp only [List.length_cons, pairsS] at *
      obtain ⟨b, o, rfl, hcell⟩ := hx (by omega)
      have c0 := hcell 0 x rfl
      have c1 := hcell 1 y rfl
      rw [Nat.add_zero] at c0
      have q1 : (1 : Int) < ((t.length + 1 + 1 : Nat) : Int) := by omega
      have q2 : (0 : Int) < ((t.length + 1 + 1 : Nat) : Int) := by omega
      obtain ⟨fn, tmps, assign, body, hyy, hR⟩ := hY pre _ _ wr.drew hxs (hJ _ _ _ hj (Fr.refl wr).drew)
      rw [show ((x.toNat * 256 + y.toNat : Nat) : Int) = (x.toNat : Int) * 256 + (y.toNat : Int) from by omega] at hyy
      have hR2 := hR.mono (R' := fun e W' => ∃ z : Bool, e = .returned (.bool z) ∧ (z = true ∧ J (pre ++ [((x.toNat * 256 + y.toNat : Nat) : Int)]) W' ∧ Fr (fun k => base ≤ k ∧ k ≠ cb) wr.drew W' ∨ z = false ∧ Jx (pre ++ [((x.toNat * 256 + y.toNat : Nat) : Int)]) W')) (by
        rintro e W' (⟨h1, h2⟩ | ⟨h1, h2⟩)
        · exact ⟨true, h1, .inl ⟨rfl, h2⟩⟩
        · exact ⟨false, h1, .inr ⟨rfl, h2⟩⟩)
      have HR2 := Lib.hid hR2
      obtain ⟨q3, q4, q5, q6⟩ := pair_facts x y
      clear hR hR2
      have hmx : Tryz.prog.follows .mixedOrders = true := by kernel_rfl
      gi_wp2
      gi_region_with_o (refine HR2.out.mono ?_; rintro e W3 ⟨z, rfl, hz⟩)
      all_goals
        rcases hz with ⟨rfl, hJ3, F3⟩ | ⟨rfl, hJx3⟩
        · have B3 := B.drew.fr F3 (fun h => h.2 rfl)
          have e3 := B3.cell 0
          have f3 := B3.frozen 0
          simp at e3
          have hb : ¬ base ≤ b := ho (by omega) b rfl
          have hr3 : Bytes W3 (.slice (some ⟨b, o, none⟩) (t.length + 1 + 1) cap) (x :: y :: t) := (hr.old (Fr.refl wr).drew).fr F3 (fun h0 k hk hs => by
            simp only [Value.ownBlock, Option.some.injEq] at hk
            subst hk
            exact hb hs.1)
          have HJ3 := Lib.hid hJ3
          have z1 : (2 : Int) ≤ ((t.length + 1 + 1 : Nat) : Int) := by omega
          clear hyy hJ3 hx hcell
          gi_wp2
          obtain ⟨B4, hr4, ho4, F4⟩ := slice_on B3 hr3 hb hcb 2 t.length (cap - 2) (if cap = 2 then some ⟨b, o, none⟩ else some ⟨b, o + 2, none⟩) rfl (fun h => if_neg (by omega)) (by omega) (by omega)
          go_roundw
          case rel => exact ⟨pre ++ [((x.toNat * 256 + y.toNat : Nat) : Int)], t, _, by simp [hxs], B4, hr4, ho4, hJ _ _ _ HJ3.out F4⟩
          case measure =>
            rw [cellLen_of B4, cellLen_of B]
            omega
        · gi_wp2
          refine bodyPost_ret (results_none rfl _ _ _) rfl ?_
          exact ⟨⟨_, rfl⟩, .inr ⟨_, ⟨pairsS t, by simp [hxs]⟩, hJx3⟩⟩
end Go.Proofs.YtgffhiopbnkjbaaGreatDoor

namespace Go.Q
open Go Go.RowKit
/-- Go's two tables of UTF-8 lie as they were laid. -/
abbrev Tabs (w : World) : Prop := Lib.Utf8Tabs 1 2 w
theorem Tabs.fr {S : Nat → Prop} {w w' : World} (h : Tabs w) (f : Fr S w w') (h1 : ¬ S 1) (h2 : ¬ S 2) : Tabs w' :=
  ⟨fun c hc => f.cell (h.1 c hc) h1, fun i hi => ⟨f.cell (h.2 i hi).1 h2, f.cell (h.2 i hi).2 h2⟩⟩
theorem Tabs.old {w w' : World} (h : Tabs w) (f : Fr (fun _ => False) w w') : Tabs w' := h.fr f (fun h => h) (fun h => h)
theorem Tabs.size {w : World} (h : Tabs w) : 2 < w.heap.size := World.block_lt_of_cell? w _ (h.2 0 (by omega)).1
theorem bytes_get (l : List UInt8) (i : Nat) : (ByteArray.mk l.toArray).get! i = l.getD i 0 := by
  show (l.toArray)[i]! = l.getD i 0
  rw [List.getElem!_toArray, List.getElem!_eq_getElem?_getD, List.getD_eq_getElem?_getD]
  rfl
theorem decodeGo_list {l : List UInt8} (h : l ≠ []) : Lib.decodeGo ⟨l.toArray⟩ = decS l := by
  have hs : (ByteArray.mk l.toArray).size = l.length := by simp [ByteArray.size]
  have h0 : l.length ≠ 0 := fun e => h (List.length_eq_zero_iff.1 e)
  unfold Lib.decodeGo decS
  rw [hs, if_neg h0, Lib.decode_at, hs, bytes_get, bytes_get, bytes_get, bytes_get]
  rfl
set_option maxRecDepth 100000 in
theorem decN_bound (n b0 b1 b2 b3 : Nat) (hn : 1 ≤ n) : 1 ≤ (Lib.decodeN n b0 b1 b2 b3).2 ∧ (Lib.decodeN n b0 b1 b2 b3).2 ≤ n ∧ (Lib.decodeN n b0 b1 b2 b3).1 < 2147483648 := by
  unfold Lib.decodeN
  repeat' split
  all_goals (simp only; omega)
theorem decS_bound {l : List UInt8} (h : l ≠ []) : 1 ≤ (decS l).2 ∧ (decS l).2 ≤ l.length ∧ (decS l).1 < 2147483648 := by
  have h0 : l.length ≠ 0 := fun e => h (List.length_eq_zero_iff.1 e)
  exact decN_bound _ _ _ _ _ (by omega)
end Go.Q
namespace Go.Proofs.YtgffhiopbnkjbaaGreatDoor
open Go Go.RowKit Go.Q
theorem decode_any (v : Value) (l : List UInt8) (w : World) (hv : Bytes w v l) (h : l ≠ []) (hT : Tabs w) :
    Calls Tryz.prog 216 #[v] w fun e w' => e = .returned (.tuple #[.int .i32 (decS l).1, .int .i64 (decS l).2]) ∧ Fr (fun _ => False) w w' := by
  have h0 : l.length ≠ 0 := fun e => h (List.length_eq_zero_iff.1 e)
  obtain ⟨a, cap, rfl, _, _, hx⟩ := hv.form
  obtain ⟨b, o, rfl, hc⟩ := hx (by omega)
  have hs : (ByteArray.mk l.toArray).size = l.length := by simp [ByteArray.size]
  have H := Go.Proofs.Tryz.utf8_DecodeRune ⟨l.toArray⟩ b o cap w hT (fun j hj => by
    rw [hs] at hj
    rw [bytes_get, List.getD_eq_getElem?_getD, List.getElem?_eq_getElem hj]
    exact hc j _ (List.getElem?_eq_getElem hj))
  rw [decodeGo_list h, hs] at H
  refine H.mono ?_
  rintro e w' ⟨rfl, hb⟩
  exact ⟨rfl, Fr.of_below hb⟩
end Go.Proofs.YtgffhiopbnkjbaaGreatDoor

namespace Go.Q
open Go Go.RowKit
/-- The sign in front; below 0: none. -/
def signAt (l : List UInt8) : Int := if (decS l).1 = 65533 ∧ (decS l).2 ≤ 1 then -1 else ((decS l).1 : Int)
theorem wideS_cons (f : Nat) (x : UInt8) (t : List UInt8) : wideS (f + 1) (x :: t) = signAt (x :: t) :: wideS f ((x :: t).drop (decS (x :: t)).2) := rfl
end Go.Q
namespace Go.Proofs.YtgffhiopbnkjbaaGreatDoor
open Go Go.RowKit Go.Q
attribute [local go_sem] Oper.semAt_some

set_option maxRecDepth 100000 in
set_option maxHeartbeats 1000000 in
theorem wide1_iter (v : Value) (l : List UInt8) (cb base : Nat) (w : World) (hc : Blk w cb 23 #[v]) (hv : Bytes w v l) (hoff : Off v l.length (fun k => base ≤ k)) (hcb : base ≤ cb) (hT : Tabs w) (h2 : 2 < base) :
    Iter Tryz.prog 215 #[pt cb] (wideS l.length l) cb base w := by
  intro lp J Jx W hW hJ hJx hY h0
  have BW := hc.fr hW (fun h => h)
  have hv1 := hv.old hW
  have hT1 := hT.old hW
  refine callsIn_of_wp Tryz.func215 rfl trivial ?_ rfl
  simp only [Tryz.ntmps215, List.size_toArray, List.length_cons, List.length_nil, Nat.reduceAdd, Nat.reduceSub, Array.replicate_succ, Array.replicate_zero, List.push_toArray, List.append_toArray, List.nil_append, List.cons_append]
  gi_wp2
  gi_loopw [6] (fun _ wr => ∃ (pre : List Int) (r : List UInt8) (u : Value) (f : Nat), wideS l.length l = pre ++ wideS f r ∧ r.length ≤ f ∧ Blk wr cb 23 #[u] ∧ Bytes wr u r ∧ Off u r.length (fun k => base ≤ k) ∧ Tabs wr ∧ J pre wr) (fun _ wr => cellLen wr cb)
  case atStart => exact ⟨[], l, v, l.length, rfl, Nat.le_refl _, BW, hv1, hoff, hT1, h0⟩
  case round =>
    obtain ⟨pre, r, u, f, hxs, hf, B, hr, ho, hTr, hj⟩ := hrel
    rcases r with _ | ⟨x, t⟩
    · obtain ⟨a, cap, rfl, hcap, hmax, hx⟩ := Vals.form hr
      have e0 := B.cell 0
      simp at e0
      simp only [List.length_nil] at *
      have hxn : wideS l.length l = pre := by rw [hxs]; cases f <;> simp [wideS]
      gi_wp2
      go_end0
      exact ⟨⟨_, rfl⟩, .inl (by rw [hxn]; exact hj)⟩
    · obtain ⟨f, rfl⟩ : ∃ g, f = g + 1 := ⟨f - 1, by simp only [List.length_cons] at hf; omega⟩
      rw [wideS_cons] at hxs
      obtain ⟨b1, b2, b3⟩ := decS_bound (l := x :: t) (by simp)
      have HD := Lib.hid (decode_any u (x :: t) wr hr (by simp) hTr)
      obtain ⟨a, cap, rfl, hcap, hmax, hx⟩ := Vals.form hr
      obtain ⟨b, o, rfl, hcell⟩ := hx (by simp)
      obtain ⟨k, hk⟩ : ∃ k, k = (decS (x :: t)).2 := ⟨_, rfl⟩
      obtain ⟨R, hR⟩ : ∃ R, R = (decS (x :: t)).1 := ⟨_, rfl⟩
      have hsg : signAt (x :: t) = if R = 65533 ∧ k ≤ 1 then -1 else (R : Int) := by rw [hk, hR]; rfl
      obtain ⟨n, hn⟩ : ∃ n, n = (x :: t).length := ⟨_, rfl⟩
      obtain ⟨r, hr0⟩ : ∃ r, r = x :: t := ⟨_, rfl⟩
      rw [← hk] at hxs b1 b2 HD
      rw [← hR] at b3 HD
      rw [← hn] at hf hcap B hr ho hx b2 HD
      rw [← hr0] at hxs hr hn hsg
      have e0 := B.cell 0
      simp at e0
      have hn0 : 0 < n := by rw [hn, hr0]; simp
      have q1 : (0 : Int) < (n : Int) := by omega
      have hwr : wrap64 (R : Int) = (R : Int) := wrap_nat R (by omega)
      have hz1 : (k : Int) ≤ (n : Int) := by omega
      have hz2 : (0 : Int) ≤ (k : Int) := by omega
      have hz3 : k ≤ n := b2
      have hz4 : k ≤ cap := by omega
      have hz5 : (n : Int) ≤ (cap : Int) := by omega
      have HN := Lib.hid hn
      clear hr0 hk hR hx hcell hn
      have hcases : (R = 65533 ∧ k ≤ 1 ∧ signAt r = -1) ∨ (R = 65533 ∧ ¬ k ≤ 1 ∧ signAt r = 65533) ∨ (R ≠ 65533 ∧ signAt r = (R : Int)) := by
        by_cases h1 : R = 65533
        · by_cases h3 : k ≤ 1
          · exact .inl ⟨h1, h3, by rw [hsg, if_pos ⟨h1, h3⟩]⟩
          · exact .inr (.inl ⟨h1, h3, by rw [hsg, if_neg (fun h => h3 h.2), h1]; rfl⟩)
        · exact .inr (.inr ⟨h1, by rw [hsg, if_neg (fun h => h1 h.1)]⟩)
      have hb : ¬ base ≤ b := ho hn0 b rfl
      clear hsg
      rcases hcases with ⟨h1, h3, hs⟩ | ⟨h1, h3, hs⟩ | ⟨h1, hs⟩
      case' inl =>
        subst h1
        have q2 : (k : Int) ≤ 1 := by omega
      case' inr.inl =>
        subst h1
        have q2 : ¬ (k : Int) ≤ 1 := by omega
      case' inr.inr =>
        have q2 : ((R : Int) == 65533) = false := beq_eq_false_iff_ne.2 (by omega)
        have q3 : (R == 65533) = false := beq_eq_false_iff_ne.2 h1
      all_goals
        gi_wp2_with (refine ⟨trivial, ?_⟩; gi_at_call 216; refine (callsIn_wide.2 HD.out).mono ?_; rintro e w2 ⟨rfl, F2⟩; have B2 := B.fr F2 (fun h => h); have e2 := B2.cell 0; have f2 := B2.frozen 0; simp at e2; obtain ⟨fn, tmps, assign, body, hyy, hR⟩ := hY pre _ _ w2 hxs (hJ _ _ _ hj (F2.mono (fun _ _ h => h.elim))); rw [hs] at hyy)
        refine hR.mono ?_
        rintro e W3 (⟨rfl, hJ3, F3⟩ | ⟨rfl, hJx3⟩)
        · have B3 := B2.fr F3 (fun h => h.2 rfl)
          have e3 := B3.cell 0
          have f3 := B3.frozen 0
          simp at e3
          have hr3 : Bytes W3 (.slice (some ⟨b, o, none⟩) n cap) r := (hr.old F2).fr F3 (fun h0 k hk hs => by
            simp only [Value.ownBlock, Option.some.injEq] at hk
            subst hk
            exact hb hs.1)
          have hT3 := (hTr.old F2).fr F3 (fun h => by omega) (fun h => by omega)
          have HT3 := Lib.hid hT3
          have HJ3 := Lib.hid hJ3
          clear hyy hJ3 hT3
          gi_wp2
          obtain ⟨B4, hr4, ho4, F4⟩ := slice_on B3 hr3 hb hcb k (n - k) (cap - k) (if cap = k then some ⟨b, o, none⟩ else some ⟨b, o + k, none⟩) (by omega) (fun h => if_neg (by omega)) (by omega) (by omega)
          have hdl : (r.drop k).length = n - k := by rw [List.length_drop, ← HN.out]
          go_roundw
          case rel => exact ⟨pre ++ [signAt r], r.drop k, _, f, by rw [hxs]; simp, by rw [hdl]; omega, B4, hr4, by rw [hdl]; exact ho4, HT3.out.fr F4 (by omega) (by omega), hJ _ _ _ HJ3.out F4⟩
          case measure =>
            rw [cellLen_of B4, cellLen_of B]
            omega
        · gi_wp2
          refine bodyPost_ret (results_none rfl _ _ _) rfl ?_
          exact ⟨⟨_, rfl⟩, .inr ⟨_, ⟨wideS f (r.drop k), by simp [hxs]⟩, hJx3⟩⟩
end Go.Proofs.YtgffhiopbnkjbaaGreatDoor

namespace Go.Proofs.YtgffhiopbnkjbaaGreatDoor
open Go Go.RowKit Go.Q
attribute [local go_sem] Oper.semAt_some

/-- What signs gives: a function over the signs. -/
def SigOut (w w' : World) (l : List Int) (base : Nat) (e : Ending) : Prop :=
  ∃ gf cb : Nat, e = .returned (.func (.func gf) #[] #[pt cb]) ∧ base ≤ cb ∧ w.heap.size ≤ cb ∧ cb < w'.heap.size ∧ (∀ args w, (callFunc gf args).run Tryz.prog w = .ok (.enter gf args) w) ∧ Iter Tryz.prog gf #[pt cb] l cb base w'

set_option maxRecDepth 20000 in
theorem signs_any (k : Int) (v : Value) (b : List UInt8) (w : World) (base : Nat) (hv : Bytes w v b) (hoff : Off v b.length (fun k => base ≤ k)) (hb : base ≤ w.heap.size) (hT : Tabs w) (h2 : 2 < base) :
    Calls Tryz.prog 134 #[.agg #[.int .i64 k, v]] w fun e w' => SigOut w w' (signsS k b) base e ∧ Fr (fun _ => False) w w' := by
  have F : Fr (fun _ => False) w ((w.alloc (.cells #[.int .i64 k, v] 107)).alloc (.cells #[v] 23)) := ((Fr.refl w).alloc _).alloc _
  have B := Blk.new (w.alloc (.cells #[.int .i64 k, v] 107)) 23 #[v]
  rw [World.size_alloc] at B
  have hv1 := hv.old F
  have hT1 := hT.old F
  have hcb : base ≤ w.heap.size + 1 := by omega
  have hlt : w.heap.size + 1 < ((w.alloc (.cells #[.int .i64 k, v] 107)).alloc (.cells #[v] 23)).heap.size := by simp
  obtain ⟨a, cap, rfl, -⟩ := hv.form
  have H12 := wide1_iter _ b _ base _ B hv1 hoff hcb hT1 h2
  have H30 := pairs1_iter _ b _ base _ B hv1 hoff hcb
  have h0 := B.cell 0
  simp only [List.getElem?_toArray, List.getElem?_cons_zero] at h0
  have H0 := single1_iter _ b _ base _ h0 hv1 hoff
  have HH12 := Lib.hid H12
  have HH30 := Lib.hid H30
  have HH0 := Lib.hid H0
  have HF := Lib.hid F
  have HLT := Lib.hid hlt
  clear H12 H30 H0 F hlt h0 B hv1 hv hoff hT1 hT
  have hk : k = 12 ∨ k = 30 ∨ (k ≠ 12 ∧ k ≠ 30) := by omega
  rcases hk with rfl | rfl | ⟨h12, h30⟩
  · go_enter Tryz.func134, Tryz.ntmps134
    go_wp2_with (first | (go_at_call 169; go_in))
    go_ret
    exact ⟨⟨215, w.heap.size + 1, rfl, hcb, Nat.le_succ _, HLT.out, enters_of Tryz.func215 (by kernel_rfl) rfl, HH12.out⟩, HF.out⟩
  · go_enter Tryz.func134, Tryz.ntmps134
    go_wp2_with (first | (go_at_call 170; go_in))
    go_ret
    exact ⟨⟨217, w.heap.size + 1, rfl, hcb, Nat.le_succ _, HLT.out, enters_of Tryz.func217 (by kernel_rfl) rfl, HH30.out⟩, HF.out⟩
  · have q1 : (k == 12) = false := beq_eq_false_iff_ne.2 h12
    have q2 : (k == 30) = false := beq_eq_false_iff_ne.2 h30
    have hs : signsS k b = byteInts b := by unfold signsS; rw [if_neg h12, if_neg h30]; rfl
    have HS := Lib.hid hs
    clear hs
    go_enter Tryz.func134, Tryz.ntmps134
    go_wp2_with (first | (go_at_call 171; go_in))
    go_ret
    exact ⟨⟨218, w.heap.size + 1, rfl, hcb, Nat.le_succ _, HLT.out, enters_of Tryz.func218 (by kernel_rfl) rfl, by rw [HS.out]; exact HH0.out⟩, HF.out⟩
end Go.Proofs.YtgffhiopbnkjbaaGreatDoor

namespace Go.Proofs.YtgffhiopbnkjbaaGreatDoor
open Go Go.RowKit Go.Q
attribute [local go_sem] Oper.semAt_some

set_option maxRecDepth 100000 in
set_option maxHeartbeats 2000000 in
theorem rightText_any (k : Int) (v : Value) (b : List UInt8) (w : World) (hv : Bytes w v b) (hT : Tabs w) :
    Calls Tryz.prog 127 #[.agg #[.int .i64 k, v]] w fun e w' => e = .returned (.bool (rightS k b)) ∧ Fr (fun _ => False) w w' := by
  obtain ⟨z, hz⟩ : ∃ z, z = w.heap.size := ⟨_, rfl⟩
  have h2 : 2 < z := by rw [hz]; exact hT.size
  have hoff : Off v b.length (fun k => z ≤ k) := fun h0 j hj hk => by
    have := hv.lt (by rw [byteCells_len]; exact h0) j hj
    omega
  obtain ⟨a, cap, rfl, -⟩ := hv.form
  have F0 : Fr (fun _ => False) w ((w.alloc (.cells #[.int .i64 k, .slice a b.length cap] 107)).alloc (.cells #[.bool false] 4)) := ((Fr.refl w).alloc _).alloc _
  have BT := (Blk.new w 107 #[.int .i64 k, .slice a b.length cap]).alloc (.cells #[.bool false] 4)
  have BR := Blk.new (w.alloc (.cells #[.int .i64 k, .slice a b.length cap] 107)) 4 #[.bool false]
  rw [World.size_alloc, ← hz] at BR
  rw [← hz] at BT
  have hv0 := hv.old F0
  have hT0 := hT.old F0
  have hs0 := F0.size
  have HF0 := Lib.hid F0
  have HZ := Lib.hid hz
  refine (callsIn_wide (n := 3)).1 ?_
  refine callsIn_of_wp_marks Tryz.func127 rfl trivial ?_ rfl
  simp only [Tryz.ntmps127, List.size_toArray, List.length_cons, List.length_nil, Nat.reduceAdd, Nat.reduceSub, Array.replicate_succ, Array.replicate_zero, List.push_toArray, List.append_toArray, List.nil_append, List.cons_append]
  gi_upto_region 1 with fail
  rw [← HZ.out]
  obtain ⟨w1, hw1⟩ : ∃ w1, w1 = ((w.alloc (.cells #[.int .i64 k, .slice a b.length cap] 107)).alloc (.cells #[.bool false] 4)) := ⟨_, rfl⟩
  rw [← hw1] at HF0 BT BR hv0 hT0 hs0 ⊢
  rw [← hz] at hs0
  clear hw1 F0 hv hT hz
  have z0 := BT.cell 0
  simp at z0
  cases hk : Go.Q.kindOk k with
  | false =>
    have hr : rightS k b = false := by unfold rightS; rw [hk]; rfl
    have HR := Lib.hid hr
    have HK := Lib.hid (known_any k w1)
    rw [hk] at HK
    clear hr hk
    gi_wp2_with (refine ⟨trivial, ?_⟩; gi_at_call 135; refine (callsIn_wide.2 HK.out).mono ?_; rintro e w2 ⟨rfl, F2⟩; have BR2 := BR.fr F2 (fun h => h); have r0 := BR2.cell 0; have f0 := BR2.frozen 0; simp at r0)
    have F4 : Fr (fun k => k = z + 1) w2 (w2.setCell ⟨z + 1, 0, none⟩ (.bool false)) := Fr.setCell (S := fun k => k = z + 1) (p := ⟨z + 1, 0, none⟩) (Fr.refl w2) (fun _ => rfl) _
    have r1 := (BR2.set 0 (.bool false)).cell 0
    simp at r1
    exact ⟨.bool false, by simp [results, Tryz.results127, go_sem, r1], by rw [HR.out], (HF0.out.trans F2).trans' F4 (fun i hi e => absurd hi (by rw [← HZ.out]; omega))⟩
  | true =>
    have hr : rightS k b = (signsS k b).all (mayS k) := by unfold rightS; rw [hk, Bool.true_and]
    have HR := Lib.hid hr
    have HK := Lib.hid (known_any k w1)
    rw [hk] at HK
    obtain ⟨xs, hxs⟩ : ∃ xs, xs = signsS k b := ⟨_, rfl⟩
    rw [← hxs] at HR
    have HXS := Lib.hid hxs
    clear hr hk hxs
    gi_wp2_with (refine ⟨trivial, ?_⟩; gi_at_call 135; refine (callsIn_wide.2 HK.out).mono ?_; rintro e w2 ⟨rfl, F2⟩; have BT2 := BT.fr F2 (fun h => h); have BR2 := BR.fr F2 (fun h => h); have t0 := BT2.cell 0; have t1 := BT2.cell 1; simp at t0 t1; have HG := Lib.hid (signs_any k _ b w2 z (hv0.old F2) hoff (Nat.le_trans hs0 F2.size) (hT0.old F2) h2))
    refine ⟨trivial, (callsIn_wide.2 HG.out).mono ?_⟩
    rintro e w3 ⟨⟨gf, cb, rfl, hzc, hgc, hcl, heg, hit⟩, F3⟩
    rw [← HXS.out] at hit
    have lr2 := BR2.lt
    have BT3 := BT2.fr F3 (fun h => h)
    have BR3 := BR2.fr F3 (fun h => h)
    have HF3 := Lib.hid ((HF0.out.trans F2).trans F3)
    have lr3 := BR3.lt
    have HIT := Lib.hid hit
    clear HG HK hv0 hT0 BT BR BT2 BR2 F2 F3 t0 t1 z0 hit
    gi_wp2
    refine range_law (gf := gf) (lb := #[pt cb]) rfl heg hcl (Nat.le_of_lt (Nat.lt_of_lt_of_le (Nat.lt_succ_self z) (Nat.le_of_lt lr3))) HIT.out rfl
      (fun pre W => Blk W z 107 #[.int .i64 k, .slice a b.length cap] ∧ Blk W (z + 1) 4 #[.bool false] ∧ Fr (fun _ => False) w W ∧ ∀ n ∈ pre, mayS k n = true)
      (fun c pre W => c = .ret ∧ Blk W (z + 1) 4 #[.bool false] ∧ Fr (fun _ => False) w W ∧ ∃ n ∈ pre, mayS k n = false)
      (fun s A B h f => ⟨h.1.fr f (by omega), h.2.1.fr f (by omega), h.2.2.1.trans' f (fun i hi e => by have := HZ.out; omega), h.2.2.2⟩)
      (fun c s A B h f => ⟨h.1, h.2.1.fr f (by omega), h.2.2.1.trans' f (fun i hi e => by have := HZ.out; omega), h.2.2.2⟩)
      ⟨BT3, BR3, HF3.out, by simp⟩
      (fun x => { tmps := #[.agg #[.int .i64 k, .slice a b.length cap], .pointer (some ⟨z, 0, none⟩), .pointer (some ⟨z + 1, 0, none⟩), .int .i64 x, .pointer (some ⟨z, 0, none⟩), .int .i64 k, .bool true, .bool false, .agg #[.int .i64 k, .slice a b.length cap], .func (.func gf) #[] #[pt cb], .int .i64 x, undef, undef, undef, undef, undef], defers := [] }) ?assign ?body ?done ?stop
    case assign =>
      intro l x W K hK
      gi_wp2
      exact hK
    case body =>
      rintro l pre x rest W hx ⟨BT, BR, F, hall⟩ hE
      have t0 := BT.cell 0
      have r0 := BR.cell 0
      have f0 := BR.frozen 0
      simp at t0 r0
      obtain ⟨m, hm⟩ : ∃ m, m = mayS k x := ⟨_, rfl⟩
      have HM := Lib.hid hm
      have HY := Lib.hid (may_any k x W)
      rw [← hm] at HY
      clear hm HIT
      cases m with
      | false =>
        gi_wp2_with (refine ⟨trivial, ?_⟩; gi_at_call 136; refine (CallsIn.inRound l (callsIn_wide.2 HY.out)).mono ?_; rintro e W2 ⟨rfl, rfl⟩)
        have F4 : Fr (fun k => k = z + 1) W (W.setCell ⟨z + 1, 0, none⟩ (.bool false)) := Fr.setCell (S := fun k => k = z + 1) (p := ⟨z + 1, 0, none⟩) (Fr.refl W) (fun _ => rfl) _
        have B4 := BR.set 0 (.bool false)
        simp at B4
        exact ⟨F4.mono (fun k _ e => ⟨by omega, by omega, by omega, by omega⟩), rfl, B4, F.trans' F4 (fun i hi e => by have := HZ.out; omega), x, by simp, HM.out.symm⟩
      | true =>
        gi_wp2_with (refine ⟨trivial, ?_⟩; gi_at_call 136; refine (CallsIn.inRound l (callsIn_wide.2 HY.out)).mono ?_; rintro e W2 ⟨rfl, rfl⟩)
        refine ⟨Fr.refl W, BT, BR, F, fun n hn => ?_⟩
        rcases List.mem_append.1 hn with h | h
        · exact hall n h
        · rw [List.mem_singleton.1 h]; exact HM.out.symm
    case done =>
      rintro D W hD ⟨BT, BR, F, hall⟩ hK
      have hr : rightS k b = true := by rw [HR.out, List.all_eq_true]; exact hall
      have HRR := Lib.hid hr
      have r0 := BR.cell 0
      have f0 := BR.frozen 0
      simp at r0
      have F4 : Fr (fun k => k = z + 1) W (W.setCell ⟨z + 1, 0, none⟩ (.bool true)) := Fr.setCell (S := fun k => k = z + 1) (p := ⟨z + 1, 0, none⟩) (Fr.refl W) (fun _ => rfl) _
      have B4 := BR.set 0 (.bool true)
      simp at B4
      have hK4 := (F4.block D (Array.getElem?_eq_some_iff.1 hK).1 (by omega)).trans hK
      have F5 : Fr (fun k => k = D) (W.setCell ⟨z + 1, 0, none⟩ (.bool true)) ((W.setCell ⟨z + 1, 0, none⟩ (.bool true)).putObj D (.deferred none)) := Fr.putObj (S := fun k => k = D) (Fr.refl _) D (fun _ => rfl) _
      have r5 := (B4.fr F5 (by omega)).cell 0
      simp at r5
      clear hr HIT
      gi_wp2
      refine ⟨by simp, .inl ⟨_, _, rfl, run_takeDeferred hK4, ?_⟩⟩
      exact ⟨.bool true, by simp [results, Tryz.results127, go_sem, r5], by rw [HRR.out], (F.trans' F4 (fun i hi e => by have := HZ.out; omega)).trans' F5 (fun i hi e => by have := HZ.out; omega)⟩
    case stop =>
      rintro D c pre W hD hpre ⟨rfl, BR, F, n, hn, hm⟩ hK
      have hr : rightS k b = false := by rw [HR.out, List.all_eq_false]; exact ⟨n, hpre.subset hn, by rw [hm]; simp⟩
      have HRR := Lib.hid hr
      have r0 := BR.cell 0
      simp at r0
      have F5 : Fr (fun k => k = D) W (W.putObj D (.deferred none)) := Fr.putObj (S := fun k => k = D) (Fr.refl _) D (fun _ => rfl) _
      have r5 := (BR.fr F5 (by omega)).cell 0
      simp at r5
      clear hr HIT
      gi_wp2
      refine ⟨by simp, .inl ⟨_, _, rfl, run_takeDeferred hK, ?_⟩⟩
      exact ⟨.bool false, by simp [results, Tryz.results127, go_sem, r5], by rw [HRR.out], F.trans' F5 (fun i hi e => by have := HZ.out; omega)⟩
end Go.Proofs.YtgffhiopbnkjbaaGreatDoor

namespace Go.Q
open Go Go.RowKit
/-- An append whose run is known, inside a fence. -/
theorem wpListIn_append_run {P : Program} {F : Fence} {n : Nat} {w : World} {ops : Array Oper} {rest : List Oper} {o : Oper} {a : Act} {Q : Exit → Act → World → Prop} (hgd : o.guard = none) (s x : Operand) (t : TypeId)
    (ho : o.op = .call { callee := .builtin .append, args := #[s, x], argTypes := #[t, t] }) (v' : Value) (w' : World)
    (hr : (Builtin.append_ #[t, t] o.type #[a.eval s, a.eval x]).run P w = .ok v' w') (h : wpListIn F n P ops Q rest (a.put o.dst v') w') : wpListIn F n P ops Q (o :: rest) a w := by
  refine wpListIn_plain hgd fun K hK => ?_
  unfold Oper.wpIn
  refine ⟨by simp [Oper.about, ho, resolve, Target.leads, Sem.run_pure], ?_⟩
  rw [Oper.semAt_plain F _ _ (by rw [ho]; intro c hc; cases hc)]
  simp [execOp, ho, resolve, invoke, builtin, hr, Result.andThen]
  exact hK _ _ h
theorem wideS_len : ∀ (f : Nat) (l : List UInt8), (wideS f l).length ≤ f
  | 0, [] => by simp [wideS]
  | 0, _ :: _ => by simp [wideS]
  | f + 1, [] => by simp [wideS]
  | f + 1, x :: t => by
    have := wideS_len f ((x :: t).drop (decS (x :: t)).2)
    simp only [wideS, List.length_cons]
    omega
theorem pairsS_len : ∀ l : List UInt8, (pairsS l).length ≤ l.length
  | [] => by simp [pairsS]
  | [_] => by simp [pairsS]
  | _ :: _ :: t => by
    have := pairsS_len t
    simp only [pairsS, List.length_cons]
    omega
theorem signsS_len (k : Int) (b : List UInt8) : (signsS k b).length ≤ b.length := by
  unfold signsS
  split
  · exact wideS_len _ _
  split
  · exact pairsS_len _
  · simp
end Go.Q
namespace Go.Proofs.YtgffhiopbnkjbaaGreatDoor
open Go Go.RowKit Go.Q
attribute [local go_sem] Oper.semAt_some

set_option maxRecDepth 100000 in
set_option maxHeartbeats 2000000 in
theorem signsText_any (k : Int) (v : Value) (b : List UInt8) (w : World) (hv : Bytes w v b) (hT : Tabs w) (hbl : b.length ≤ 1099511627) (hok : rightS k b = true) :
    Calls Tryz.prog 95 #[.agg #[.int .i64 k, v]] w fun e w' => (∃ u, e = .returned (.tuple #[u, .int .i64 0]) ∧ w'.ownsRow w.heap.size 3 1 u (signsS k b).length (intCells (signsS k b))) ∧ Fr (fun _ => False) w w' := by
  obtain ⟨xs, hxs⟩ : ∃ xs, xs = signsS k b := ⟨_, rfl⟩
  have hxl : xs.length ≤ b.length := by rw [hxs]; exact signsS_len k b
  rw [← hxs]
  have HXS := Lib.hid hxs
  clear hxs
  obtain ⟨z, hz⟩ : ∃ z, z = w.heap.size := ⟨_, rfl⟩
  have h2 : 2 < z := by rw [hz]; exact hT.size
  have hoff : Off v b.length (fun k => z ≤ k) := fun h0 j hj hk => by
    have := hv.lt (by rw [byteCells_len]; exact h0) j hj
    omega
  obtain ⟨a, cap, rfl, -⟩ := hv.form
  have F0 : Fr (fun _ => False) w (w.alloc (.cells #[.int .i64 k, .slice a b.length cap] 107)) := (Fr.refl w).alloc _
  have BT := Blk.new w 107 #[.int .i64 k, .slice a b.length cap]
  rw [← hz] at BT
  have hv0 := hv.old F0
  have hT0 := hT.old F0
  have hs0 := F0.size
  have HF0 := Lib.hid F0
  have HZ := Lib.hid hz
  refine (callsIn_wide (n := 3)).1 ?_
  refine callsIn_of_wp_marks Tryz.func95 rfl trivial ?_ rfl
  simp only [Tryz.ntmps95, List.size_toArray, List.length_cons, List.length_nil, Nat.reduceAdd, Nat.reduceSub, Array.replicate_succ, Array.replicate_zero, List.push_toArray, List.append_toArray, List.nil_append, List.cons_append]
  gi_upto_region 1 with fail
  rw [← HZ.out]
  obtain ⟨w1, hw1⟩ : ∃ w1, w1 = w.alloc (.cells #[.int .i64 k, .slice a b.length cap] 107) := ⟨_, rfl⟩
  rw [← hw1] at HF0 BT hv0 hT0 hs0 ⊢
  rw [← hz] at hs0
  clear hw1 F0 hv hT hz
  have t0 := BT.cell 0
  have t1 := BT.cell 1
  simp at t0 t1
  have HK := Lib.hid (rightText_any k _ b w1 hv0 hT0)
  rw [hok] at HK
  clear hok
  gi_upto_region 4 with (refine ⟨trivial, ?_⟩; gi_at_call 127; refine (callsIn_wide.2 HK.out).mono ?_; rintro e w2 ⟨rfl, F2⟩; have BT2 := BT.fr F2 (fun h => h); have t0 := BT2.cell 0; have t1 := BT2.cell 1; simp at t0 t1)
  obtain ⟨g, hg⟩ : ∃ g, g = w2.heap.size := ⟨_, rfl⟩
  have F3 : Fr (fun _ => False) w2 (w2.alloc (.cells #[.slice none 0 0] 22)) := (Fr.refl w2).alloc _
  have BT3 := BT2.fr F3 (fun h => h)
  have BG3 := Blk.new w2 22 #[.slice none 0 0]
  have hs1 := F2.size
  have HSG := Lib.hid (signs_any k _ b _ z ((hv0.old F2).old F3) hoff (Nat.le_trans hs0 (F2.trans F3).size) ((hT0.old F2).old F3) h2)
  have HF3 := Lib.hid ((HF0.out.trans F2).trans F3)
  rw [← hg] at BG3 ⊢
  have hgz : z < g := by have := BT2.lt; omega
  have hgw := BG3.lt
  clear HK hv0 hT0 BT BT2 F2 F3 t0 t1 hg hs1
  generalize (w2.alloc (.cells #[.slice none 0 0] 22)) = w3 at *
  have t0 := BT3.cell 0
  have t1 := BT3.cell 1
  simp at t0 t1
  gi_wp2_with fail
  refine ⟨trivial, (callsIn_wide.2 HSG.out).mono ?_⟩
  rintro e w4 ⟨⟨gf, cb, rfl, hzc, hgc, hcl, heg, hit⟩, F4⟩
  rw [← HXS.out] at hit
  have BT4 := BT3.fr F4 (fun h => h)
  have BG4 := BG3.fr F4 (fun h => h)
  have HF4 := Lib.hid (HF3.out.trans F4)
  have lg4 := BG4.lt
  have HIT := Lib.hid hit
  clear HSG BT3 BG3 F4 t0 t1 hit HF3
  gi_wp2
  obtain ⟨E, hE0⟩ : ∃ E, E = w4.heap.size := ⟨_, rfl⟩
  have HE := Lib.hid hE0
  refine range_law (gf := gf) (lb := #[pt cb]) rfl heg hcl (base := z) (Nat.le_of_lt (Nat.lt_trans hgz lg4)) HIT.out rfl
    (fun pre W => ∃ u, Blk W g 22 #[u] ∧ W.ownsRow (E + 2) 3 1 u pre.length (intCells pre) ∧ Fr (fun _ => False) w W)
    (fun _ _ _ => False)
    (fun s A B h f => by
      obtain ⟨u, h1, h3, h4⟩ := h
      exact ⟨u, h1.fr f (by omega), ownsRow_fr h3 f (fun j hj e => by have := ((Vals.of_own h3).2 j hj).1; omega), h4.trans' f (fun i hi e => by have := HZ.out; omega)⟩)
    (fun c s A B h f => h)
    ⟨_, BG4, ⟨rfl, .inl ⟨rfl, rfl⟩⟩, HF4.out⟩
    (fun x => { tmps := #[.agg #[.int .i64 k, .slice a b.length cap], .pointer (some ⟨z, 0, none⟩), .slice none 0 0, .int .i64 0, .pointer (some ⟨g, 0, none⟩), .int .i64 x, .agg #[.int .i64 k, .slice a b.length cap], .bool true, .bool false, .agg #[.int .i64 k, .slice a b.length cap], .func (.func gf) #[] #[pt cb], .int .i64 x, undef, undef, undef, undef, undef], defers := [] }) ?assign ?body ?done ?stop
  case assign =>
    intro l x W K hK
    gi_wp2
    exact hK
  case body =>
    rintro l pre x rest W hx ⟨u, BG, hown, F⟩ hE
    have hpl : pre.length + (rest.length + 1) = xs.length := by rw [hx]; simp
    have hgW := BG.lt
    have BX := Blk.new W 3 #[.int .i64 x]
    have F1 : Fr (fun _ => False) W (W.alloc (.cells #[.int .i64 x] 3)) := (Fr.refl W).alloc _
    have hsrc : Ints (W.alloc (.cells #[.int .i64 x] 3)) (.slice (some ⟨W.heap.size, 0, none⟩) 1 1) [x] := Vals.of_block BX (by unfold maxLen; simp)
    obtain ⟨u', W2, hrun, hown2, F2, hb2⟩ := append_ints (ownsRow_fr hown F1 (fun _ _ h => h)) (some ⟨W.heap.size, 0, none⟩) 1 1 [x] hsrc (by omega) (by rw [HE.out]; have := F1.size; omega)
    obtain ⟨a', m', c', rfl, rfl⟩ := own_shape hown2
    have hug : ∀ j, u.ownBlock = some j → E + 2 ≤ j ∧ j < W.heap.size := (Vals.of_own hown).2
    have BG2 := (BG.fr F1 (fun h => h)).fr F2 (fun e => by have := (hug _ e).1; have := HE.out; omega)
    have hug2 : ∀ j, (Value.slice a' (pre.length + 1) c').ownBlock = some j → E + 2 ≤ j := fun j hj => ((Vals.of_own hown2).2 j hj).1
    have G2 : Fr (fun k => E + 2 ≤ k) W W2 := (F1.mono (fun _ _ h => h.elim)).trans (F2.mono (fun j _ e => (hug j e).1))
    have t0 := BG.cell 0
    have t2 := BG2.cell 0
    have f2 := BG2.frozen 0
    have hal := alloc_old
    simp at t0 t2
    have HRUN := Lib.hid hrun
    have HOWN2 := Lib.hid hown2
    have HUG2 := Lib.hid hug2
    clear hrun hown2 hug2 hug HIT hE0 BX hsrc F1 F2
    gi_wp2_with (gi_at_builtin; refine wpListIn_append_run (by rfl) (.tmp 12) (.tmp 14) 22 (by rfl) _ W2 (by exact HRUN.out) ?_)
    have F5 : Fr (fun k => k = g) W2 (W2.setCell ⟨g, 0, none⟩ (.slice a' (pre.length + 1) c')) := Fr.setCell (S := fun k => k = g) (p := ⟨g, 0, none⟩) (Fr.refl W2) (fun _ => rfl) _
    have B5 := BG2.set 0 (.slice a' (pre.length + 1) c')
    simp at B5
    have hEe := HE.out
    have hZe := HZ.out
    refine ⟨(G2.mono (fun j _ e => ⟨by omega, by omega, by omega, by omega⟩)).trans (F5.mono (fun j _ e => ⟨by omega, by omega, by omega, by omega⟩)), _, B5, ?_, (F.trans' G2 (fun i hi e => by omega)).trans' F5 (fun i hi e => by omega)⟩
    rw [List.length_append]
    exact ownsRow_fr HOWN2.out F5 (fun j hj e => by have := HUG2.out j hj; omega)
  case done =>
    rintro D W hD ⟨u, BG, hown, F⟩ hK
    have hEe := HE.out
    have F5 : Fr (fun k => k = D) W (W.putObj D (.deferred none)) := Fr.putObj (S := fun k => k = D) (Fr.refl _) D (fun _ => rfl) _
    have t0 := BG.cell 0
    simp at t0
    have hown5 := own_le (ownsRow_fr hown F5 (fun j hj e => by have := ((Vals.of_own hown).2 j hj).1; omega)) (base' := w.heap.size) (by have := HZ.out; omega)
    have HO5 := Lib.hid hown5
    have HF5 := Lib.hid (F.trans' F5 (fun i hi e => by have := HZ.out; omega))
    have HE2 := Lib.hid hEe
    clear hown hown5 HIT hE0 hEe F F5
    gi_wp2
    refine ⟨by simp, .inl ⟨_, _, rfl, run_takeDeferred hK, ?_⟩⟩
    exact ⟨.tuple #[u, .int .i64 0], by simp [results, Tryz.results95, go_sem], ⟨u, rfl, HO5.out⟩, HF5.out⟩
  case stop =>
    rintro D c pre W hD hpre h hK
    exact h.elim

set_option maxRecDepth 20000 in
theorem signsText_bad (k : Int) (v : Value) (b : List UInt8) (w : World) (hv : Bytes w v b) (hT : Tabs w) (hok : rightS k b = false) :
    Calls Tryz.prog 95 #[.agg #[.int .i64 k, v]] w fun e w' => e = .returned (.tuple #[.slice none 0 0, .int .i64 6]) ∧ Fr (fun _ => False) w w' := by
  obtain ⟨a, cap, rfl, -⟩ := hv.form
  have F0 : Fr (fun _ => False) w (w.alloc (.cells #[.int .i64 k, .slice a b.length cap] 107)) := (Fr.refl w).alloc _
  have BT := Blk.new w 107 #[.int .i64 k, .slice a b.length cap]
  have HK := Lib.hid (rightText_any k _ b _ (hv.old F0) (hT.old F0))
  rw [hok] at HK
  have HF0 := Lib.hid F0
  clear hok hv hT F0
  go_enter Tryz.func95, Tryz.ntmps95
  go_upto_region 1 with fail
  generalize (w.alloc (.cells #[.int .i64 k, .slice a b.length cap] 107)) = w1 at *
  have t0 := BT.cell 0
  have t1 := BT.cell 1
  simp at t0 t1
  clear BT
  go_wp2_with fail
  refine HK.out.mono ?_
  rintro e w2 ⟨rfl, F2⟩
  go_wp2_with fail
  exact bodyPost_ret (v := .tuple #[.slice none 0 0, .int .i64 6]) (by simp [results, Tryz.results95, go_sem]) rfl ⟨rfl, HF0.out.trans F2⟩
end Go.Proofs.YtgffhiopbnkjbaaGreatDoor

namespace Go.Q
open Go Go.RowKit
theorem enc_cells {n : Nat} (h : okSign n) : Lib.runeCells (n : Int) = Lib.byteCells (enc n) := by
  obtain ⟨h1, h2⟩ := h
  unfold Lib.runeCells enc Lib.byteCells
  split
  · rw [Lib.encodeRuneZ_one (by omega) (by omega)]
    simp only [List.map_cons, List.map_nil, u8 n (by omega)]
  split
  · rw [Lib.encodeRuneZ_two (by omega) (by omega)]
    simp only [List.map_cons, List.map_nil, u8 (192 + n / 64) (by omega), u8 (128 + n % 64) (by omega)]
    rfl
  split
  · rw [Lib.encodeRuneZ_three (by omega)]
    simp only [List.map_cons, List.map_nil, u8 (224 + n / 4096) (by omega), u8 (128 + n / 64 % 64) (by omega), u8 (128 + n % 64) (by omega)]
    rfl
  · rw [Lib.encodeRuneZ_four (by omega) (by omega)]
    simp only [List.map_cons, List.map_nil, u8 (240 + n / 262144) (by omega), u8 (128 + n / 4096 % 64) (by omega), u8 (128 + n / 64 % 64) (by omega), u8 (128 + n % 64) (by omega)]
    rfl
end Go.Q
namespace Go.Proofs.YtgffhiopbnkjbaaGreatDoor
open Go Go.RowKit Go.Q

/-- What put leaves. -/
def PutOut (w w' : World) (base : Nat) (v : Value) (n : Nat) (xs l : List UInt8) (e : Ending) : Prop :=
  ∃ a c, e = .returned (.slice a (n + l.length) c) ∧ w'.ownsRow base 5 1 (.slice a (n + l.length) c) (n + l.length) (Lib.byteCells (xs ++ l)) ∧ Fr (fun k => v.ownBlock = some k) w w'

set_option maxRecDepth 20000 in
set_option maxHeartbeats 1000000 in
theorem putText_any {w : World} {base n : Nat} {v : Value} {xs : List UInt8} (k : Int) (m : Nat) (hown : w.ownsRow base 5 1 v n (Lib.byteCells xs)) (hm : mayS k m = true) (hk : Go.Q.kindOk k = true) (hn : n ≤ 1099511627776) (hb : base ≤ w.heap.size) :
    Calls Tryz.prog 137 #[v, .int .i64 k, .int .i64 m] w fun e w' => PutOut w w' base v n xs (putS1 k m) e := by
  have hk' : k = 12 ∨ k = 19 ∨ k = 20 ∨ k = 22 ∨ k = 26 ∨ k = 30 := by simpa [Go.Q.kindOk] using hk
  by_cases h12 : k = 12
  · subst h12
    have hs : okSign m := by
      simp [mayS, surr] at hm
      unfold okSign
      omega
    have hp : putS1 12 m = enc m := rfl
    rw [hp]
    have hw : IntKind.i32.wrap (m : Int) = (m : Int) := by unfold okSign at hs; simp [IntKind.wrap, IntKind.signed, IntKind.bits]; omega
    have H := Lib.hid (Go.Proofs.Tryz.utf8_AppendRune_plain base v n (Lib.byteCells xs) (m : Int) (by omega) (by unfold okSign at hs; omega) w hown (by omega) hb)
    have hl := byteCells_len (enc m)
    rw [enc_cells hs, ← byteCells_append, hl] at H
    clear hown hs hm hk hk' hp hl
    go_enter Tryz.func137, Tryz.ntmps137
    go_wp2_with fail
    refine H.out.mono ?_
    rintro e w' ⟨v', rfl, h1, o, h2⟩
    obtain ⟨a, m', c, rfl, rfl⟩ := own_shape h1
    go_wp2_with fail
    go_ret
    refine ⟨a, c, rfl, h1, ?_⟩
    have f := Fr.of_grown h2
    exact ((Fr.refl (S := fun k => v.ownBlock = some k) w).alloc o).trans f
  · have q1 : (k == 12) = false := beq_eq_false_iff_ne.2 h12
    by_cases h30 : k = 30
    · subst h30
      have hb2 : m < 65536 := by simp [mayS, surr] at hm; omega
      obtain ⟨y1, hy1⟩ : ∃ y, y = m / 256 := ⟨_, rfl⟩
      obtain ⟨y2, hy2⟩ : ∃ y, y = m % 256 := ⟨_, rfl⟩
      have hw1 : IntKind.u8.wrap ((m : Int) / 256) = (y1 : Int) := by rw [hy1]; simp [IntKind.wrap, IntKind.signed, IntKind.bits]; omega
      have hw2 : IntKind.u8.wrap (m : Int) = (y2 : Int) := by rw [hy2]; simp [IntKind.wrap, IntKind.signed, IntKind.bits]
      have hp : putS1 30 m = [UInt8.ofNat y1, UInt8.ofNat y2] := by rw [hy1, hy2]; rfl
      rw [hp]
      have BX := Blk.new w 5 #[.int .u8 y1, .int .u8 y2]
      have F1 : Fr (fun _ => False) w (w.alloc (.cells #[.int .u8 y1, .int .u8 y2] 5)) := (Fr.refl w).alloc _
      have hsrc : Bytes (w.alloc (.cells #[.int .u8 y1, .int .u8 y2] 5)) (.slice (some ⟨w.heap.size, 0, none⟩) 2 2) [UInt8.ofNat y1, UInt8.ofNat y2] := by
        have h := Vals.of_block BX (by unfold maxLen; simp)
        have e : Lib.byteCells [UInt8.ofNat y1, UInt8.ofNat y2] = [.int .u8 y1, .int .u8 y2] := by simp only [Lib.byteCells, List.map_cons, List.map_nil, u8 y1 (by omega), u8 y2 (by omega)]
        show Vals _ _ (Lib.byteCells [UInt8.ofNat y1, UInt8.ofNat y2])
        rw [e]
        exact h
      obtain ⟨v', w2, hrun, h1, F2, _⟩ := append_bytes (ownsRow_fr hown F1 (fun _ _ h => h)) (some ⟨w.heap.size, 0, none⟩) 2 2 [UInt8.ofNat y1, UInt8.ofNat y2] hsrc (by omega) (Nat.le_trans hb F1.size)
      obtain ⟨a, m', c, rfl, rfl⟩ := own_shape h1
      have HRUN := Lib.hid hrun
      have HOWN := Lib.hid h1
      have HF := Lib.hid ((F1.mono (T := fun k => v.ownBlock = some k) (fun _ _ h => h.elim)).trans F2)
      clear hrun h1 F1 F2 BX hsrc hp hm hk hk' hown hy1 hy2
      go_enter Tryz.func137, Tryz.ntmps137
      go_wp2_with (at_builtin; refine wpList_append_run (by rfl) (.tmp 16) (.tmp 22) 23 (by rfl) _ w2 (by exact HRUN.out) ?_)
      go_ret
      exact ⟨a, c, rfl, HOWN.out, HF.out⟩
    · have q2 : (k == 30) = false := beq_eq_false_iff_ne.2 h30
      have hb : m < 256 := by
        rcases hk' with r | r | r | r | r | r <;> subst r <;> simp [mayS] at hm <;> omega
      have hw : IntKind.u8.wrap (m : Int) = (m : Int) := by simp [IntKind.wrap, IntKind.signed, IntKind.bits]; omega
      have hp : putS1 k m = [UInt8.ofNat m] := by unfold putS1; rw [if_neg h12, if_neg h30]; rfl
      rw [hp]
      have BX := Blk.new w 5 #[.int .u8 m]
      have F1 : Fr (fun _ => False) w (w.alloc (.cells #[.int .u8 m] 5)) := (Fr.refl w).alloc _
      have hsrc : Bytes (w.alloc (.cells #[.int .u8 m] 5)) (.slice (some ⟨w.heap.size, 0, none⟩) 1 1) [UInt8.ofNat m] := by
        have h := Vals.of_block BX (by unfold maxLen; simp)
        have e : Lib.byteCells [UInt8.ofNat m] = [.int .u8 m] := by simp only [Lib.byteCells, List.map_cons, List.map_nil, u8 m hb]
        show Vals _ _ (Lib.byteCells [UInt8.ofNat m])
        rw [e]
        exact h
      obtain ⟨v', w2, hrun, h1, F2, _⟩ := append_bytes (ownsRow_fr hown F1 (fun _ _ h => h)) (some ⟨w.heap.size, 0, none⟩) 1 1 [UInt8.ofNat m] hsrc (by omega) (Nat.le_trans ‹base ≤ w.heap.size› F1.size)
      obtain ⟨a, m', c, rfl, rfl⟩ := own_shape h1
      have HRUN := Lib.hid hrun
      have HOWN := Lib.hid h1
      have HF := Lib.hid ((F1.mono (T := fun k => v.ownBlock = some k) (fun _ _ h => h.elim)).trans F2)
      clear hrun h1 F1 F2 BX hsrc hp hm hk hk' hown
      go_enter Tryz.func137, Tryz.ntmps137
      go_wp2_with (at_builtin; refine wpList_append_run (by rfl) (.tmp 24) (.tmp 27) 23 (by rfl) _ w2 (by exact HRUN.out) ?_)
      go_ret
      exact ⟨a, c, rfl, HOWN.out, HF.out⟩
end Go.Proofs.YtgffhiopbnkjbaaGreatDoor

namespace Go.Q
open Go Go.RowKit
theorem enc_le (n : Nat) : (enc n).length ≤ 4 := by unfold enc; (repeat' split) <;> simp
theorem putS1_le (k n : Int) : (putS1 k n).length ≤ 4 := by
  unfold putS1
  split
  · exact enc_le _
  · split <;> simp
theorem ofS_take {k : Int} {l : List Int} {j : Nat} {n : Int} (h : l[j]? = some n) : ofS k (l.take (j + 1)) = ofS k (l.take j) ++ putS1 k n := by
  rw [List.take_add_one, h]
  simp [ofS]
theorem ofS_le (k : Int) (l : List Int) : (ofS k l).length ≤ 4 * l.length := by
  induction l with
  | nil => simp [ofS]
  | cons n l ih =>
    have := putS1_le k n
    simp only [ofS, List.flatMap_cons, List.length_append, List.length_cons] at ih ⊢
    omega
end Go.Q
namespace Go.Proofs.YtgffhiopbnkjbaaGreatDoor
open Go Go.RowKit Go.Q

set_option maxRecDepth 20000 in
set_option maxHeartbeats 2000000 in
theorem ofText_any (k : Int) (v : Value) (l : List Int) (w : World) (h : Ints w v l) (hk : Go.Q.kindOk k = true) (hm : ∀ n ∈ l, mayS k n = true) (hl : l.length ≤ 100000000) :
    Calls Tryz.prog 96 #[.int .i64 k, v] w fun e w' => (∃ u, e = .returned (.tuple #[.agg #[.int .i64 k, u], .int .i64 0]) ∧ w'.ownsRow w.heap.size 5 1 u (ofS k l).length (Lib.byteCells (ofS k l))) ∧ Fr (fun _ => False) w w' := by
  have H := Lib.hid h
  have HM := Lib.hid hm
  obtain ⟨a, cap, rfl, -⟩ := Ints.form h
  obtain ⟨z, hz⟩ : ∃ z, z = w.heap.size := ⟨_, rfl⟩
  have F0 : Fr (fun _ => False) w (w.alloc (.cells #[.int .i64 0, .slice none 0 0] 107)) := (Fr.refl w).alloc _
  have B0 := Blk.new w 107 #[.int .i64 0, .slice none 0 0]
  rw [← hz] at B0
  have HZ := Lib.hid hz
  have HF0 := Lib.hid F0
  have HKN := Lib.hid (known_any k (w.alloc (.cells #[.int .i64 0, .slice none 0 0] 107)))
  rw [hk] at HKN
  have HK := Lib.hid hk
  clear h F0 hz hk hm
  go_enter Tryz.func96, Tryz.ntmps96
  go_upto_region 1 with fail
  rw [← HZ.out]
  generalize (w.alloc (.cells #[.int .i64 0, .slice none 0 0] 107)) = w1 at *
  go_upto_region 4 with (first | (go_at_call 135; refine HKN.out.mono ?_; rintro e w2 ⟨rfl, F2⟩))
  obtain ⟨y, hy⟩ : ∃ y, y = w2.heap.size := ⟨_, rfl⟩
  have F3 : Fr (fun _ => False) w2 (w2.alloc (.cells #[.int .i64 k, .slice none 0 0] 107)) := (Fr.refl w2).alloc _
  have BZ := (B0.fr F2 (fun h => h)).fr F3 (fun h => h)
  have BY := Blk.new w2 107 #[.int .i64 k, .slice none 0 0]
  have hzy : z < y := by have := (B0.fr F2 (fun h => h)).lt; omega
  have hs3 : y + 1 = (w2.alloc (.cells #[.int .i64 k, .slice none 0 0] 107)).heap.size := by rw [hy, World.size_alloc]
  have HF3 := Lib.hid ((HF0.out.trans F2).trans F3)
  rw [← hy] at BY ⊢
  clear HKN B0 HF0 F2 F3 hy
  generalize (w2.alloc (.cells #[.int .i64 k, .slice none 0 0] 107)) = w3 at *
  go_wp2_with fail
  go_loopg [17] l.length (fun g i wr => ∃ (j : Nat) (u : Value), g = l.length - j ∧ j ≤ l.length ∧ i = .int .i64 j ∧ Blk wr z 107 #[.int .i64 0, .slice none 0 0] ∧ Blk wr y 107 #[.int .i64 k, u] ∧ wr.ownsRow (y + 1) 5 1 u (ofS k (l.take j)).length (Lib.byteCells (ofS k (l.take j))) ∧ Fr (fun _ => False) w wr ∧ y + 1 ≤ wr.heap.size)
  case atStart => exact ⟨0, _, rfl, Nat.zero_le _, rfl, BZ, BY, ⟨rfl, .inl ⟨rfl, rfl⟩⟩, HF3.out, by omega⟩
  case round =>
    obtain ⟨j, u, hg, hj, rfl, BZ, BY, hown, F, hsz⟩ := hrel
    have HG := Lib.hid hg
    clear hg
    by_cases hjl : j < l.length
    · obtain ⟨a0, cap0, he, _, _, hx⟩ := Ints.form (H.out.old F)
      simp only [Value.slice.injEq, true_and] at he
      obtain ⟨rfl, rfl⟩ := he
      obtain ⟨b, off, rfl, hy⟩ := hx (by omega)
      obtain ⟨n, hn⟩ : ∃ n, l[j]? = some n := ⟨_, List.getElem?_eq_getElem hjl⟩
      have e1 := hy j n hn
      have hmn := HM.out n (List.mem_of_getElem? hn)
      have hn0 : 0 ≤ n := by
        have hk' : k = 12 ∨ k = 19 ∨ k = 20 ∨ k = 22 ∨ k = 26 ∨ k = 30 := by simpa [Go.Q.kindOk] using HK.out
        rcases hk' with r | r | r | r | r | r <;> subst r <;> simp [mayS] at hmn <;> omega
      obtain ⟨m, rfl⟩ : ∃ m : Nat, n = m := ⟨n.toNat, by omega⟩
      have hle := ofS_le k (l.take j)
      rw [List.length_take] at hle
      have hft := ofS_take (k := k) hn
      have HFT := Lib.hid hft
      have y0 := BY.cell 0
      have y1 := BY.cell 1
      have g1 := BY.frozen 1
      simp at y0 y1
      have HP := Lib.hid (putText_any k m hown hmn HK.out (by omega) (by omega))
      have HMY := Lib.hid (may_any k m wr)
      rw [hmn] at HMY
      have r1 : (0 : Int) ≤ (j : Int) := by omega
      have r2 : (j : Int) < (l.length : Int) := by omega
      have huy : ∀ q, u.ownBlock = some q → y + 1 ≤ q := fun q hq => ((Vals.of_own hown).2 q hq).1
      have HUY := Lib.hid huy
      clear hx hy hn hmn hft hown huy
      go_wp2_with (first | (go_at_call 136; refine HMY.out.mono ?_; rintro e w5 ⟨rfl, rfl⟩))
      refine HP.out.mono ?_
      rintro e w5 ⟨a5, c5, rfl, h5, F5⟩
      have BY5 := BY.fr F5 (fun e => by have := HUY.out _ e; omega)
      have BZ5 := BZ.fr F5 (fun e => by have := HUY.out _ e; omega)
      have g5 := BY5.frozen 1
      have y5 := BY5.cell 1
      simp at y5
      generalize (ofS k (l.take j)).length + (putS1 k m).length = N5 at *
      have F6 : Fr (fun q => q = y) w5 (w5.setCell ⟨y, 1, none⟩ (.slice a5 N5 c5)) := Fr.setCell (S := fun q => q = y) (p := ⟨y, 1, none⟩) (Fr.refl w5) (fun _ => rfl) _
      have BY6 := BY5.set 1 (.slice a5 N5 c5)
      simp at BY6
      have BZ6 := BZ5.fr F6 (by omega)
      have h6 := ownsRow_fr h5 F6 (fun q hq e => by have := ((Vals.of_own h5).2 q hq).1; omega)
      have G6 := (F.trans' F5 (fun i hi e => by have := HUY.out _ e; have := HZ.out; omega)).trans' F6 (fun i hi e => by have := HZ.out; omega)
      have hs6 := F6.size
      have hs5 := F5.size
      have hlen : N5 = (ofS k (l.take (j + 1))).length := by
        have := h6.1
        rw [byteCells_len, Nat.mul_one] at this
        rw [HFT.out, ← this]
      have HLEN := Lib.hid hlen
      have HG6 := Lib.hid G6
      have HH6 := Lib.hid h6
      clear hlen G6 h6 h5 F5 F6 F HP HMY
      go_wp2_with fail
      go_roundg (l.length - (j + 1))
      case measure => rw [HG.out]; omega
      case rel => exact ⟨j + 1, _, rfl, by omega, by go_num, BZ6, BY6, by rw [HFT.out, ← HFT.out, ← HLEN.out]; rw [HFT.out]; exact HH6.out, HG6.out, by omega⟩
    · have hall : l.take j = l := List.take_of_length_le (by omega)
      rw [hall] at hown
      have y0 := BY.cell 0
      have y1 := BY.cell 1
      have z0 := BZ.frozen 0
      have z1 := BZ.frozen 1
      have zc0 := BZ.cell 0
      have zc1 := BZ.cell 1
      simp at y0 y1 zc0 zc1
      obtain ⟨BZ6, F6⟩ := set2 BZ (.int .i64 k) u
      have HO6 := Lib.hid (own_le (ownsRow_fr hown F6 (fun q hq e => by have := ((Vals.of_own hown).2 q hq).1; omega)) (base' := w.heap.size) (by have := HZ.out; omega))
      have HF6 := Lib.hid (F.trans' F6 (fun i hi e => by have := HZ.out; omega))
      obtain ⟨au, mu, cu, rfl, -⟩ := own_shape hown
      clear hown F F6 hall
      go_wp2_with fail
      have n0 := BZ6.cell 0
      have n1 := BZ6.cell 1
      simp at n0 n1
      exact bodyPost_ret (v := .tuple #[.agg #[.int .i64 k, .slice au mu cu], .int .i64 0]) (by simp [results, Tryz.results96, go_sem, n0, n1]) rfl ⟨⟨_, rfl, HO6.out⟩, HF6.out⟩
end Go.Proofs.YtgffhiopbnkjbaaGreatDoor

namespace Go.Proofs.YtgffhiopbnkjbaaGreatDoor
open Go Go.RowKit Go.Q

theorem Parts.one {w : World} {u1 : Value} {l1 : List UInt8} (h1 : Bytes w u1 l1) : Parts (w.alloc (.cells #[u1] 23)) (.slice (some ⟨w.heap.size, 0, none⟩) 1 1) [l1] := by
  have F : Fr (fun _ => False) w (w.alloc (.cells #[u1] 23)) := (Fr.refl w).alloc _
  refine ⟨[u1], Vals.of_block (Blk.new w 23 #[u1]) (by unfold maxLen; simp), rfl, fun i u l hu hl => ?_⟩
  match i, hu, hl with
  | 0, hu, hl =>
    simp only [List.getElem?_cons_zero, Option.some.injEq] at hu hl
    subst hu; subst hl
    exact h1.old F
  | i + 1, hu, hl => simp at hu
theorem kind_good {k : Int} (h : Go.Q.kindOk k = true) : tagGood (tagOf k) := by
  have hk' : k = 12 ∨ k = 19 ∨ k = 20 ∨ k = 22 ∨ k = 26 ∨ k = 30 := by simpa [Go.Q.kindOk] using h
  exact good_of (by omega) (by omega)
theorem kind_made {k : Int} (h : Go.Q.kindOk k = true) : tagV (tagOf k) = .agg #[.int .i64 0, .int .i64 k, .bool false] := by
  have hk' : k = 12 ∨ k = 19 ∨ k = 20 ∨ k = 22 ∨ k = 26 ∨ k = 30 := by simpa [Go.Q.kindOk] using h
  rcases hk' with r | r | r | r | r | r <;> subst r <;> rfl

set_option maxRecDepth 20000 in
set_option maxHeartbeats 1000000 in
theorem writeText_any (k : Int) (v : Value) (b : List UInt8) (w : World) (hv : Bytes w v b) (hT : Tabs w) (hok : rightS k b = true) (hbl : b.length ≤ 16777216) :
    Calls Tryz.prog 90 #[.agg #[.int .i64 k, v]] w fun e w' => (∃ u, e = .returned (.tuple #[u, .int .i64 0]) ∧ w'.ownsRow w.heap.size 5 1 u (wrapS (tagOf k) b).length (Lib.byteCells (wrapS (tagOf k) b))) ∧ Fr (fun _ => False) w w' := by
  have hk : Go.Q.kindOk k = true := by unfold rightS at hok; rw [Bool.and_eq_true] at hok; exact hok.1
  obtain ⟨a, cap, rfl, -⟩ := hv.form
  obtain ⟨z, hz⟩ : ∃ z, z = w.heap.size := ⟨_, rfl⟩
  have F0 : Fr (fun _ => False) w (w.alloc (.cells #[.int .i64 k, .slice a b.length cap] 107)) := (Fr.refl w).alloc _
  have B0 := Blk.new w 107 #[.int .i64 k, .slice a b.length cap]
  rw [← hz] at B0
  have HK := Lib.hid (rightText_any k _ b _ (hv.old F0) (hT.old F0))
  rw [hok] at HK
  have HV := Lib.hid (hv.old F0)
  have HZ := Lib.hid hz
  have HF0 := Lib.hid F0
  have HKK := Lib.hid hk
  clear F0 hz hk hok hv hT
  go_enter Tryz.func90, Tryz.ntmps90
  go_upto_region 1 with fail
  rw [← HZ.out]
  generalize (w.alloc (.cells #[.int .i64 k, .slice a b.length cap] 107)) = w1 at *
  have t0 := B0.cell 0
  have t1 := B0.cell 1
  simp at t0 t1
  go_upto_region 3 with (first | (go_at_call 127; refine HK.out.mono ?_; rintro e w2 ⟨rfl, F2⟩))
  have B2 := (B0.fr F2 (fun h => h)).drew
  have F3 : Fr (fun _ => False) w w2.drew := (HF0.out.trans F2).drew
  have hv2 : Bytes w2.drew (.slice a b.length cap) b := (HV.out.old F2).old (Fr.refl w2).drew
  have hwt := kind_good HKK.out
  have hmk := kind_made HKK.out
  have HMK := Lib.hid hmk
  clear HK B0 HF0 t0 t1 F2 hmk HV
  have t0 := B2.cell 0
  have t1 := B2.cell 1
  simp only [List.getElem?_toArray, List.getElem?_cons_succ, List.getElem?_cons_zero] at t0 t1
  have S := B2.cell
  go_region_held3 (fun w' => ∀ j, w'.cell? ⟨z, j, none⟩ = (#[.int .i64 k, .slice a b.length cap] : Array Value)[j]?) (first | exact B2.cell | exact (B2.alloc _).cell | exact B5.cell | exact (B5.alloc _).cell | exact B6.cell) (first
    | (go_at_call 73; refine (headOf_any k _).mono ?_; rintro e w5 ⟨rfl, F5⟩; rw [HMK.out]; have B5 : Blk w5 z 107 #[.int .i64 k, .slice a b.length cap] := (by first | exact B2.fr F5 (fun h => h) | exact (B2.alloc _).fr F5 (fun h => h)))
    | (go_at_call 117; rw [← HMK.out]; first | (refine (wrap_any (tagOf k) hwt _ [b] _ (Parts.one (hv2.old F5)) (by simp; omega) (by simp)).mono ?_; rintro e w6 ⟨v6, rfl, ho6, F6⟩; have B6 := (B5.alloc (.cells #[.slice a b.length cap] 23)).fr F6 (fun h => h); have G6 := ((F3.trans F5).alloc _).trans F6) | (refine (wrap_any (tagOf k) hwt _ [b] _ ((Parts.one hv2).old F5) (by simp; omega) (by simp)).mono ?_; rintro e w6 ⟨v6, rfl, ho6, F6⟩; have B6 := B5.fr F6 (fun h => h); have G6 := ((F3.alloc _).trans F5).trans F6)))
  all_goals
    rw [show [b].flatten = b from by simp] at ho6
    have HO6 := Lib.hid (own_le ho6 (base' := w.heap.size) (by first | exact ((F3.trans F5).alloc _).size | exact ((F3.alloc _).trans F5).size))
    have HG6 := Lib.hid G6
    clear ho6 G6 F6 F5
    go_wp2_with fail
    exact bodyPost_ret (v := .tuple #[v6, .int .i64 0]) (by simp [results, Tryz.results90, go_sem]) rfl ⟨⟨_, rfl, HO6.out⟩, HG6.out⟩
end Go.Proofs.YtgffhiopbnkjbaaGreatDoor

namespace Go.Q
open Go Go.RowKit
/-- A string of bytes. -/
abbrev str (l : List UInt8) : Value := .string ⟨l.toArray⟩
theorem ba_cat (a b : List UInt8) : (ByteArray.mk a.toArray ++ ByteArray.mk b.toArray) = ByteArray.mk (a ++ b).toArray := by
  apply ByteArray.ext
  rw [ByteArray.data_append]
  simp
end Go.Q
namespace Go.Proofs.YtgffhiopbnkjbaaGreatDoor
open Go Go.RowKit Go.Q
theorem str_of {w : World} {v : Value} {l : List UInt8} (h : Bytes w v l) : (Go.convert 23 9 v).run Tryz.prog w = .ok (str l) w := by
  obtain ⟨a, cap, rfl, hc, hm, hx⟩ := h.form
  rcases Nat.eq_zero_or_pos l.length with h0 | h0
  · obtain rfl : l = [] := List.length_eq_zero_iff.1 h0
    exact run_convert_bytes_zero w 23 5 Tryz.underlying23 Tryz.underlying5 a cap 9 Tryz.underlying9
  · obtain ⟨b, o, rfl, hy⟩ := hx h0
    exact run_convert_bytes_back w 23 9 5 _ cap l Tryz.underlying23 Tryz.underlying5 Tryz.underlying9 (fun j hj => by
      rw [show (⟨b, o, none⟩ : Addr).add j = ⟨b, o + j, none⟩ from by unfold Addr.add; split <;> simp_all]
      exact hy j _ (List.getElem?_eq_getElem hj))
/-- []byte(s): new memory. -/
theorem bytes_of_str (w : World) (l : List UInt8) (hl : l.length ≤ 1099511627776) : ∃ c w', (Go.convert 9 23 (str l)).run Tryz.prog w = .ok (.slice (some ⟨w.heap.size, 0, none⟩) l.length c) w' ∧ Bytes w' (.slice (some ⟨w.heap.size, 0, none⟩) l.length c) l ∧ Fr (fun _ => False) w w' ∧ w'.heap.size = w.heap.size + 1 := by
  have hr := Lib.run_convert_string_bytes (P := Tryz.prog) w 9 23 5 ⟨l.toArray⟩ Tryz.underlying9 Tryz.underlying23 Tryz.underlying5
  have hs : (ByteArray.mk l.toArray).size = l.length := by simp [ByteArray.size]
  rw [hs] at hr
  refine ⟨_, _, hr, ?_, ⟨rfl, rfl, rfl, by rw [Lib.bytesWorld_size]; omega, fun k hk _ => Lib.bytesWorld_at_old _ _ _ _ hk⟩, Lib.bytesWorld_size _ _ _⟩
  refine ⟨_, _, by rw [byteCells_len], ?_, ?_, fun _ => ⟨w.heap.size, 0, rfl, fun i u hu => ?_⟩⟩
  · rw [byteCells_len]; exact grownCap_ge _ _ _ _
  · exact grownCap_le_maxLen _ _ _ _ (by unfold maxLen; omega)
  · rw [byteCells_get] at hu
    cases hli : l[i]? with
    | none => rw [hli] at hu; cases hu
    | some x =>
      rw [hli] at hu
      simp only [Option.map_some, Option.some.injEq] at hu
      subst hu
      have hi := (List.getElem?_eq_some_iff.1 hli).1
      rw [Nat.zero_add, Lib.bytesWorld_cell _ _ _ _ (by rw [hs]; exact hi)]
      simp [List.getD_eq_getElem?_getD, hli]
end Go.Proofs.YtgffhiopbnkjbaaGreatDoor

namespace Go.Q
open Go Go.RowKit
/-- The least kind of a text of bytes. -/
def leastK (l : List UInt8) : Int := if rightS 19 l = true then 19 else if rightS 12 l = true then 12 else 20
end Go.Q
namespace Go.Proofs.YtgffhiopbnkjbaaGreatDoor
open Go Go.RowKit Go.Q

set_option maxRecDepth 20000 in
set_option maxHeartbeats 2000000 in
theorem least_any (l : List UInt8) (w : World) (hT : Tabs w) (hl : l.length ≤ 1099511627776) :
    Calls Tryz.prog 91 #[str l] w fun e w' => (∃ u, e = .returned (.agg #[.int .i64 (leastK l), u]) ∧ Bytes w' u l ∧ ∀ k, u.ownBlock = some k → w.heap.size ≤ k) ∧ Fr (fun _ => False) w w' := by
  obtain ⟨z, hz⟩ : ∃ z, z = w.heap.size := ⟨_, rfl⟩
  have F0 : Fr (fun _ => False) w ((w.alloc (.cells #[.int .i64 0, .slice none 0 0] 107)).alloc (.cells #[.int .i64 19, .int .i64 12] 3)) := ((Fr.refl w).alloc _).alloc _
  have BZ := (Blk.new w 107 #[.int .i64 0, .slice none 0 0]).alloc (.cells #[.int .i64 19, .int .i64 12] 3)
  have BY := Blk.new (w.alloc (.cells #[.int .i64 0, .slice none 0 0] 107)) 3 #[.int .i64 19, .int .i64 12]
  rw [World.size_alloc, ← hz] at BY
  rw [← hz] at BZ
  have HZ := Lib.hid hz
  have HF0 := Lib.hid F0
  have HT := Lib.hid hT
  clear hz F0 hT
  go_enter Tryz.func91, Tryz.ntmps91
  go_upto_region 2 with fail
  rw [← HZ.out]
  generalize ((w.alloc (.cells #[.int .i64 0, .slice none 0 0] 107)).alloc (.cells #[.int .i64 19, .int .i64 12] 3)) = w1 at *
  go_loopg [8] 2 (fun g i wr => ∃ j : Nat, g = 2 - j ∧ j ≤ 2 ∧ i = .int .i64 j ∧ ((1 ≤ j → rightS 19 l = false) ∧ (2 ≤ j → rightS 12 l = false)) ∧ Blk wr z 107 #[.int .i64 0, .slice none 0 0] ∧ Blk wr (z + 1) 3 #[.int .i64 19, .int .i64 12] ∧ Fr (fun _ => False) w wr)
  case atStart => exact ⟨0, rfl, by omega, rfl, ⟨fun h => absurd h (by omega), fun h => absurd h (by omega)⟩, BZ, BY, HF0.out⟩
  case round =>
    obtain ⟨j, hg, hj, rfl, hno, BZ, BY, F⟩ := hrel
    have HG := Lib.hid hg
    have HNO := Lib.hid hno
    obtain ⟨cp, wc, hcv, hbv, FC, -⟩ := bytes_of_str wr l hl
    have HB := Lib.hid hbv
    have HCV := Lib.hid hcv
    have hss : (ByteArray.mk l.toArray).size = l.length := by simp [ByteArray.size]
    clear hg hno hbv
    by_cases hj2 : j < 2
    · obtain ⟨kd, hk1, hk2, hk3⟩ : ∃ kd : Int, (#[Value.int .i64 19, .int .i64 12] : Array Value)[j]? = some (.int .i64 kd) ∧ (rightS kd l = true → leastK l = kd) ∧ (rightS kd l = false → (1 ≤ j + 1 → rightS 19 l = false) ∧ (2 ≤ j + 1 → rightS 12 l = false)) := by
        rcases (show j = 0 ∨ j = 1 by omega) with rfl | rfl
        · exact ⟨19, rfl, fun h => by unfold leastK; rw [if_pos h], fun h => ⟨fun _ => h, fun h => absurd h (by omega)⟩⟩
        · have h19 := HNO.out.1 (by omega)
          exact ⟨12, rfl, fun h => by unfold leastK; rw [h19, if_neg (by simp), if_pos h], fun h => ⟨fun _ => h19, fun _ => h⟩⟩
      have e1 := BY.cell j
      rw [hk1] at e1
      have HK2 := Lib.hid hk2
      have HK3 := Lib.hid hk3
      have r1 : (0 : Int) ≤ (j : Int) := by omega
      have r2 : (j : Int) < 2 := by omega
      have BZC := BZ.fr FC (fun h => h)
      have BYC := BY.fr FC (fun h => h)
      clear hk1 hk2 hk3
      go_upto_region 5 with fail
      obtain ⟨y, hy⟩ : ∃ y, y = wc.heap.size := ⟨_, rfl⟩
      have BX := Blk.new wc 107 #[.int .i64 kd, .slice (some ⟨wr.heap.size, 0, none⟩) l.length cp]
      have F5 : Fr (fun _ => False) wc (wc.alloc (.cells #[.int .i64 kd, .slice (some ⟨wr.heap.size, 0, none⟩) l.length cp] 107)) := (Fr.refl wc).alloc _
      have HR := rightText_any kd _ l _ (HB.out.old F5) (((HT.out.old F).old FC).old F5)
      have HB5 := Lib.hid (HB.out.old F5)
      have BZ5 := BZC.fr F5 (fun h => h)
      have BY5 := BYC.fr F5 (fun h => h)
      have HF5 := Lib.hid ((F.trans FC).trans F5)
      have hbs : w.heap.size ≤ wr.heap.size := F.size
      have hyz : z < y := by have := BZC.lt; omega
      rw [← hy] at BX ⊢
      have hq : wr.heap.size = wr.heap.size := rfl
      clear FC F5 BZC BYC hy F hcv HCV e1 HB
      generalize (wc.alloc (.cells #[.int .i64 kd, .slice (some ⟨wr.heap.size, 0, none⟩) l.length cp] 107)) = w5 at *
      have x0 := BX.cell 0
      have x1 := BX.cell 1
      simp at x0 x1
      cases hrt : rightS kd l with
      | false =>
        rw [hrt] at HR
        have HR := Lib.hid HR
        have hno' := HK3.out hrt
        have HNO' := Lib.hid hno'
        clear hno' hrt HNO
        go_wp2_with (first | (go_at_call 127; refine HR.out.mono ?_; rintro e w6 ⟨rfl, F6⟩))
        go_roundg (2 - (j + 1))
        case measure => rw [HG.out]; omega
        case rel => exact ⟨j + 1, rfl, by omega, by go_num, HNO'.out, BZ5.fr F6 (fun h => h), BY5.fr F6 (fun h => h), HF5.out.trans F6⟩
      | true =>
        rw [hrt] at HR
        have HR := Lib.hid HR
        have HLK := Lib.hid (HK2.out hrt)
        clear hrt HNO
        go_wp2_with (first | (go_at_call 127; refine HR.out.mono ?_; rintro e w6 ⟨rfl, F6⟩; have BX6 := BX.fr F6 (fun h => h); have BZ6 := BZ5.fr F6 (fun h => h); have x0' := BX6.cell 0; have x1' := BX6.cell 1; have z0' := BZ6.cell 0; have z1' := BZ6.cell 1; have f0' := BZ6.frozen 0; have f1' := BZ6.frozen 1; simp only [List.getElem?_toArray, List.getElem?_cons_succ, List.getElem?_cons_zero] at x0' x1' z0' z1'))
        obtain ⟨BZ7, F7⟩ := set2 (BZ5.fr F6 (fun h => h)) (.int .i64 kd) (.slice (some ⟨wr.heap.size, 0, none⟩) l.length cp)
        have n0 := BZ7.cell 0
        have n1 := BZ7.cell 1
        simp at n0 n1
        have hzr : z < wr.heap.size := BZ.lt
        refine bodyPost_ret (v := .agg #[.int .i64 kd, .slice (some ⟨wr.heap.size, 0, none⟩) l.length cp]) (by simp [results, Tryz.results91, go_sem, n0, n1]) rfl ⟨⟨_, by rw [HLK.out], (HB5.out.old F6).fr F7 (fun _ q hq e => by simp only [Value.ownBlock, Option.some.injEq] at hq; omega), fun q hq => by simp only [Value.ownBlock, Option.some.injEq] at hq; omega⟩, (HF5.out.trans F6).trans' F7 (fun i hi e => by have := HZ.out; omega)⟩
    · have h2 := HNO.out
      have hlk : leastK l = 20 := by unfold leastK; rw [h2.1 (by omega), h2.2 (by omega)]; rfl
      have HLK := Lib.hid hlk
      have BZC := BZ.fr FC (fun h => h)
      have z0 := BZC.cell 0
      have z1 := BZC.cell 1
      have f0 := BZC.frozen 0
      have f1 := BZC.frozen 1
      simp at z0 z1
      obtain ⟨BZ7, F7⟩ := set2 BZC (.int .i64 20) (.slice (some ⟨wr.heap.size, 0, none⟩) l.length cp)
      have n0 := BZ7.cell 0
      have n1 := BZ7.cell 1
      simp at n0 n1
      have hzr : z < wr.heap.size := BZ.lt
      have HF7 := Lib.hid ((F.trans FC).trans' F7 (fun i hi e => by have := HZ.out; omega))
      have hbs : w.heap.size ≤ wr.heap.size := F.size
      have HB7 := Lib.hid (HB.out.fr F7 (fun _ q hq e => by simp only [Value.ownBlock, Option.some.injEq] at hq; omega))
      clear h2 hlk BZ7 F7 F FC HB HNO
      go_wp2_with fail
      refine bodyPost_ret (v := .agg #[.int .i64 20, .slice (some ⟨wr.heap.size, 0, none⟩) l.length cp]) (by simp [results, Tryz.results91, go_sem, n0, n1]) rfl ⟨⟨_, by rw [HLK.out], HB7.out, fun q hq => by simp only [Value.ownBlock, Option.some.injEq] at hq; omega⟩, HF7.out⟩
end Go.Proofs.YtgffhiopbnkjbaaGreatDoor

namespace Go.Q
open Go Go.RowKit
/-- A builder at b that holds the bytes l; what it wrote lies from base on. -/
abbrev BldAt (w : World) (base b : Nat) (l : List UInt8) : Prop := Lib.IsBuilder 181 5 base b (Lib.byteCells l) w
theorem BldAt.old {w w' : World} {base b : Nat} {l : List UInt8} (h : BldAt w base b l) (f : Fr (fun _ => False) w w') : BldAt w' base b l := by
  have g : ∀ p, Lib.BuilderAt 181 5 base b p (Lib.byteCells l) w → Lib.BuilderAt 181 5 base b p (Lib.byteCells l) w' := by
    rintro p ⟨hB, v, hb, hown, hne⟩
    exact ⟨hB, v, (f.block b (Array.getElem?_eq_some_iff.1 hb).1 (fun h => h)).trans hb, Go.Proofs.YtgffhiopbnkjbaaGreatDoor.ownsRow_fr hown f (fun _ _ h => h), hne⟩
  rcases h with h | h
  · exact .inl (g _ h)
  · exact .inr (g _ h)
theorem BldAt.new (w : World) : BldAt (w.alloc (.cells #[.pointer none, .slice none 0 0] 181)) w.heap.size w.heap.size [] :=
  .inl ⟨Nat.le_refl _, .slice none 0 0, Blk.new w _ _, ⟨rfl, .inl ⟨rfl, rfl⟩⟩, by simp [Value.ownBlock]⟩
theorem Fr.of_below_at {B : Nat} {w w' : World} (h : Below B w w') : Fr (fun k => B ≤ k) w w' := ⟨h.os, h.tape, h.output, h.size, fun k _ hk => h.block k (by omega)⟩
end Go.Q
namespace Go.Proofs.YtgffhiopbnkjbaaGreatDoor
open Go Go.RowKit Go.Q
/-- Go's table of the powers of ten lies as it was laid. -/
abbrev Pows (w : World) : Prop := Lib.TabIs Tryz.prog w "internal/strconv.uint64pow10" .u64 Lib.pow10Tab
theorem Pows.fr {S : Nat → Prop} {w w' : World} (h : Pows w) (f : Fr S w w') (hS : ¬ S 3) : Pows w' := by
  have hg : Tryz.prog.globalNamed "internal/strconv.uint64pow10" = some 3 := by kernel_rfl
  unfold Pows Lib.TabIs at *
  rw [← h]
  unfold World.var? at *
  rw [hg] at h ⊢
  simp only [Option.bind_some] at h ⊢
  have hlt : 3 < w.heap.size := by
    rcases Nat.lt_or_ge 3 w.heap.size with h1 | h1
    · exact h1
    · rw [Array.getElem?_eq_none h1] at h; cases h
  rw [f.block _ hlt hS]
theorem Pows.old {w w' : World} (h : Pows w) (f : Fr (fun _ => False) w w') : Pows w' := h.fr f (fun h => h)

set_option maxRecDepth 100000 in
theorem bldCheck_any {w : World} {base b : Nat} {l : List UInt8} (h : BldAt w base b l) :
    Calls Tryz.prog 154 #[pt b] w fun e w' => e = .returned (.tuple #[]) ∧ Lib.BuilderAt 181 5 base b (pt b) (Lib.byteCells l) w' ∧ Below base w w' := by
  have hsz : (Tryz.prog.info? 181).map (·.size) = some 2 := by kernel_rfl
  obtain ⟨j, hj, hjs⟩ := Option.map_eq_some_iff.1 hsz
  rcases h with h | h
  · have h0 := h.cell0
    have hsh := h.shape
    have hfz := h.frozen0
    have H := Lib.hid h
    clear h hsz
    have hl : liesAt Tryz.prog Tryz.prog.depth 181 (2 / Tryz.prog.cellsOf 181) 0 181 1 = true := by kernel_rfl
    have r1 := Lib.run_to_unsafe (P := Tryz.prog) w ⟨b, 0, none⟩ Tryz.underlying179 Tryz.underlying264 hj (by rw [hjs]; decide) hsh (Nat.zero_lt_succ 1)
    have r3 := Lib.run_from_unsafe (P := Tryz.prog) w ⟨b, 0, none⟩ Tryz.underlying264 Tryz.underlying179 hj hsh hl
    have r2 : (callFunc 198 #[.pointer (some ⟨b, 0, none⟩)]).run Tryz.prog w = .ok (.value (.pointer (some ⟨b, 0, none⟩))) w := by
      rw [run_callFunc_extern Tryz.func198 (by kernel_rfl) (by kernel_rfl) (by kernel_rfl) (e := Extern.AbiNoEscape.same) (by kernel_rfl), Lib.run_noEscape]
      rfl
    go_enter Tryz.func154, Tryz.ntmps154
    go_wp2
    go_end0
    exact ⟨rfl, H.out.used _, (Below.refl base w).setCell (p := ⟨b, 0, none⟩) H.out.1 _⟩
  · have h0 := h.cell0
    have H := Lib.hid h
    have r1 := Lib.run_neq_ptr_same (P := Tryz.prog) w (tp := 179) ⟨b, 0, none⟩ Tryz.underlying179 hj
    clear h hsz
    go_enter Tryz.func154, Tryz.ntmps154
    go_wp2
    go_end0
    exact ⟨rfl, H.out, Below.refl base w⟩

theorem info_u8 : (Tryz.prog.info? 5).map (fun i => (i.zero, i.size, i.bytes)) = some (some (.int .u8 0), 1, 1) := by kernel_rfl

/-- Bytes more in a builder. -/
theorem bld_put {w w2 : World} {base b : Nat} {l m : List UInt8} {v v' : Value} (hB : base ≤ b) (hbk : w.heap[b]? = some (.cells #[pt b, v] 181 (0, 0))) (hne : v.ownBlock ≠ some b) (F : Fr (fun k => v.ownBlock = some k) w w2) (hown : w2.ownsRow base 5 1 v' (l ++ m).length (Lib.byteCells (l ++ m))) :
    w2.heap[b]? = some (.cells #[pt b, v] 181 (0, 0)) ∧ BldAt (w2.setCell ⟨b, 1, none⟩ v') base b (l ++ m) := by
  have hb2 : w2.heap[b]? = some (.cells #[pt b, v] 181 (0, 0)) := (F.block b (Array.getElem?_eq_some_iff.1 hbk).1 hne).trans hbk
  exact ⟨hb2, .inr (Lib.BuilderAt.put (T := 181) (e := 5) hB hb2 (bs' := Lib.byteCells (l ++ m)) (by rw [byteCells_len]; exact hown) (by decide))⟩

set_option maxRecDepth 100000 in
theorem bldByte_any {w : World} {base b : Nat} {l : List UInt8} (c : UInt8) (h : BldAt w base b l) (hl : l.length ≤ 109951162777) (hbw : base ≤ w.heap.size) :
    Calls Tryz.prog 183 #[pt b, .int .u8 c.toNat] w fun e w' => e = .returned .nilIface ∧ BldAt w' base b (l ++ [c]) ∧ Below base w w' := by
  have HC := Lib.hid (bldCheck_any h)
  clear h
  go_enter Tryz.func183, Tryz.ntmps183
  go_wp2_with fail
  refine HC.out.mono ?_
  rintro e w1 ⟨rfl, ⟨hB, v, hbk, hown, hne⟩, hb1⟩
  rw [byteCells_len] at hown
  have c1 : w1.cell? ⟨b, 1, none⟩ = some v := by rw [Lib.cell_of_heap hbk]; rfl
  have F1 : Fr (fun _ => False) w1 (w1.alloc (.cells #[.int .u8 c.toNat] 5)) := (Fr.refl w1).alloc _
  have hs1 := hb1.size
  obtain ⟨a', c', w2, hrun, hown2, F2, hk2⟩ := add_gen Tryz.underlying23 info_u8 rfl (by decide) (by decide) hown (by omega) F1 w1.heap.size [.int .u8 c.toNat] rfl (Blk.new w1 5 #[.int .u8 c.toNat]) (by simp [Value.oneCell']) (by omega)
  have hown2' : w2.ownsRow base 5 1 (.slice a' (l.length + 1) c') (l ++ [c]).length (Lib.byteCells (l ++ [c])) := by
    rw [byteCells_append, List.length_append]
    exact hown2
  obtain ⟨hb2, hat⟩ := bld_put hB hbk hne F2 hown2'
  have HRUN := Lib.hid hrun
  have HAT := Lib.hid hat
  have d1 : w2.cell? ⟨b, 1, none⟩ = some v := by rw [Lib.cell_of_heap hb2]; rfl
  have f1 : w2.frozen? ⟨b, 1, none⟩ = false := Lib.frozen_of_heap hb2 1
  have hvb := (Vals.of_own hown).2
  have HBL := Lib.hid ((hb1.trans (Fr.below (B := base) F2 (by omega) (fun i hi e => by have := (hvb i e).1; omega))).setCell (p := ⟨b, 1, none⟩) hB (.slice a' (l.length + 1) c'))
  clear HC hbk hown F1 F2 hrun hown2 hown2' hb2 hat hk2 hb1 hne hvb
  go_wp2_with (at_builtin; refine wpList_append_run (by rfl) (.tmp 11) (.tmp 13) 23 (by rfl) _ w2 (by exact HRUN.out) ?_)
  go_ret
  exact ⟨rfl, HAT.out, HBL.out⟩

set_option maxRecDepth 100000 in
theorem bldString_any {w : World} {base b : Nat} {l : List UInt8} (m : List UInt8) (h : BldAt w base b l) (hl : l.length + m.length ≤ 1099511627776) (hbw : base ≤ w.heap.size) :
    Calls Tryz.prog 113 #[pt b, str m] w fun e w' => e = .returned (.tuple #[.int .i64 m.length, .nilIface]) ∧ BldAt w' base b (l ++ m) ∧ Below base w w' := by
  have HC := Lib.hid (bldCheck_any h)
  obtain ⟨i0, hi, hz0, hz1, hz2⟩ := info_parts info_u8
  have hms : (ByteArray.mk m.toArray).size = m.length := by simp [ByteArray.size]
  clear h
  go_enter Tryz.func113, Tryz.ntmps113
  go_wp2_with fail
  refine HC.out.mono ?_
  rintro e w1 ⟨rfl, ⟨hB, v, hbk, hown, hne⟩, hb1⟩
  rw [byteCells_len] at hown
  have c1 : w1.cell? ⟨b, 1, none⟩ = some v := by rw [Lib.cell_of_heap hbk]; rfl
  have hs1 := hb1.size
  go_wp2_with (at_builtin; refine Lib.wpList_append_own_string _ (by rfl) (.tmp 12) (.tmp 13) 23 9 (by rfl) base 5 i0 Tryz.underlying23 Tryz.underlying9 hi hz0 hz1 hz2 _ _ _ (by rfl) hown ⟨m.toArray⟩ (by rfl) ?c3 ?c4 ?c5 ?_)
  case c3 => rw [hms]; unfold maxLen; omega
  case c4 => rw [hms]; omega
  case c5 => omega
  intro v' w2 hown2 hgrow _
  have F2 := Fr.of_grown hgrow
  have hsc : Lib.strCells ⟨m.toArray⟩ = Lib.byteCells m := rfl
  have hown2' : w2.ownsRow base 5 1 v' (l ++ m).length (Lib.byteCells (l ++ m)) := by
    rw [byteCells_append, List.length_append, ← hsc, ← hms]
    exact hown2
  obtain ⟨hb2, hat⟩ := bld_put hB hbk hne F2 hown2'
  have HAT := Lib.hid hat
  have d1 : w2.cell? ⟨b, 1, none⟩ = some v := by rw [Lib.cell_of_heap hb2]; rfl
  have f1 : w2.frozen? ⟨b, 1, none⟩ = false := Lib.frozen_of_heap hb2 1
  have hvb := (Vals.of_own hown).2
  have HBL := Lib.hid ((hb1.trans (Fr.below (B := base) F2 (by omega) (fun i hi e => by have := (hvb i e).1; omega))).setCell (p := ⟨b, 1, none⟩) hB v')
  have HMS := Lib.hid hms
  obtain ⟨ao, n', cap, rfl, hnn⟩ := own_shape hown2
  have HNN := Lib.hid hnn
  clear HC hbk hown F2 hown2 hown2' hb2 hat hb1 hne hvb hgrow hsc hms hnn hi hz0 hz1 hz2
  go_wp2_with fail
  go_ret2
  exact ⟨by rw [← HMS.out]; rfl, HAT.out, HBL.out⟩

theorem bldOut_any {w : World} {base b : Nat} {l : List UInt8} (h : BldAt w base b l) (hbw : base ≤ w.heap.size) :
    Calls Tryz.prog 114 #[pt b] w fun e w' => e = .returned (str l) ∧ Below base w w' :=
  Go.Proofs.Tryz.Builder_String_any base b l w h hbw

theorem itoa_any (n : Int) (h0 : -9223372036854775808 ≤ n) (h1 : n ≤ 9223372036854775807) (w : World) (hP : Pows w) :
    Calls Tryz.prog 184 #[.int .i64 n] w fun e w' => e = .returned (str (Lib.itoa n)) ∧ Fr (fun _ => False) w w' := by
  refine (Go.Proofs.Tryz.strconv_Itoa n h0 h1 w hP).mono ?_
  rintro e w' ⟨rfl, k, os, rfl⟩
  exact ⟨rfl, rfl, rfl, rfl, by simp [Sort.grow], fun i hi _ => by simp [Sort.grow, Array.getElem?_append_left hi]⟩
end Go.Proofs.YtgffhiopbnkjbaaGreatDoor

namespace Go.Q
open Go Go.RowKit
/-- Above all variables that Go's library reads. -/
def gLim : Nat := max (max 1 2) (max 3 0) + 1
/-- They lie as they were laid. -/
structure Env (w : World) : Prop where
  tabs : Tabs w
  pows : Go.Proofs.YtgffhiopbnkjbaaGreatDoor.Pows w
  top : ∃ m, w.cell? ⟨0, 0, none⟩ = some (.int .i64 m)
  size : gLim ≤ w.heap.size
theorem Env.fr {S : Nat → Prop} {w w' : World} (h : Env w) (f : Fr S w w') (hS : ∀ k, k < gLim → ¬ S k) : Env w' :=
  ⟨h.tabs.fr f (hS _ (by decide)) (hS _ (by decide)), h.pows.fr f (hS _ (by decide)), by
    obtain ⟨m, hm⟩ := h.top
    exact ⟨m, f.cell hm (hS 0 (by decide))⟩, Nat.le_trans h.size f.size⟩
theorem Env.old {w w' : World} (h : Env w) (f : Fr (fun _ => False) w w') : Env w' := h.fr f (fun _ _ h => h)
theorem Env.below {w w' : World} {B : Nat} (h : Env w) (f : Below B w w') (hB : gLim ≤ B) : Env w' := h.fr (Fr.of_below_at f) (fun k hk e => by omega)
/-- An oid's text. -/
def oidTextS : List Int → List UInt8
  | [] => []
  | n :: t => Lib.itoa n ++ t.flatMap (fun m => 46 :: Lib.itoa m)
theorem oidText_first {o : List Int} {n : Int} (h : o[0]? = some n) : oidTextS (o.take 1) = Lib.itoa n := by
  cases o with
  | nil => cases h
  | cons x t => simp at h; subst h; simp [oidTextS]
theorem oidText_next {o : List Int} {j : Nat} {n : Int} (h : o[j + 1]? = some n) : oidTextS (o.take (j + 1 + 1)) = oidTextS (o.take (j + 1)) ++ [46] ++ Lib.itoa n := by
  cases o with
  | nil => cases h
  | cons x t =>
    rw [List.getElem?_cons_succ] at h
    have e : t.take (j + 1) = t.take j ++ [n] := by rw [List.take_add_one, h]; rfl
    rw [List.take_succ_cons, List.take_succ_cons, e]
    simp [oidTextS]
theorem nDigits_le : ∀ (k u : Nat), u < 10 ^ (k + 1) → Lib.nDigits u ≤ k + 1
  | 0, u, h => by rw [Lib.nDigits_small (by simpa using h)]; exact Nat.le_refl _
  | k + 1, u, h => by
    by_cases hu : u < 10
    · rw [Lib.nDigits_small hu]; omega
    · rw [Lib.nDigits_big hu]
      have := nDigits_le k (u / 10) (by rw [Nat.pow_succ] at h; omega)
      omega
theorem itoa_len {n : Int} (h0 : 0 ≤ n) (h1 : n ≤ 9223372036854775807) : (Lib.itoa n).length ≤ 20 := by
  unfold Lib.itoa
  rw [if_neg (by omega), Lib.decDigits_length]
  exact nDigits_le 19 n.toNat (by
    have e : (10 : Nat) ^ (19 + 1) = 100000000000000000000 := by decide
    rw [e]
    omega)
theorem oidText_len {o : List Int} (h : ∀ n ∈ o, 0 ≤ n ∧ n ≤ 9223372036854775807) : (oidTextS o).length ≤ 21 * o.length := by
  have g : ∀ t : List Int, (∀ n ∈ t, 0 ≤ n ∧ n ≤ 9223372036854775807) → (t.flatMap (fun m => 46 :: Lib.itoa m)).length ≤ 21 * t.length := by
    intro t
    induction t with
    | nil => intro _; simp
    | cons x t ih =>
      intro h
      have h1 := itoa_len (h x (by simp)).1 (h x (by simp)).2
      have h2 := ih (fun n hn => h n (by simp [hn]))
      simp only [List.flatMap_cons, List.length_append, List.length_cons] at h2 ⊢
      omega
  cases o with
  | nil => simp [oidTextS]
  | cons x t =>
    have h1 := itoa_len (h x (by simp)).1 (h x (by simp)).2
    have h2 := g t (fun n hn => h n (by simp [hn]))
    simp only [oidTextS, List.length_append, List.length_cons]
    omega
end Go.Q
namespace Go.Proofs.YtgffhiopbnkjbaaGreatDoor
open Go Go.RowKit Go.Q

set_option maxRecDepth 20000 in
set_option maxHeartbeats 1000000 in
theorem oidText_any (v : Value) (o : List Int) (w : World) (h : Ints w v o) (ho : oidOk o = true) (hE : Env w) :
    Calls Tryz.prog 149 #[v] w fun e w' => e = .returned (.tuple #[str (oidTextS o), .int .i64 0]) ∧ Fr (fun _ => False) w w' := by
  have H := Lib.hid h
  have HE := Lib.hid hE
  have hR := Lib.hid (oidRight_any v o w h)
  rw [ho] at hR
  obtain ⟨a, cap, rfl, -⟩ := Ints.form h
  have hok := ho
  simp only [oidOk, Bool.and_eq_true, decide_eq_true_eq] at hok
  obtain ⟨⟨⟨hl1, hl2⟩, hall⟩, -⟩ := hok
  have harc : ∀ n ∈ o, 0 ≤ n ∧ n ≤ 9223372036854775807 := fun n hn => by
    have := List.all_eq_true.1 hall n hn
    simp only [arcOk, decide_eq_true_eq] at this
    omega
  have HA := Lib.hid harc
  have HBN := Lib.hid (BldAt.new w)
  obtain ⟨z, hz⟩ : ∃ z, z = w.heap.size := ⟨_, rfl⟩
  have F0 : Fr (fun _ => False) w (w.alloc (.cells #[.pointer none, .slice none 0 0] 181)) := (Fr.refl w).alloc _
  rw [← hz] at HBN
  have HZ := Lib.hid hz
  have HF0 := Lib.hid (F0.below (B := z) (by omega) (fun _ _ h => h))
  have hs0 := F0.size
  have hgl : gLim ≤ z := by rw [hz]; exact hE.size
  clear h hE ho hall harc hz F0
  go_enter Tryz.func149, Tryz.ntmps149
  go_wp2_with fail
  refine hR.out.mono ?_
  rintro e w' ⟨rfl, rfl⟩
  go_upto_region 4 with fail
  rw [← HZ.out]
  generalize (w.alloc (.cells #[.pointer none, .slice none 0 0] 181)) = w1 at *
  have HS0 := Lib.hid hs0
  rw [← HZ.out] at hs0
  go_wp2_with fail
  go_loopg [12] o.length (fun g i wr => ∃ j : Nat, g = o.length - j ∧ j ≤ o.length ∧ i = .int .i64 j ∧ BldAt wr z z (oidTextS (o.take j)) ∧ Below z w wr ∧ z ≤ wr.heap.size)
  case atStart => exact ⟨0, rfl, Nat.zero_le _, rfl, HBN.out, HF0.out, hs0⟩
  case round =>
    obtain ⟨j, hg, hj, rfl, hB, hBl, hsz⟩ := hrel
    have HG := Lib.hid hg
    have HB := Lib.hid hB
    have HBL := Lib.hid hBl
    clear hg hB hBl
    by_cases hjl : j < o.length
    · have hFr : Fr (fun k => z ≤ k) w wr := Fr.of_below_at HBL.out
      have hoff : Off (.slice a o.length cap) (intCells o).length (fun k => z ≤ k) := fun h0 k hk e => by
        have := H.out.lt h0 k hk
        have := HZ.out
        omega
      obtain ⟨a0, cap0, he, _, _, hx⟩ := Ints.form (H.out.fr hFr hoff)
      simp only [Value.slice.injEq, true_and] at he
      obtain ⟨rfl, rfl⟩ := he
      obtain ⟨b, off, rfl, hy⟩ := hx (by omega)
      obtain ⟨n, hn⟩ : ∃ n, o[j]? = some n := ⟨_, List.getElem?_eq_getElem hjl⟩
      have e1 := hy j n hn
      have hn0 := HA.out n (List.mem_of_getElem? hn)
      have hE1 := HE.out.below HBL.out hgl
      have hlen := oidText_len (o := o.take j) (fun m hm => HA.out m (List.mem_of_mem_take hm))
      rw [List.length_take] at hlen
      have r1 : (0 : Int) ≤ (j : Int) := by omega
      have r2 : (j : Int) < (o.length : Int) := by omega
      have HEN := Lib.hid hE1
      have HN := Lib.hid hn
      have hil := itoa_len hn0.1 hn0.2
      clear hx hy hn hFr hoff hE1
      cases j with
      | zero =>
        have hj0 : ¬ (0 : Int) < ((0 : Nat) : Int) := by omega
        have hft := Lib.hid (oidText_first HN.out)
        simp only [Nat.add_zero] at e1
        go_wp2_with fail
        refine (itoa_any n (by omega) hn0.2 wr HEN.out.pows).mono ?_
        rintro e w2 ⟨rfl, F2⟩
        have HB2 := Lib.hid (HB.out.old F2)
        have HBL2 := Lib.hid (HBL.out.trans (F2.below (B := z) hsz (fun _ _ h => h)))
        have hs2 := F2.size
        clear F2
        go_wp2_with fail
        refine (bldString_any _ HB2.out (by omega) (by omega)).mono ?_
        rintro e w3 ⟨rfl, hB3, hb3⟩
        have HB3 := Lib.hid hB3
        have hs3 := hb3.size
        have HBL3 := Lib.hid (HBL2.out.trans hb3)
        clear hB3 hb3
        go_wp2_with fail
        go_roundg (o.length - (0 + 1))
        case measure => rw [HG.out]; omega
        case rel => exact ⟨0 + 1, rfl, by omega, by go_num, by rw [show 0 + 1 = 1 from rfl, hft.out]; simpa [oidTextS] using HB3.out, HBL3.out, by omega⟩
      | succ k =>
        have hj0 : (0 : Int) < ((k + 1 : Nat) : Int) := by omega
        have hft := Lib.hid (oidText_next HN.out)
        go_wp2_with fail
        have hc46 : (46 : Int) = ((46 : UInt8).toNat : Int) := rfl
        refine (bldByte_any 46 HB.out (by omega) hsz).mono ?_
        rintro e w2 ⟨rfl, hB2, hb2⟩
        have HB2 := Lib.hid hB2
        have hs2 := hb2.size
        have HBL2 := Lib.hid (HBL.out.trans hb2)
        clear hB2 hb2
        go_wp2_with fail
        refine (itoa_any n (by omega) hn0.2 _ (HE.out.below HBL2.out hgl).pows).mono ?_
        rintro e w3 ⟨rfl, F3⟩
        have HB3 := Lib.hid (HB2.out.old F3)
        have HBL3 := Lib.hid (HBL2.out.trans (F3.below (B := z) (by omega) (fun _ _ h => h)))
        have hs3 := F3.size
        clear F3
        go_wp2_with fail
        refine (bldString_any _ HB3.out (by rw [List.length_append]; simp only [List.length_singleton]; omega) (by omega)).mono ?_
        rintro e w4 ⟨rfl, hB4, hb4⟩
        have HB4 := Lib.hid hB4
        have hs4 := hb4.size
        have HBL4 := Lib.hid (HBL3.out.trans hb4)
        clear hB4 hb4
        go_wp2_with fail
        go_roundg (o.length - (k + 1 + 1))
        case measure => rw [HG.out]; omega
        case rel => exact ⟨k + 1 + 1, rfl, by omega, by go_num, by rw [hft.out]; exact HB4.out, HBL4.out, by omega⟩
    · have hall : o.take j = o := List.take_of_length_le (by omega)
      have hB := HB.out
      rw [hall] at hB
      have HO := Lib.hid (bldOut_any hB hsz)
      clear hB hall
      go_wp2_with fail
      refine HO.out.mono ?_
      rintro e w2 ⟨rfl, hb2⟩
      have HF := Lib.hid (HBL.out.trans hb2)
      clear hb2
      go_wp2_with fail
      have hf := HF.out
      rw [HZ.out] at hf
      exact bodyPost_ret (v := .tuple #[str (oidTextS o), .int .i64 0]) (by simp [results, Tryz.results149, go_sem]) rfl ⟨rfl, Fr.of_below hf⟩
end Go.Proofs.YtgffhiopbnkjbaaGreatDoor

namespace Go.Q
open Go Go.RowKit
/-- A slice of strings. -/
abbrev Strs (w : World) (v : Value) (ks : List (List UInt8)) : Prop := Vals w v (ks.map str)
/-- Pieces between signs. -/
def cutAt (c : UInt8) : List UInt8 → List (List UInt8)
  | [] => [[]]
  | x :: t => if x = c then [] :: cutAt c t else match cutAt c t with
    | [] => [[x]]
    | h :: r => (x :: h) :: r
/-- What stands ahead of a sign and behind it. -/
def cut1 (c : UInt8) : List UInt8 → List UInt8 × List UInt8 × Bool
  | [] => ([], [], false)
  | x :: t => if x = c then ([], t, true) else (x :: (cut1 c t).1, (cut1 c t).2)
theorem index1_nil (c : UInt8) : Lib.index [] [c] = -1 := rfl
theorem index1_eq (c : UInt8) (t : List UInt8) : Lib.index (c :: t) [c] = 0 := by simp [Lib.index]
theorem index1_ne {c x : UInt8} (h : x ≠ c) (t : List UInt8) : Lib.index (x :: t) [c] = if Lib.index t [c] = -1 then -1 else Lib.index t [c] + 1 := by
  have h' : ¬ c = x := fun e => h e.symm
  simp [Lib.index, h']
theorem cut_cut1 (c : UInt8) : ∀ l : List UInt8, Lib.cut l [c] = cut1 c l
  | [] => rfl
  | x :: t => by
    have ih := cut_cut1 c t
    unfold Lib.cut at ih ⊢
    simp only [cut1]
    by_cases h : x = c
    · subst h
      rw [index1_eq]
      simp
    · rw [index1_ne h, if_neg h, ← ih]
      have hg := Lib.index_ge t [c]
      by_cases hm : Lib.index t [c] = -1
      · rw [if_pos hm, if_neg (by omega), if_neg (by omega)]
      · rw [if_neg hm, if_pos (by omega), if_pos (by omega)]
        have e : (Lib.index t [c] + 1).toNat = (Lib.index t [c]).toNat + 1 := by omega
        rw [e]
        simp
theorem split_cutAt (c : UInt8) : ∀ l : List UInt8, Lib.splitK [c] 0 (Lib.count l [c]) l = cutAt c l ∧ Lib.count l [c] + 1 = (cutAt c l).length
  | [] => ⟨by rw [Lib.count_miss (index1_nil c)]; rfl, by rw [Lib.count_miss (index1_nil c)]; rfl⟩
  | x :: t => by
    obtain ⟨ih1, ih2⟩ := split_cutAt c t
    have hne : ([c] : List UInt8) ≠ [] := by simp
    by_cases h : x = c
    · subst h
      rw [Lib.count_hit (i := 0) hne (index1_eq x t)]
      have e : (x :: t).drop (0 + [x].length) = t := rfl
      rw [e, show 1 + Lib.count t [x] = Lib.count t [x] + 1 from by omega]
      unfold cutAt
      rw [if_pos rfl]
      refine ⟨?_, by simp [ih2]⟩
      unfold Lib.splitK
      rw [index1_eq, if_neg (by decide)]
      simp [ih1]
    · have hi := index1_ne h t
      have hg := Lib.index_ge t [c]
      unfold cutAt
      rw [if_neg h]
      by_cases hm : Lib.index t [c] = -1
      · rw [if_pos hm] at hi
        rw [Lib.count_miss hi]
        rw [Lib.count_miss hm] at ih1 ih2
        simp only [Lib.splitK] at ih1 ⊢
        rw [← ih1]
        exact ⟨rfl, rfl⟩
      · rw [if_neg hm] at hi
        obtain ⟨i, hii⟩ : ∃ i : Nat, Lib.index t [c] = i := ⟨(Lib.index t [c]).toNat, by omega⟩
        rw [hii] at hi
        have hc1 := Lib.count_hit (i := i + 1) hne (show Lib.index (x :: t) [c] = ((i + 1 : Nat) : Int) by rw [hi]; omega)
        have hc2 := Lib.count_hit (i := i) hne hii
        have e : (x :: t).drop (i + 1 + [c].length) = t.drop (i + [c].length) := by simp only [List.length_singleton]; rfl
        rw [e, ← hc2] at hc1
        rw [hc1]
        rw [hc2, Nat.add_comm 1] at ih1 ih2 ⊢
        unfold Lib.splitK at ih1 ⊢
        rw [hii, if_neg (by simp)] at ih1
        rw [hi, if_neg (by simp; omega)]
        rw [← ih1] at ih2 ⊢
        have e2 : ((i : Int) + 1).toNat = i + 1 := by omega
        refine ⟨?_, by simpa using ih2⟩
        simp [e2]
theorem Strs.form {w : World} {v : Value} {ks : List (List UInt8)} (h : Strs w v ks) : ∃ a cap, v = .slice a ks.length cap ∧ ks.length ≤ cap ∧ cap ≤ maxLen ∧ (0 < ks.length → ∃ b o, a = some ⟨b, o, none⟩ ∧ ∀ i x, ks[i]? = some x → w.cell? ⟨b, o + i, none⟩ = some (str x)) := by
  obtain ⟨a, cap, rfl, hc, hm, h⟩ := h
  rw [List.length_map] at hc h ⊢
  refine ⟨a, cap, rfl, hc, hm, fun h0 => ?_⟩
  obtain ⟨b, o, rfl, hx⟩ := h h0
  exact ⟨b, o, rfl, fun i x hxx => hx i _ (by rw [List.getElem?_map, hxx]; rfl)⟩
/-- Sorted. -/
def sortS (ks : List (List UInt8)) : List (List UInt8) := ks.mergeSort fun x y => decide (x ≤ y)
end Go.Q
namespace Go.Proofs.YtgffhiopbnkjbaaGreatDoor
open Go Go.RowKit Go.Q

theorem strCut_any (l : List UInt8) (c : UInt8) (w : World) (hE : Env w) (hl : l.length < 4294967281) :
    Calls Tryz.prog 88 #[str l, str [c]] w fun e w' => e = .returned (.tuple #[str (cut1 c l).1, str (cut1 c l).2.1, .bool (cut1 c l).2.2]) ∧ Fr (fun _ => False) w w' := by
  obtain ⟨m, hm⟩ := hE.top
  refine (Go.Proofs.Tryz.strings_Cut ⟨l.toArray⟩ ⟨[c].toArray⟩ m w (by simpa [ByteArray.size] using hl) hm).mono ?_
  rintro e w' ⟨rfl, n, rfl⟩
  refine ⟨?_, (Fr.refl w).drewN n⟩
  show _ = Ending.returned (.tuple #[.string ⟨(cut1 c l).1.toArray⟩, .string ⟨(cut1 c l).2.1.toArray⟩, .bool (cut1 c l).2.2])
  rw [← cut_cut1]

theorem strSplit_any (l : List UInt8) (c : UInt8) (w : World) (hE : Env w) (hl : l.length < 4294967281) :
    Calls Tryz.prog 124 #[str l, str [c]] w fun e w' => e = .returned (.slice (some ⟨w.heap.size, 0, none⟩) (cutAt c l).length (cutAt c l).length) ∧ Strs w' (.slice (some ⟨w.heap.size, 0, none⟩) (cutAt c l).length (cutAt c l).length) (cutAt c l) ∧ Fr (fun _ => False) w w' := by
  obtain ⟨m, hm⟩ := hE.top
  refine (Go.Proofs.Tryz.strings_Split ⟨l.toArray⟩ ⟨[c].toArray⟩ m w (by simpa [ByteArray.size] using hl) hm (by simp [ByteArray.size])).mono ?_
  rintro e w' ⟨rfl, rfl⟩
  obtain ⟨h1, h2⟩ := split_cutAt c l
  have hcb : Lib.countB ⟨l.toArray⟩ ⟨[c].toArray⟩ = Lib.count l [c] := rfl
  have hd := Lib.splitB_data ⟨[c].toArray⟩ 0 (Lib.count l [c]) ⟨l.toArray⟩
  rw [show (ByteArray.mk [c].toArray).data.toList = [c] from rfl, show (ByteArray.mk l.toArray).data.toList = l from rfl, h1] at hd
  rw [hcb, h2]
  have hs : ((Lib.splitB ⟨[c].toArray⟩ 0 (Lib.count l [c]) ⟨l.toArray⟩).map Value.string) = (cutAt c l).map str := by
    rw [← hd, List.map_map]
    refine List.map_congr_left (fun x _ => ?_)
    rfl
  rw [hs]
  have hln : (cutAt c l).length ≤ 4294967290 := by
    have := Lib.countB_le ⟨[c].toArray⟩ (by simp [ByteArray.size]) l.length ⟨l.toArray⟩ (by simp [ByteArray.size])
    rw [hcb] at this
    have hz : (ByteArray.mk l.toArray).size = l.length := by simp [ByteArray.size]
    omega
  refine ⟨rfl, ?_, (Fr.refl w).alloc _⟩
  have B := Vals.of_block (Blk.new w 9 ((cutAt c l).map str).toArray) (by simp; unfold maxLen; omega)
  simpa using B

theorem strJoin_any (ks : List (List UInt8)) (c : UInt8) (v : Value) (w : World) (h : Strs w v ks) (hn : ks.length ≤ 109951162777) (hl : (Lib.join ks [c]).length ≤ 100000000000000) :
    Calls Tryz.prog 79 #[v, str [c]] w fun e w' => e = .returned (str (Lib.join ks [c])) ∧ Fr (fun _ => False) w w' := by
  obtain ⟨a, cap, rfl, hc, hm, hx⟩ := Strs.form h
  rcases Nat.eq_zero_or_pos ks.length with h0 | h0
  · obtain rfl : ks = [] := List.length_eq_zero_iff.1 h0
    refine (Go.Proofs.Tryz.strings_Join_none a cap ⟨[c].toArray⟩ w).mono ?_
    rintro e w' ⟨rfl, rfl⟩
    exact ⟨rfl, Fr.refl _⟩
  · obtain ⟨b, o, rfl, hy⟩ := hx h0
    have hmm : (ks.map (fun k => (⟨k.toArray⟩ : ByteArray))).map (·.data.toList) = ks := by
      rw [List.map_map]
      exact (List.map_congr_left (fun x _ => rfl)).trans (List.map_id ks)
    have H := Go.Proofs.Tryz.strings_Join b o cap (ks.map (fun k => ⟨k.toArray⟩)) ⟨[c].toArray⟩ w (fun j x hj => by
      rw [List.getElem?_map] at hj
      cases hk : ks[j]? with
      | none => rw [hk] at hj; cases hj
      | some y =>
        rw [hk] at hj
        simp only [Option.map_some, Option.some.injEq] at hj
        subst hj
        exact hy j y hk) (World.block_lt_of_cell? w _ (hy 0 _ (List.getElem?_eq_getElem h0))) (by simpa using Nat.le_trans hn (by decide)) (by simpa using hc) (by rw [hmm]; exact Nat.le_trans hl (by decide))
    rw [hmm, List.length_map] at H
    refine H.mono ?_
    rintro e w' ⟨rfl, hb⟩
    exact ⟨rfl, Fr.of_below hb⟩

theorem strSort_any {w : World} {base : Nat} {v : Value} (ks : List (List UInt8)) (hown : w.ownsRow base 9 1 v ks.length (ks.map str)) (hn : ks.length ≤ 109951162777) :
    Calls Tryz.prog 110 #[v] w fun e w' => e = .returned (.tuple #[]) ∧ w'.ownsRow base 9 1 v (sortS ks).length ((sortS ks).map str) ∧ Fr (fun k => v.ownBlock = some k) w w' := by
  have hsl : (sortS ks).length = ks.length := by simp [sortS]
  rcases hown.2 with ⟨rfl, h0⟩ | ⟨g, cap, cur, rfl, hg, hh, hnc, hcm, hcs, htk⟩
  · refine (Go.Proofs.Tryz.slices_Sort_string_none none 0 w).mono ?_
    rintro e w' ⟨rfl, rfl⟩
    obtain rfl : ks = [] := List.length_eq_zero_iff.1 h0
    exact ⟨rfl, by simpa [sortS] using hown, Fr.refl _⟩
  · have hH := Go.holds_of_block (ss := ks) hh (by rw [Nat.mul_one] at htk; exact htk)
    refine (Go.Proofs.Tryz.slices_Sort_string g 0 cap ks w hH (Array.getElem?_eq_some_iff.1 hh).1 (by omega)).mono ?_
    rintro e w' ⟨rfl, n, os, rfl⟩
    refine ⟨rfl, ?_, ?_⟩
    · rw [hsl]
      exact Go.ownsRow_sorted (ts := sortS ks) hsl hg hh hnc hcm hcs
    · have f := Fr.of_grown (Go.grownBy_sorted (w := w) (g := g) (n := n) (os := os) (sortS ks).toArray)
      exact f

theorem strCompact_any {w : World} {base : Nat} {v : Value} (ks : List (List UInt8)) (hown : w.ownsRow base 9 1 v ks.length (ks.map str)) (hn : ks.length ≤ 109951162777) :
    Calls Tryz.prog 111 #[v] w fun e w' => (∃ v', e = .returned v' ∧ w'.ownsRow base 9 1 v' (Lib.compact ks).length ((Lib.compact ks).map str)) ∧ Fr (fun k => v.ownBlock = some k) w w' := by
  rcases hown.2 with ⟨rfl, h0⟩ | ⟨g, cap, cur, rfl, hg, hh, hnc, hcm, hcs, htk⟩
  · refine (Go.Proofs.Tryz.slices_Compact_string_empty none 0 w).mono ?_
    rintro e w' ⟨rfl, rfl⟩
    obtain rfl : ks = [] := List.length_eq_zero_iff.1 h0
    exact ⟨⟨_, rfl, hown⟩, Fr.refl _⟩
  · rw [Nat.mul_one] at htk hcs
    have hH := Go.holds_of_block (ss := ks) hh htk
    refine (Go.Proofs.Tryz.slices_Compact_string g 0 cap ks w hH (by omega) hnc).mono ?_
    rintro e w' ⟨rfl, q, rfl⟩
    have hcl := Lib.compact_length_le ks
    have hl2 : (Lib.compact ks ++ List.replicate (ks.length - (Lib.compact ks).length) ([] : List UInt8)).length = ks.length := by
      rw [List.length_append, List.length_replicate]; omega
    have hb := Go.heap_sorted (n := q) (os := #[]) (Lib.compact ks ++ List.replicate (ks.length - (Lib.compact ks).length) ([] : List UInt8)).toArray hh
    have f := Fr.of_grown (Go.grownBy_sorted (w := w) (g := g) (n := q) (os := #[]) (Lib.compact ks ++ List.replicate (ks.length - (Lib.compact ks).length) ([] : List UInt8)).toArray)
    rw [Sort.grow_empty] at hb f
    have ht := Go.take_putCells cur (Lib.compact ks ++ List.replicate (ks.length - (Lib.compact ks).length) ([] : List UInt8)) (by omega)
    refine ⟨⟨_, rfl, by simp, .inr ⟨g, cap, _, rfl, hg, hb, by omega, hcm, by simp [Sort.putCells, hcs], ?_⟩⟩, f⟩
    rw [Nat.mul_one]
    have h3 := congrArg (List.take (Lib.compact ks).length) ht
    rw [List.take_take, hl2, Nat.min_eq_left hcl, ← List.map_take, List.take_left] at h3
    exact h3
end Go.Proofs.YtgffhiopbnkjbaaGreatDoor

namespace Go.Q
open Go Go.RowKit
def digB (x : UInt8) : Bool := decide (48 ≤ x.toNat ∧ x.toNat ≤ 57)
def numVal (l : List UInt8) : Nat := l.foldl (fun n x => 10 * n + (x.toNat - 48)) 0
/-- A number's text, without a nought in front. -/
def numTextS (l : List UInt8) : Option Nat :=
  if l.length = 0 ∨ 10 < l.length ∨ (l.head? = some 48 ∧ 1 < l.length) then none else if l.all digB = true then some (numVal l) else none
/-- The answer: the number, is it one? -/
def numOut : Option Nat → Value
  | none => .tuple #[.int .i64 0, .bool false]
  | some n => .tuple #[.int .i64 n, .bool true]
theorem numVal_take {l : List UInt8} {j : Nat} {x : UInt8} (h : l[j]? = some x) : numVal (l.take (j + 1)) = 10 * numVal (l.take j) + (x.toNat - 48) := by
  unfold numVal
  rw [List.take_add_one, h]
  simp [List.foldl_append]
theorem numVal_lt : ∀ (l : List UInt8), l.all digB = true → numVal l < 10 ^ l.length := by
  have : ∀ (l : List UInt8) (n k : Nat), n < 10 ^ k → l.all digB = true → l.foldl (fun n x => 10 * n + (x.toNat - 48)) n < 10 ^ (k + l.length) := by
    intro l
    induction l with
    | nil => intro n k h _; simpa using h
    | cons x t ih =>
      intro n k h ha
      simp only [List.all_cons, Bool.and_eq_true] at ha
      have hx := of_decide_eq_true ha.1
      have := ih (10 * n + (x.toNat - 48)) (k + 1) (by rw [Nat.pow_succ]; omega) ha.2
      simp only [List.foldl_cons, List.length_cons]
      rw [show k + (t.length + 1) = k + 1 + t.length from by omega]
      exact this
  intro l h
  have := this l 0 0 (by decide) h
  rw [Nat.zero_add] at this
  exact this
theorem numVal_small {l : List UInt8} (h : l.all digB = true) (hl : l.length ≤ 10) : numVal l < 10000000000 := by
  have h1 := numVal_lt l h
  have h2 : (10 : Nat) ^ l.length ≤ 10 ^ 10 := Nat.pow_le_pow_right (by decide) hl
  exact Nat.lt_of_lt_of_le h1 h2
end Go.Q
namespace Go.Proofs.YtgffhiopbnkjbaaGreatDoor
open Go Go.RowKit Go.Q

set_option maxRecDepth 20000 in
set_option maxHeartbeats 1000000 in
theorem oidNumber_any (l : List UInt8) (w : World) (hlim : l.length ≤ 1099511627776) :
    Calls Tryz.prog 125 #[str l] w fun e w' => e = .returned (numOut (numTextS l)) ∧ Fr (fun _ => False) w w' := by
  have hsz : (ByteArray.mk l.toArray).size = l.length := by simp [ByteArray.size]
  by_cases hbad : l.length = 0 ∨ 10 < l.length ∨ (l.head? = some 48 ∧ 1 < l.length)
  · have hN : numTextS l = none := by unfold numTextS; rw [if_pos hbad]
    have HN := Lib.hid hN
    clear hN
    by_cases h0 : l.length = 0
    · have q0 : ((l.length : Int) == 0) = true := by rw [h0]; rfl
      have q0' : (l.length == 0) = true := by rw [h0]; rfl
      clear hbad h0
      go_enter Tryz.func125, Tryz.ntmps125
      go_wp2_with fail
      exact bodyPost_ret (v := .tuple #[.int .i64 0, .bool false]) (by simp [results, Tryz.results125, go_sem]) rfl ⟨by rw [HN.out]; rfl, Fr.refl _⟩
    · have q0 : ((l.length : Int) == 0) = false := beq_eq_false_iff_ne.2 (by omega)
      have q0' : (l.length == 0) = false := beq_eq_false_iff_ne.2 h0
      by_cases h10 : 10 < l.length
      · have q1 : (10 : Int) < (l.length : Int) := by omega
        clear hbad h0
        go_enter Tryz.func125, Tryz.ntmps125
        go_wp2_with fail
        exact bodyPost_ret (v := .tuple #[.int .i64 0, .bool false]) (by simp [results, Tryz.results125, go_sem]) rfl ⟨by rw [HN.out]; rfl, Fr.refl _⟩
      · have q1 : ¬ (10 : Int) < (l.length : Int) := by omega
        have h48 : l.head? = some 48 ∧ 1 < l.length := by
          rcases hbad with h | h | h
          · exact absurd h h0
          · exact absurd h h10
          · exact h
        obtain ⟨h48, h1⟩ := h48
        have q2 : (1 : Int) < (l.length : Int) := by omega
        have hix : ∀ w, (Instr.index 9 (str l) (.int .i64 0)).run Tryz.prog w = .ok (.int .u8 48) w := fun w => by
          obtain ⟨x, t, rfl⟩ : ∃ x t, l = x :: t := by
            cases l with
            | nil => simp at h0
            | cons x t => exact ⟨x, t, rfl⟩
          simp only [List.head?_cons, Option.some.injEq] at h48
          subst h48
          rw [run_index_string w 9 _ .i64 0 Tryz.underlying9, dif_pos ⟨by omega, by rw [hsz]; simp only [List.length_cons]; omega⟩]
          rfl
        clear hbad h0 h48
        go_enter Tryz.func125, Tryz.ntmps125
        go_wp2_with fail
        exact bodyPost_ret (v := .tuple #[.int .i64 0, .bool false]) (by simp [results, Tryz.results125, go_sem]) rfl ⟨by rw [HN.out]; rfl, Fr.refl _⟩
  · have hN : numTextS l = if l.all digB = true then some (numVal l) else none := by unfold numTextS; rw [if_neg hbad]
    have HN := Lib.hid hN
    have h0 : l.length ≠ 0 := fun h => hbad (.inl h)
    have h10 : l.length ≤ 10 := by
      rcases Nat.lt_or_ge 10 l.length with h | h
      · exact absurd (.inr (.inl h)) hbad
      · exact h
    have q0 : ((l.length : Int) == 0) = false := beq_eq_false_iff_ne.2 (by omega)
    have q0' : (l.length == 0) = false := beq_eq_false_iff_ne.2 h0
    have q1 : ¬ (10 : Int) < (l.length : Int) := by omega
    obtain ⟨x0, t0, hl0⟩ : ∃ x t, l = x :: t := by
      cases l with
      | nil => simp at h0
      | cons x t => exact ⟨x, t, rfl⟩
    have hix : ∀ w, (Instr.index 9 (str l) (.int .i64 0)).run Tryz.prog w = .ok (.int .u8 x0.toNat) w := fun w => by
      rw [run_index_string w 9 _ .i64 0 Tryz.underlying9, dif_pos ⟨by omega, by rw [hsz]; omega⟩]
      subst hl0
      rfl
    have hcase : ((x0.toNat : Int) == 48) = false ∨ (((x0.toNat : Int) == 48) = true ∧ ¬ (1 : Int) < (l.length : Int)) := by
      by_cases h : x0 = 48
      · subst h
        refine .inr ⟨rfl, fun h1 => hbad (.inr (.inr ⟨by rw [hl0]; rfl, by omega⟩))⟩
      · refine .inl (beq_eq_false_iff_ne.2 (fun e => h ?_))
        have : x0.toNat = 48 := by omega
        exact UInt8.toNat_inj.1 this
    obtain ⟨cp, wc, hcv, hbv, FC, -⟩ := bytes_of_str w l hlim
    have HB := Lib.hid hbv
    clear hbad hN hl0 hbv h0
    generalize x0.toNat = y0 at *
    rcases hcase with h48 | ⟨h48, h1⟩
    all_goals
      go_enter Tryz.func125, Tryz.ntmps125
      go_wp2_with fail
      go_loopg [4, 28] l.length (fun g u i wr => ∃ j : Nat, g = l.length - j ∧ j ≤ l.length ∧ u = .int .i64 (numVal (l.take j)) ∧ i = .int .i64 j ∧ (l.take j).all digB = true ∧ wr = wc)
      case atStart => exact ⟨0, rfl, Nat.zero_le _, rfl, rfl, rfl, rfl⟩
      case round =>
        obtain ⟨j, hg, hj, rfl, rfl, had, rfl⟩ := hrel
        have HG := Lib.hid hg
        have HAD := Lib.hid had
        have hv0 := numVal_small had (by rw [List.length_take]; omega)
        clear hg had
        by_cases hjl : j < l.length
        · obtain ⟨a0, cap0, he, _, _, hx⟩ := HB.out.form
          simp only [Value.slice.injEq, true_and] at he
          obtain ⟨he1, he2⟩ := he
          obtain ⟨b, off, hbo, hy⟩ := hx (by omega)
          rw [← he1] at hbo
          simp only [Option.some.injEq, Addr.mk.injEq, and_true] at hbo
          obtain ⟨x, hxj⟩ : ∃ n, l[j]? = some n := ⟨_, List.getElem?_eq_getElem hjl⟩
          have e1 := hy j x hxj
          rw [← hbo.1, ← hbo.2, Nat.zero_add] at e1
          have hnt := numVal_take hxj
          have hall : (l.take (j + 1)).all digB = digB x := by
            rw [List.take_add_one, hxj]
            simp [HAD.out]
          have hdx : digB x = decide (48 ≤ x.toNat ∧ x.toNat ≤ 57) := rfl
          have hxl := x.toNat_lt
          have hmem := List.mem_of_getElem? hxj
          have HM := Lib.hid hmem
          obtain ⟨y, hye⟩ : ∃ y : Nat, y = x.toNat := ⟨_, rfl⟩
          rw [← hye] at e1 hnt hdx hxl
          have hyl : y < 256 := hxl
          have r1 : (0 : Int) ≤ (j : Int) := by omega
          have r2 : (j : Int) < (l.length : Int) := by omega
          have HNT := Lib.hid hnt
          have HALL := Lib.hid hall
          have HDX := Lib.hid hdx
          clear he1 he2 hx hy hbo hxj hnt hall hdx hye hxl hmem
          generalize numVal (l.take j) = v0 at *
          by_cases hd : 48 ≤ y ∧ y ≤ 57
          · have d1 : ¬ (y : Int) < 48 := by omega
            have d2 : ¬ (57 : Int) < (y : Int) := by omega
            have hw8 : IntKind.u8.wrap ((y : Int) - 48) = (y : Int) - 48 := by simp [IntKind.wrap, IntKind.signed, IntKind.bits]; omega
            have hok : digB x = true := by rw [HDX.out]; exact decide_eq_true hd
            have HOK := Lib.hid hok
            clear hok
            go_wp2_with fail
            go_roundg (l.length - (j + 1))
            case measure => rw [HG.out]; omega
            case rel => exact ⟨j + 1, rfl, by omega, by rw [HNT.out]; congr 1; omega, by go_num, by rw [HALL.out, HOK.out], rfl⟩
          · have hno : numTextS l = none := by
              rw [HN.out, if_neg]
              intro h
              have := List.all_eq_true.1 h x HM.out
              rw [HDX.out] at this
              exact hd (of_decide_eq_true this)
            have HNO := Lib.hid hno
            clear hno
            by_cases hd1 : y < 48
            · have d1 : (y : Int) < 48 := by omega
              go_wp2_with fail
              exact bodyPost_ret (v := .tuple #[.int .i64 0, .bool false]) (by simp [results, Tryz.results125, go_sem]) rfl ⟨by rw [HNO.out]; rfl, FC⟩
            · have d1 : ¬ (y : Int) < 48 := by omega
              have d2 : (57 : Int) < (y : Int) := by omega
              go_wp2_with fail
              exact bodyPost_ret (v := .tuple #[.int .i64 0, .bool false]) (by simp [results, Tryz.results125, go_sem]) rfl ⟨by rw [HNO.out]; rfl, FC⟩
        · have hall : l.take j = l := List.take_of_length_le (by omega)
          have hres : numTextS l = some (numVal l) := by rw [HN.out, if_pos (by have := HAD.out; rwa [hall] at this)]
          have HRES := Lib.hid hres
          rw [hall]
          clear hall hres hv0
          go_wp2_with fail
          exact bodyPost_ret (v := .tuple #[.int .i64 (numVal l), .bool true]) (by simp [results, Tryz.results125, go_sem]) rfl ⟨by rw [HRES.out]; rfl, FC⟩
end Go.Proofs.YtgffhiopbnkjbaaGreatDoor
