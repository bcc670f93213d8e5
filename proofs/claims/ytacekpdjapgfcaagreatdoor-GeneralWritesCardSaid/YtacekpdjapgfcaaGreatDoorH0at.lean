/-
  Merged by program: XHostS XNStrS XGenH XGenK XKyS XKyT.
-/
import Derived.Test.YtacekpdjapgfcaaGreatDoorH0an
import Derived.Test.YtacekpdjapgfcaaGreatDoorH0aj
import Derived.Test.YtacekpdjapgfcaaGreatDoorH0af
import Derived.Laws.Strings3
import Derived.Deep.Slices
import Derived.Test.YtacekpdjapgfcaaGreatDoorH0ar
import Derived.Test.YtacekpdjapgfcaaGreatDoorH0ak
import Derived.Sort.Walk0
namespace Go.Q
open Go Go.RowKit
theorem lowB_toNat (c : UInt8) : (lowB c).toNat = if 65 ≤ c.toNat ∧ c.toNat ≤ 90 then c.toNat + 32 else c.toNat := by
  unfold lowB
  split
  · rw [UInt8.toNat_add]
    have : (32 : UInt8).toNat = 32 := rfl
    omega
  · rfl
theorem lowB_dot (c : UInt8) : lowB c = 46 ↔ c = 46 := by
  rw [← UInt8.toNat_inj, ← UInt8.toNat_inj, lowB_toNat, show (46 : UInt8).toNat = 46 from rfl]
  split <;> omega
theorem lower_len (l : List UInt8) : (lowerS l).length = l.length := by simp [lowerS]
theorem dot_lower (l : List UInt8) : dotS (lowerS l) = lowerS (dotS l) := by
  unfold dotS lowerS
  rw [List.getLast?_map]
  have h : (Option.map lowB l.getLast? = some 46) ↔ l.getLast? = some 46 := by
    cases l.getLast? with
    | none => simp
    | some x => simp [lowB_dot]
  by_cases hd : l.getLast? = some 46
  · rw [if_pos (h.2 hd), if_pos hd, List.map_dropLast]
  · rw [if_neg (fun e => hd (h.1 e)), if_neg hd]
theorem dot_len (l : List UInt8) : (dotS l).length ≤ l.length := by
  unfold dotS
  split
  · rw [List.length_dropLast]; omega
  · omega
theorem cutAt_ne (c : UInt8) : ∀ l : List UInt8, cutAt c l ≠ []
  | [] => by simp [cutAt]
  | x :: t => by
    unfold cutAt
    split
    · simp
    · split <;> simp
theorem cutAt_lower : ∀ l : List UInt8, cutAt 46 (lowerS l) = (cutAt 46 l).map lowerS
  | [] => rfl
  | x :: t => by
    have ih := cutAt_lower t
    have e : lowerS (x :: t) = lowB x :: lowerS t := rfl
    rw [e]
    unfold cutAt
    by_cases h : x = 46
    · rw [if_pos h, if_pos ((lowB_dot x).2 h), ih]
      rfl
    · rw [if_neg h, if_neg (fun e => h ((lowB_dot x).1 e)), ih]
      cases cutAt 46 t with
      | nil => rfl
      | cons a r => rfl
theorem join_cutAt (c : UInt8) : ∀ l : List UInt8, Lib.join (cutAt c l) [c] = l
  | [] => rfl
  | x :: t => by
    have ih := join_cutAt c t
    have hne := cutAt_ne c t
    unfold cutAt
    cases hc : cutAt c t with
    | nil => exact absurd hc hne
    | cons a r =>
      rw [hc] at ih
      by_cases h : x = c
      · subst h
        rw [if_pos rfl]
        have : Lib.join ([] :: a :: r) [x] = x :: Lib.join (a :: r) [x] := by simp [Lib.join, List.intercalate, List.intersperse]
        rw [this, ih]
      · rw [if_neg h]
        have : Lib.join ((x :: a) :: r) [c] = x :: Lib.join (a :: r) [c] := by
          cases r with
          | nil => simp [Lib.join, List.intercalate, List.intersperse]
          | cons b r => simp [Lib.join, List.intercalate, List.intersperse]
        simp only
        rw [this, ih]
def labGo (done : List (List UInt8)) (one : List UInt8) : List UInt8 → Option (List (List UInt8))
  | [] => if 1 ≤ one.length ∧ one.length ≤ 63 then some (done ++ [one]) else none
  | c :: t => if c = 46 then (if 1 ≤ one.length ∧ one.length ≤ 63 then labGo (done ++ [one]) [] t else none) else if labelC c then labGo done (one ++ [c]) t else none
def labL (l : List UInt8) : Bool := decide (1 ≤ l.length ∧ l.length ≤ 63) && l.all labelC
theorem labGo_cut : ∀ (t one : List UInt8) (done : List (List UInt8)), one.all labelC = true → labGo done one t = match cutAt 46 t with
    | [] => none
    | h :: r => if labL (one ++ h) && r.all labL then some (done ++ (one ++ h) :: r) else none
  | [], one, done, h1 => by
    simp only [labGo, cutAt, List.append_nil, List.all_nil, Bool.and_true]
    unfold labL
    rw [h1, Bool.and_true]
    simp
  | c :: t, one, done, h1 => by
    have hne := cutAt_ne 46 t
    unfold labGo cutAt
    by_cases hc : c = 46
    · rw [if_pos hc, if_pos hc]
      have ih := labGo_cut t [] (done ++ [one]) rfl
      rw [ih]
      cases hx : cutAt 46 t with
      | nil => exact absurd hx hne
      | cons a r =>
        simp only [List.append_nil, List.nil_append, List.all_cons]
        have e : labL one = decide (1 ≤ one.length ∧ one.length ≤ 63) := by unfold labL; rw [h1, Bool.and_true]
        rw [e]
        by_cases hl : 1 ≤ one.length ∧ one.length ≤ 63
        · rw [if_pos hl, decide_eq_true hl]
          simp
        · rw [if_neg hl, decide_eq_false hl]
          simp
    · rw [if_neg hc, if_neg hc]
      cases hx : cutAt 46 t with
      | nil => exact absurd hx hne
      | cons a r =>
        by_cases hl : labelC c = true
        · rw [if_pos hl, labGo_cut t (one ++ [c]) done (by rw [List.all_append, h1]; simp [hl]), hx]
          simp
        · rw [if_neg hl]
          have : labL (one ++ c :: a) = false := by
            unfold labL
            have hl2 : labelC c = false := by simpa using hl
            rw [List.all_append, List.all_cons, hl2]
            simp
          simp only [this, Bool.false_and]
          rfl
def labelsS (l : List UInt8) : Option (List (List UInt8)) := if 253 < (dotS (lowerS l)).length then none else labGo [] [] (dotS (lowerS l))
theorem labels_host (l : List UInt8) : (labelsS l).map (fun ks => Lib.join ks [46]) = hostS l := by
  unfold labelsS hostS
  rw [dot_lower, lower_len]
  by_cases h : 253 < (dotS l).length
  · rw [if_pos h, if_pos h]
    rfl
  rw [if_neg h, if_neg h, labGo_cut _ [] [] rfl, cutAt_lower]
  have hall : ∀ ks : List (List UInt8), (ks.map lowerS).all labL = ks.all labelB := by
    intro ks
    rw [List.all_map]
    congr 1
    funext k
    show labL (lowerS k) = labelB k
    unfold labL labelB
    rw [lower_len]
  have hj := join_cutAt 46 (lowerS (dotS l))
  rw [cutAt_lower] at hj
  cases hx : cutAt 46 (dotS l) with
  | nil => exact absurd hx (cutAt_ne _ _)
  | cons a r =>
    rw [hx] at hj
    simp only [List.map_cons, List.nil_append] at hj ⊢
    have e := hall (a :: r)
    rw [List.map_cons, List.all_cons] at e
    rw [e]
    by_cases hr : (a :: r).all labelB = true
    · rw [if_pos hr, if_pos hr, Option.map_some, hj]
    · rw [if_neg hr, if_neg hr]
      rfl
end Go.Q

namespace Go.Proofs.YtacekpdjapgfcaaGreatDoor
open Go Go.RowKit Go.Q
theorem str_size (l : List UInt8) : (ByteArray.mk l.toArray).size = l.length := by simp [ByteArray.size]
theorem str_to (l : List UInt8) (c : Nat) (hc : c ≤ l.length) (w : World) : (Instr.slice 9 (str l) none (some (.int .i64 (c : Int))) none).run Tryz.prog w = .ok (str (l.take c)) w := by
  rw [run_slice_string_to_if w 9 _ .i64 _ Tryz.underlying9, if_pos ⟨by omega, by rw [str_size]; omega⟩, ByteArray.extract_mk]
  simp
theorem str_from (l : List UInt8) (c : Nat) (hc : c ≤ l.length) (w : World) : (Instr.slice 9 (str l) (some (.int .i64 (c : Int))) none none).run Tryz.prog w = .ok (str (l.drop c)) w := by
  rw [run_slice_string_from_if w 9 _ .i64 _ Tryz.underlying9, if_pos ⟨by omega, by rw [str_size]; omega⟩, ByteArray.extract_mk, str_size, Int.toNat_natCast, List.take_of_length_le (by rw [List.length_drop]; omega)]
theorem str_one {l : List UInt8} {c : Nat} {x : UInt8} (h : l[c]? = some x) (w : World) : (Instr.slice 9 (str l) (some (.int .i64 (c : Int))) (some (.int .i64 ((c : Int) + 1))) none).run Tryz.prog w = .ok (str [x]) w := by
  obtain ⟨hl, rfl⟩ := List.getElem?_eq_some_iff.1 h
  rw [run_slice_string w 9 _ .i64 .i64 _ _ Tryz.underlying9 (by omega) (by omega) (by rw [str_size]; omega), ByteArray.extract_mk]
  rw [show ((c : Int) + 1).toNat - ((c : Int)).toNat = 1 from by omega, Int.toNat_natCast, List.drop_eq_getElem_cons hl]
  rfl
theorem str_index {l : List UInt8} {c : Nat} {x : UInt8} (h : l[c]? = some x) (w : World) : (Instr.index 9 (str l) (.int .i64 (c : Int))).run Tryz.prog w = .ok (.int .u8 x.toNat) w := by
  obtain ⟨hl, rfl⟩ := List.getElem?_eq_some_iff.1 h
  rw [run_index_string w 9 _ .i64 _ Tryz.underlying9, dif_pos ⟨by omega, by rw [str_size]; omega⟩]
  simp
  rfl
end Go.Proofs.YtacekpdjapgfcaaGreatDoor

namespace Go.Q
open Go Go.RowKit
def Blf (w : World) (b : Nat) (t : TypeId) (cs : Array Value) : Prop := w.heap[b]? = some (.cells cs t (cs.size, cs.size + 1))
theorem Blf.cell {w : World} {b : Nat} {t : TypeId} {cs : Array Value} (h : Blf w b t cs) (i : Nat) : w.cell? ⟨b, i, none⟩ = cs[i]? := by
  unfold Blf at h; simp [World.cell?, h]
theorem Blf.frozen {w : World} {b : Nat} {t : TypeId} {cs : Array Value} (h : Blf w b t cs) {i : Nat} (hi : i < cs.size) : w.frozen? ⟨b, i, none⟩ = false := by
  unfold Blf at h
  simp only [World.frozen?, h]
  simp
  omega
theorem Blf.set {w : World} {b : Nat} {t : TypeId} {cs : Array Value} (h : Blf w b t cs) (i : Nat) (v : Value) : Blf (w.setCell ⟨b, i, none⟩ v) b t (cs.setIfInBounds i v) := by
  unfold Blf at *; simp [World.setCell, Array.getElem?_modify, h]
theorem Blf.bytes {w : World} {b : Nat} {t : TypeId} {cs : Array Value} (h : Blf w b t cs) {l : List UInt8} {n c : Nat} (hn : n = l.length) (hc : l.length ≤ c) (hm : c ≤ maxLen) (hl : ∀ (i : Nat) (x : UInt8), l[i]? = some x → cs[i]? = some (Value.int .u8 x.toNat)) : Bytes w (.slice (some ⟨b, 0, none⟩) n c) l := by
  subst hn
  refine ⟨_, c, by rw [byteCells_len], by rw [byteCells_len]; exact hc, hm, fun _ => ⟨b, 0, rfl, fun i u hu => ?_⟩⟩
  rw [byteCells_get] at hu
  cases hli : l[i]? with
  | none => rw [hli] at hu; cases hu
  | some x =>
    rw [hli] at hu
    simp only [Option.map_some, Option.some.injEq] at hu
    subst hu
    rw [Nat.zero_add, h.cell i]
    exact hl i x hli
theorem low_take {l : List UInt8} {j : Nat} {x : UInt8} (h : l[j]? = some x) : (lowerS (l.take j) ++ l.drop j).set j (lowB x) = lowerS (l.take (j + 1)) ++ l.drop (j + 1) := by
  obtain ⟨hl, rfl⟩ := List.getElem?_eq_some_iff.1 h
  have e1 : (lowerS (l.take j)).length = j := by rw [lower_len, List.length_take]; omega
  rw [List.set_append_right _ _ (by omega), e1, Nat.sub_self, List.drop_eq_getElem_cons hl, List.set_cons_zero, List.take_add_one, List.getElem?_eq_getElem hl]
  unfold lowerS
  rw [List.map_append, List.append_assoc]
  rfl
theorem low_at {l : List UInt8} {j : Nat} {x : UInt8} (h : l[j]? = some x) : (lowerS (l.take j) ++ l.drop j)[j]? = some x := by
  obtain ⟨hl, rfl⟩ := List.getElem?_eq_some_iff.1 h
  have e1 : (lowerS (l.take j)).length = j := by rw [lower_len, List.length_take]; omega
  rw [List.getElem?_append_right (by omega), e1, Nat.sub_self, List.drop_eq_getElem_cons hl]
  rfl
theorem lowMix_len (l : List UInt8) (j : Nat) : (lowerS (l.take j) ++ l.drop j).length = l.length := by
  rw [List.length_append, lower_len, List.length_take, List.length_drop]
  omega
end Go.Q
namespace Go.Proofs.YtacekpdjapgfcaaGreatDoor
open Go Go.RowKit Go.Q
set_option linter.unusedSimpArgs false
theorem blf_of_str (w : World) (l : List UInt8) (hl : l.length ≤ 1099511627776) : ∃ c w' cs, (Go.convert 9 23 (str l)).run Tryz.prog w = .ok (.slice (some ⟨w.heap.size, 0, none⟩) l.length c) w' ∧ Blf w' w.heap.size 5 cs ∧ (∀ (i : Nat) (x : UInt8), l[i]? = some x → cs[i]? = some (Value.int .u8 x.toNat)) ∧ l.length ≤ c ∧ c ≤ maxLen ∧ Fr (fun _ => False) w w' ∧ w'.heap.size = w.heap.size + 1 := by
  have hr := Lib.run_convert_string_bytes (P := Tryz.prog) w 9 23 5 ⟨l.toArray⟩ Tryz.underlying9 Tryz.underlying23 Tryz.underlying5
  have hs : (ByteArray.mk l.toArray).size = l.length := by simp [ByteArray.size]
  rw [hs] at hr
  have hb : Blf (Lib.bytesWorld w 5 ⟨l.toArray⟩) w.heap.size 5 (Lib.bytesCells w 5 ⟨l.toArray⟩) := Lib.bytesWorld_at_new _ _ _
  refine ⟨_, _, _, hr, hb, fun i x hx => ?_, grownCap_ge _ _ _ _, grownCap_le_maxLen _ _ _ _ (by unfold maxLen; omega), ⟨rfl, rfl, rfl, by rw [Lib.bytesWorld_size]; omega, fun k hk _ => Lib.bytesWorld_at_old _ _ _ _ hk⟩, Lib.bytesWorld_size _ _ _⟩
  have hi := (List.getElem?_eq_some_iff.1 hx).1
  rw [← hb.cell i, Lib.bytesWorld_cell _ _ _ _ (by rw [hs]; exact hi)]
  simp [List.getD_eq_getElem?_getD, hx]
set_option maxRecDepth 20000 in
set_option maxHeartbeats 2000000 in
theorem lower_any (l : List UInt8) (w : World) (hl : l.length ≤ 1099511627776) :
    Calls Tryz.prog 176 #[str l] w fun e w' => e = .returned (str (lowerS l)) ∧ Fr (fun _ => False) w w' := by
  obtain ⟨c, w1, cs0, hrun, hB, hcs, hlc, hcm, F1, hs1⟩ := blf_of_str w l hl
  obtain ⟨z, hz⟩ : ∃ z, z = w.heap.size := ⟨_, rfl⟩
  rw [← hz] at hrun hB
  have HZ := Lib.hid hz
  have HB := Lib.hid hB
  have HF1 := Lib.hid F1
  have HCS := Lib.hid hcs
  have HLC := Lib.hid hlc
  have HCMX := Lib.hid hcm
  clear hB F1 hcs hz hs1 hlc hcm
  go_enter Tryz.func176, Tryz.ntmps176
  go_wp2_with fail
  go_loopg [10] l.length (fun g i wr => ∃ (j : Nat) (cs : Array Value), g = l.length - j ∧ j ≤ l.length ∧ i = .int .i64 j ∧ Blf wr z 5 cs ∧ (∀ (i : Nat) (x : UInt8), (lowerS (l.take j) ++ l.drop j)[i]? = some x → cs[i]? = some (Value.int .u8 x.toNat)) ∧ Fr (fun _ => False) w wr)
  case atStart => exact ⟨0, cs0, rfl, Nat.zero_le _, rfl, HB.out, by simpa [lowerS] using HCS.out, HF1.out⟩
  case round =>
    obtain ⟨j, cs, hg, hj, rfl, hBr, hcr, F⟩ := hrel
    have HG := Lib.hid hg
    have HBR := Lib.hid hBr
    have HCR := Lib.hid hcr
    have HF := Lib.hid F
    clear hg hBr hcr F hrun HB HCS
    by_cases hjl : j < l.length
    · obtain ⟨x, hx⟩ : ∃ x, l[j]? = some x := ⟨_, List.getElem?_eq_getElem hjl⟩
      have ec := HCR.out j x (low_at hx)
      have hjc := (Array.getElem?_eq_some_iff.1 ec).1
      have e1 : wr.cell? ⟨z, j, none⟩ = some (.int .u8 x.toNat) := (Blf.cell HBR.out j).trans ec
      have f1 := Blf.frozen HBR.out hjc
      have HX := Lib.hid hx
      have r1 : (0 : Int) ≤ (j : Int) := by omega
      have r2 : (j : Int) < (l.length : Int) := by omega
      have hsm : IntKind.u8.wrap (smallS (x.toNat : Int)) = ((lowB x).toNat : Int) := by
        rw [lowB_toNat]
        have := x.toNat_lt
        unfold smallS
        split
        · rw [if_pos (by omega)]
          simp [IntKind.wrap, IntKind.signed, IntKind.bits]
          omega
        · rw [if_neg (by omega)]
          simp [IntKind.wrap, IntKind.signed, IntKind.bits]
          omega
      have HSM := Lib.hid (small_any (x.toNat : Int) wr)
      generalize smallS (x.toNat : Int) = sm at *
      have HBN := Lib.hid (Blf.set HBR.out j (.int .u8 (lowB x).toNat))
      have HFN := Lib.hid (HF.out.trans' (Fr.setCell (S := fun k => k = z) (p := ⟨z, j, none⟩) (Fr.refl wr) (fun _ => rfl) (.int .u8 (lowB x).toNat)) (fun i hi e => by have := HZ.out; omega))
      have HCN := Lib.hid (show ∀ (i : Nat) (y : UInt8), (lowerS (l.take (j + 1)) ++ l.drop (j + 1))[i]? = some y → (cs.setIfInBounds j (Value.int .u8 (lowB x).toNat))[i]? = some (Value.int .u8 y.toNat) from fun i y hy => by
        rw [← low_take HX.out] at hy
        by_cases hij : i = j
        · subst hij
          rw [List.getElem?_set_self (by rw [lowMix_len]; exact hjl)] at hy
          simp only [Option.some.injEq] at hy
          subst hy
          rw [Array.getElem?_setIfInBounds_self_of_lt hjc]
        · rw [List.getElem?_set_ne (fun e => hij e.symm)] at hy
          rw [Array.getElem?_setIfInBounds_ne (fun e => hij e.symm)]
          exact HCR.out i y hy)
      have hx256 : x.toNat < 256 := x.toNat_lt
      clear hx ec hjc
      generalize (lowB x).toNat = m at *
      generalize x.toNat = n at *
      have HWR := Lib.hid hsm
      clear hsm
      go_wp2_with fail
      refine HSM.out.mono ?_
      rintro e w2 ⟨rfl, rfl⟩
      have hsm := HWR.out
      go_wp2_with fail
      go_roundg (l.length - (j + 1))
      case measure => rw [HG.out]; omega
      case rel => exact ⟨j + 1, _, rfl, by omega, by go_num, HBN.out, HCN.out, HFN.out⟩
    · obtain rfl : j = l.length := by omega
      have hcr := HCR.out
      rw [List.drop_length, List.append_nil, List.take_length] at hcr
      have HS := Lib.hid (str_of (Blf.bytes HBR.out (l := lowerS l) (n := l.length) (c := c) (lower_len l).symm (by rw [lower_len]; exact HLC.out) HCMX.out hcr))
      have hsr := HS.out
      clear hcr
      go_wp2_with fail
      go_ret
      exact ⟨rfl, HF.out⟩
set_option maxRecDepth 20000 in
set_option maxHeartbeats 4000000 in
theorem label_any (l : List UInt8) (w : World) (hl : l.length ≤ 1099511627776) :
    Calls Tryz.prog 175 #[str l] w fun e w' => e = .returned (.bool (labelB l)) ∧ Fr (fun _ => False) w w' := by
  have hs : (ByteArray.mk l.toArray).size = l.length := str_size l
  have hb : labelB l = (decide (1 ≤ l.length ∧ l.length ≤ 63) && (lowerS l).all labelC) := rfl
  have HB := Lib.hid hb
  clear hb
  rcases Nat.lt_or_ge l.length 1 with h1 | h1
  · have q1 : decide ((l.length : Int) < 1) = true := decide_eq_true (by omega)
    have q2 : (l.length : Int) < 1 := by omega
    go_enter Tryz.func175, Tryz.ntmps175
    go_wp2_with fail
    go_ret
    exact ⟨by rw [HB.out, decide_eq_false (by omega), Bool.false_and]; rfl, Fr.refl _⟩
  have q1 : decide ((l.length : Int) < 1) = false := decide_eq_false (by omega)
  have q2 : ¬ (l.length : Int) < 1 := by omega
  rcases Nat.lt_or_ge 63 l.length with h2 | h2
  · have q3 : decide ((63 : Int) < (l.length : Int)) = true := decide_eq_true (by omega)
    have q4 : (63 : Int) < (l.length : Int) := by omega
    go_enter Tryz.func175, Tryz.ntmps175
    go_wp2_with fail
    go_ret
    exact ⟨by rw [HB.out, decide_eq_false (by omega), Bool.false_and]; rfl, Fr.refl _⟩
  have q3 : decide ((63 : Int) < (l.length : Int)) = false := decide_eq_false (by omega)
  have q4 : ¬ (63 : Int) < (l.length : Int) := by omega
  have HL := Lib.hid (lower_any l w hl)
  rw [decide_eq_true (show 1 ≤ l.length ∧ l.length ≤ 63 from ⟨h1, h2⟩), Bool.true_and] at HB
  have hll := lower_len l
  obtain ⟨m, hm⟩ : ∃ m, m = lowerS l := ⟨_, rfl⟩
  rw [← hm] at HL HB hll
  clear hm
  go_enter Tryz.func175, Tryz.ntmps175
  go_wp2_with fail
  refine HL.out.mono ?_
  rintro e w1 ⟨rfl, F1⟩
  obtain ⟨cp, w2, hcv, hbv, FC, -⟩ := bytes_of_str w1 m (by omega)
  have HV := Lib.hid hbv
  have HF := Lib.hid (F1.trans FC)
  clear F1 FC hbv HL
  obtain ⟨p, hp⟩ : ∃ p : Option Addr, p = some ⟨w1.heap.size, 0, none⟩ := ⟨_, rfl⟩
  rw [← hp] at hcv HV
  clear hp
  go_wp2_with fail
  go_loopg [17] m.length (fun g i wr => ∃ j : Nat, g = m.length - j ∧ j ≤ m.length ∧ i = .int .i64 j ∧ (∀ c ∈ m.take j, labelC c = true) ∧ wr = w2)
  case atStart => exact ⟨0, rfl, Nat.zero_le _, rfl, by simp, rfl⟩
  case round =>
    obtain ⟨j, hg, hj, rfl, hall, rfl⟩ := hrel
    have HG := Lib.hid hg
    have HA := Lib.hid hall
    clear hg hall hcv
    by_cases hjl : j < m.length
    · obtain ⟨a0, c0, he, -, -, hx⟩ := HV.out.form
      simp only [Value.slice.injEq, true_and] at he
      obtain ⟨rfl, rfl⟩ := he
      obtain ⟨k, o, rfl, hy⟩ := hx (by omega)
      obtain ⟨c, hc1⟩ : ∃ c, m[j]? = some c := ⟨_, List.getElem?_eq_getElem hjl⟩
      have e1 := hy j c hc1
      have HC := Lib.hid hc1
      have r1 : (0 : Int) ≤ (j : Int) := by omega
      have r2 : (j : Int) < (m.length : Int) := by omega
      clear hx hy hc1
      have hcl : labelC c = decide ((97 ≤ c.toNat ∧ c.toNat ≤ 122) ∨ (48 ≤ c.toNat ∧ c.toNat ≤ 57) ∨ c.toNat = 45 ∨ c.toNat = 95) := rfl
      have HCL := Lib.hid hcl
      have HCM := Lib.hid (List.mem_of_getElem? HC.out)
      clear hcl
      generalize c.toNat = n at *
      have hcase : (97 ≤ n ∧ n ≤ 122) ∨ 122 < n ∨ (48 ≤ n ∧ n ≤ 57) ∨ n < 48 ∨ (57 < n ∧ n < 97) := by omega
      have fin : ∀ (hd : ¬ labelC c = true), m.all labelC = false := fun hd => List.all_eq_false.2 ⟨c, HCM.out, hd⟩
      have FIN := Lib.hid fin
      have nxt : ∀ (hd : labelC c = true), ∀ x ∈ m.take (j + 1), labelC x = true := fun hd x hx => by
        rw [List.take_add_one, HC.out] at hx
        rcases List.mem_append.1 hx with h | h
        · exact HA.out x h
        · simp at h
          rw [h]
          exact hd
      have NXT := Lib.hid nxt
      clear fin nxt
      rcases hcase with h | h | h | h | h
      · have d1 : (97 : Int) ≤ (n : Int) := by omega
        have d2 : (n : Int) ≤ 122 := by omega
        have HN := Lib.hid (NXT.out (by rw [HCL.out, decide_eq_true (by omega)]))
        go_wp2_with fail
        go_roundg (m.length - (j + 1))
        case measure => rw [HG.out]; omega
        case rel => exact ⟨j + 1, rfl, by omega, by go_num, HN.out, rfl⟩
      · have d1 : (97 : Int) ≤ (n : Int) := by omega
        have d2 : ¬ (n : Int) ≤ 122 := by omega
        have d3 : (48 : Int) ≤ (n : Int) := by omega
        have d4 : ¬ (n : Int) ≤ 57 := by omega
        have d5 : ((n : Int) == 45) = false := beq_eq_false_iff_ne.2 (by omega)
        have d6 : ((n : Int) == 95) = false := beq_eq_false_iff_ne.2 (by omega)
        have HN := Lib.hid (FIN.out (by rw [HCL.out, decide_eq_false (by omega)]; exact Bool.false_ne_true))
        go_wp2_with fail
        go_ret
        exact ⟨by rw [HB.out, HN.out]; rfl, HF.out⟩
      · have d1 : ¬ (97 : Int) ≤ (n : Int) := by omega
        have d3 : (48 : Int) ≤ (n : Int) := by omega
        have d4 : (n : Int) ≤ 57 := by omega
        have HN := Lib.hid (NXT.out (by rw [HCL.out, decide_eq_true (by omega)]))
        go_wp2_with fail
        go_roundg (m.length - (j + 1))
        case measure => rw [HG.out]; omega
        case rel => exact ⟨j + 1, rfl, by omega, by go_num, HN.out, rfl⟩
      · have d1 : ¬ (97 : Int) ≤ (n : Int) := by omega
        have d3 : ¬ (48 : Int) ≤ (n : Int) := by omega
        have d6 : ((n : Int) == 95) = false := beq_eq_false_iff_ne.2 (by omega)
        by_cases h45 : n = 45
        · have d5 : ((n : Int) == 45) = true := by rw [h45]; rfl
          have HN := Lib.hid (NXT.out (by rw [HCL.out, decide_eq_true (by omega)]))
          clear h45
          go_wp2_with fail
          go_roundg (m.length - (j + 1))
          case measure => rw [HG.out]; omega
          case rel => exact ⟨j + 1, rfl, by omega, by go_num, HN.out, rfl⟩
        · have d5 : ((n : Int) == 45) = false := beq_eq_false_iff_ne.2 (by omega)
          have HN := Lib.hid (FIN.out (by rw [HCL.out, decide_eq_false (by omega)]; exact Bool.false_ne_true))
          go_wp2_with fail
          go_ret
          exact ⟨by rw [HB.out, HN.out]; rfl, HF.out⟩
      · have d1 : ¬ (97 : Int) ≤ (n : Int) := by omega
        have d3 : (48 : Int) ≤ (n : Int) := by omega
        have d4 : ¬ (n : Int) ≤ 57 := by omega
        have d5 : ((n : Int) == 45) = false := beq_eq_false_iff_ne.2 (by omega)
        by_cases h95 : n = 95
        · have d6 : ((n : Int) == 95) = true := by rw [h95]; rfl
          have HN := Lib.hid (NXT.out (by rw [HCL.out, decide_eq_true (by omega)]))
          clear h95
          go_wp2_with fail
          go_roundg (m.length - (j + 1))
          case measure => rw [HG.out]; omega
          case rel => exact ⟨j + 1, rfl, by omega, by go_num, HN.out, rfl⟩
        · have d6 : ((n : Int) == 95) = false := beq_eq_false_iff_ne.2 (by omega)
          have HN := Lib.hid (FIN.out (by rw [HCL.out, decide_eq_false (by omega)]; exact Bool.false_ne_true))
          go_wp2_with fail
          go_ret
          exact ⟨by rw [HB.out, HN.out]; rfl, HF.out⟩
    · have hall := HA.out
      rw [List.take_of_length_le (by omega)] at hall
      have HN := Lib.hid (show m.all labelC = true from List.all_eq_true.2 hall)
      clear hall
      go_wp2_with fail
      go_ret
      exact ⟨by rw [HB.out, HN.out]; rfl, HF.out⟩
theorem trimDot_list (l : List UInt8) : Lib.trimSuffix l [46] = dotS l := by
  unfold Lib.trimSuffix dotS Lib.hasSuffix
  have h : ([46] : List UInt8).isSuffixOf l = true ↔ l.getLast? = some 46 := by
    rw [List.isSuffixOf_iff_suffix]
    constructor
    · rintro ⟨t, rfl⟩
      simp
    · intro h
      obtain ⟨t, rfl⟩ := List.getLast?_eq_some_iff.1 h
      exact ⟨t, rfl⟩
  by_cases hd : l.getLast? = some 46
  · rw [if_pos (h.2 hd), if_pos hd, List.dropLast_eq_take]
    rfl
  · rw [if_neg (fun e => hd (h.1 e)), if_neg hd]
theorem trimDot_any (l : List UInt8) (w : World) (hl : l.length ≤ 1099511627776) :
    Calls Tryz.prog 173 #[str l, str [46]] w fun e w' => e = .returned (str (dotS l)) ∧ w' = w := by
  refine (Go.Proofs.Tryz.strings_TrimSuffix ⟨l.toArray⟩ ⟨[46].toArray⟩ w (by rw [str_size]; omega)).mono ?_
  rintro e w' ⟨rfl, rfl⟩
  refine ⟨?_, rfl⟩
  rw [← trimDot_list]
def hostV (r : Option (List UInt8)) : Value := match r with | some h => .tuple #[str h, .int .i64 0] | none => .tuple #[str [], .int .i64 6]
set_option maxRecDepth 20000 in
set_option maxHeartbeats 2000000 in
theorem host_any (l : List UInt8) (w : World) (hl : l.length ≤ 1000000000) (hE : Env w) :
    Calls Tryz.prog 136 #[str l] w fun e w' => e = .returned (hostV (hostS l)) ∧ Fr (fun _ => False) w w' := by
  have hdl := dot_len l
  have hh : hostS l = if 253 < (dotS l).length then none else if (cutAt 46 (dotS l)).all labelB then some (lowerS (dotS l)) else none := rfl
  have HH := Lib.hid hh
  have HT := Lib.hid (trimDot_any l w (by omega))
  have hE0 := Lib.hid hE
  clear hh hE
  generalize dotS l = d at *
  have hs : (ByteArray.mk d.toArray).size = d.length := str_size d
  rcases Nat.lt_or_ge 253 d.length with h1 | h1
  · have q1 : (253 : Int) < (d.length : Int) := by omega
    rw [if_pos h1] at HH
    go_enter Tryz.func136, Tryz.ntmps136
    go_wp2_with fail
    refine HT.out.mono ?_
    rintro e w1 ⟨rfl, rfl⟩
    go_wp2_with fail
    refine bodyPost_ret (v := .tuple #[str [], .int .i64 6]) (by simp [results, Tryz.results136, go_sem]) rfl ⟨?_, Fr.refl _⟩
    rw [HH.out]
    rfl
  have q1 : ¬ (253 : Int) < (d.length : Int) := by omega
  rw [if_neg (by omega)] at HH
  have HSP := Lib.hid (strSplit_any d 46 w hE0.out (by omega))
  have hks : ∀ k ∈ cutAt 46 d, k.length ≤ d.length := by
    intro k hk
    have : ∀ (l : List UInt8), ∀ k ∈ cutAt 46 l, k.length ≤ l.length := by
      intro l
      induction l with
      | nil => intro k hk; simp [cutAt] at hk; simp [hk]
      | cons x t ih =>
        intro k hk
        unfold cutAt at hk
        split at hk
        · rcases List.mem_cons.1 hk with rfl | hk
          · simp
          · have := ih k hk
            simp only [List.length_cons]
            omega
        · split at hk
          · simp at hk; simp [hk]
          · rename_i h r hc
            rcases List.mem_cons.1 hk with rfl | hk
            · have := ih h (by rw [hc]; simp)
              simp only [List.length_cons]
              omega
            · have := ih k (by rw [hc]; simp [hk])
              simp only [List.length_cons]
              omega
    exact this d k hk
  have HKS := Lib.hid hks
  have hcl := (cutAt_len 46 d).1
  clear hks
  generalize cutAt 46 d = ks at *
  go_enter Tryz.func136, Tryz.ntmps136
  go_wp2_with fail
  refine HT.out.mono ?_
  rintro e w1 ⟨rfl, rfl⟩
  go_wp2_with fail
  refine HSP.out.mono ?_
  rintro e w2 ⟨rfl, hst, F2⟩
  have HST := Lib.hid hst
  have HF2 := Lib.hid F2
  obtain ⟨p, hp⟩ : ∃ p : Option Addr, p = some ⟨w1.heap.size, 0, none⟩ := ⟨_, rfl⟩
  rw [← hp] at HST ⊢
  clear hst F2 hp HSP
  go_wp2_with fail
  go_loopg [14] ks.length (fun g i wr => ∃ j : Nat, g = ks.length - j ∧ j ≤ ks.length ∧ i = .int .i64 j ∧ (∀ c ∈ ks.take j, labelB c = true) ∧ Fr (fun _ => False) w2 wr)
  case atStart => exact ⟨0, rfl, Nat.zero_le _, rfl, by simp, Fr.refl _⟩
  case round =>
    obtain ⟨j, hg, hj, rfl, hall, F⟩ := hrel
    have HG := Lib.hid hg
    have HA := Lib.hid hall
    have HF := Lib.hid F
    clear hg hall
    by_cases hjl : j < ks.length
    · obtain ⟨a0, c0, he, -, -, hx⟩ := Strs.form (HST.out.old F)
      simp only [Value.slice.injEq, true_and] at he
      obtain ⟨rfl, rfl⟩ := he
      obtain ⟨b, o, rfl, hy⟩ := hx (by omega)
      obtain ⟨k, hk⟩ : ∃ k, ks[j]? = some k := ⟨_, List.getElem?_eq_getElem hjl⟩
      have e1 := hy j k hk
      have HK := Lib.hid hk
      have hkl := HKS.out k (List.mem_of_getElem? hk)
      have r1 : (0 : Int) ≤ (j : Int) := by omega
      have r2 : (j : Int) < (ks.length : Int) := by omega
      have HLB := Lib.hid (label_any k wr (by omega))
      obtain ⟨bl, hbl⟩ : ∃ bl, bl = labelB k := ⟨_, rfl⟩
      rw [← hbl] at HLB
      have HBL := Lib.hid hbl
      clear hx hy hk F hbl
      go_wp2_with fail
      refine HLB.out.mono ?_
      rintro e w3 ⟨rfl, F3⟩
      have HF3 := Lib.hid (HF.out.trans F3)
      clear F3 HF HLB e1
      cases bl with
      | false =>
        have hf : ks.all labelB = false := List.all_eq_false.2 ⟨k, List.mem_of_getElem? HK.out, by rw [← HBL.out]; exact Bool.false_ne_true⟩
        rw [hf] at HH
        clear hf
        go_wp2_with fail
        refine bodyPost_ret (v := .tuple #[str [], .int .i64 6]) (by simp [results, Tryz.results136, go_sem]) rfl ⟨?_, HF2.out.trans HF3.out⟩
        rw [HH.out]
        rfl
      | true =>
        have HN := Lib.hid (show ∀ x ∈ ks.take (j + 1), labelB x = true from fun x hx => by
          rw [List.take_add_one, HK.out] at hx
          rcases List.mem_append.1 hx with h | h
          · exact HA.out x h
          · simp at h
            rw [h]
            exact HBL.out.symm)
        go_wp2_with fail
        go_roundg (ks.length - (j + 1))
        case measure => rw [HG.out]; omega
        case rel => exact ⟨j + 1, rfl, by omega, by go_num, HN.out, HF3.out⟩
    · have hall := HA.out
      rw [List.take_of_length_le (by omega)] at hall
      rw [if_pos (List.all_eq_true.2 hall)] at HH
      have HLW := Lib.hid (lower_any d wr (by omega))
      clear hall F
      go_wp2_with fail
      refine HLW.out.mono ?_
      rintro e w3 ⟨rfl, F3⟩
      have HF3 := Lib.hid ((HF2.out.trans HF.out).trans F3)
      clear F3
      go_wp2_with fail
      refine bodyPost_ret (v := .tuple #[str (lowerS d), .int .i64 0]) (by simp [results, Tryz.results136, go_sem]) rfl ⟨?_, HF3.out⟩
      rw [HH.out]
      rfl
theorem host_some {l h : List UInt8} (hh : hostS l = some h) (w : World) (hl : l.length ≤ 1000000000) (hE : Env w) :
    Calls Tryz.prog 136 #[str l] w fun e w' => e = .returned (.tuple #[str h, .int .i64 0]) ∧ Fr (fun _ => False) w w' :=
  (host_any l w hl hE).mono (by rintro e w' ⟨rfl, F⟩; rw [hh]; exact ⟨rfl, F⟩)
theorem host_none {l : List UInt8} (hh : hostS l = none) (w : World) (hl : l.length ≤ 1000000000) (hE : Env w) :
    Calls Tryz.prog 136 #[str l] w fun e w' => e = .returned (.tuple #[str [], .int .i64 6]) ∧ Fr (fun _ => False) w w' :=
  (host_any l w hl hE).mono (by rintro e w' ⟨rfl, F⟩; rw [hh]; exact ⟨rfl, F⟩)
theorem lastIdx_list (c : UInt8) (l : List UInt8) : ∀ k, k ≤ l.length → Lib.lastIdx ⟨l.toArray⟩ (c.toNat : Int) k = lastTo c l k
  | 0, _ => rfl
  | k + 1, h => by
    unfold Lib.lastIdx lastTo
    rw [lastIdx_list c l k (by omega)]
    have hk : l[k]? = some l[k] := List.getElem?_eq_getElem (by omega)
    have e : (ByteArray.mk l.toArray).data[k]! = l[k] := by
      show l.toArray[k]! = l[k]
      rw [getElem!_pos l.toArray k (by simp; omega)]
      simp
    rw [e, hk]
    by_cases hc : l[k] = c
    · rw [if_pos (by rw [hc]), if_pos (by rw [hc])]
    · rw [if_neg (fun h => hc (UInt8.toNat_inj.1 (by omega))), if_neg (fun h => hc (by simpa using h))]
theorem lastByte_any (l : List UInt8) (c : UInt8) (w : World) (hl : l.length ≤ 1099511627776) :
    Calls Tryz.prog 178 #[str l, .int .u8 c.toNat] w fun e w' => e = .returned (.int .i64 (lastS c l)) ∧ w' = w := by
  refine (Go.Proofs.Tryz.strings_LastIndexByte ⟨l.toArray⟩ (c.toNat : Int) (by rw [str_size]; omega) w).mono ?_
  rintro e w' ⟨rfl, rfl⟩
  refine ⟨?_, rfl⟩
  unfold Lib.lastIndexByte
  rw [str_size, lastIdx_list c l _ (Nat.le_refl _)]
  rfl
set_option maxRecDepth 20000 in
set_option maxHeartbeats 1000000 in
theorem mail_any (l : List UInt8) (w : World) (hl : l.length ≤ 1000000000) :
    Calls Tryz.prog 138 #[str l] w fun e w' => e = .returned (str (mailS l)) ∧ Fr (fun _ => False) w w' := by
  have HI := Lib.hid (lastByte_any l 64 w (by omega))
  have hm : mailS l = if lastS 64 l < 0 then l else l.take (lastS 64 l).toNat ++ lowerS (l.drop (lastS 64 l).toNat) := rfl
  obtain ⟨h1, -, h3⟩ := lastTo_lt 64 l l.length
  rw [show lastTo 64 l l.length = lastS 64 l from rfl] at h1 h3
  have HM := Lib.hid hm
  clear hm
  generalize lastS 64 l = x at *
  by_cases hx : x < 0
  · rw [if_pos hx] at HM
    go_enter Tryz.func138, Tryz.ntmps138
    go_wp2_with fail
    refine HI.out.mono ?_
    rintro e w1 ⟨rfl, rfl⟩
    go_wp2_with fail
    go_ret
    exact ⟨by rw [HM.out]; rfl, Fr.refl _⟩
  · obtain ⟨n, rfl⟩ : ∃ n : Nat, x = n := ⟨x.toNat, by omega⟩
    rw [if_neg hx, Int.toNat_natCast] at HM
    have hn : n ≤ l.length := by omega
    have s1 := fun w => str_to l n hn w
    have s2 := fun w => str_from l n hn w
    have HL := Lib.hid (fun w => lower_any (l.drop n) w (by rw [List.length_drop]; omega))
    have z1 : (ByteArray.mk (l.take n).toArray).size = (l.take n).length := str_size _
    have z2 : (ByteArray.mk (lowerS (l.drop n)).toArray).size = (lowerS (l.drop n)).length := str_size _
    have z3 : (lowerS (l.drop n)).length ≤ 1000000000 := by rw [lower_len, List.length_drop]; omega
    have z4 : (l.take n).length ≤ 1000000000 := by rw [List.length_take]; omega
    have z5 : ¬ 9223372036854775807 < (l.take n).length + (lowerS (l.drop n)).length := by omega
    generalize lowerS (l.drop n) = lo at *
    generalize l.take n = fr at *
    generalize l.drop n = dr at *
    go_enter Tryz.func138, Tryz.ntmps138
    go_wp2_with fail
    refine HI.out.mono ?_
    rintro e w1 ⟨rfl, rfl⟩
    go_upto_region 4 with fail
    go_region_held3 (fun w' => True) (trivial) (first
      | (go_at_call 176; refine (HL.out _).mono ?_; rintro e w2 ⟨rfl, F2⟩))
    all_goals
      have HF2 := Lib.hid ((Fr.refl (S := fun _ => False) w1).drew.trans F2)
      go_wp2_with fail
      go_ret
      exact ⟨by rw [HM.out]; exact congrArg (fun x : ByteArray => Ending.returned (Value.string x)) (ba_cat fr lo), HF2.out⟩
end Go.Proofs.YtacekpdjapgfcaaGreatDoor

namespace Go.Q
open Go Go.RowKit
theorem host_len {l h : List UInt8} (hh : hostS l = some h) : h.length ≤ l.length := by
  unfold hostS at hh
  split at hh
  · cases hh
  split at hh
  · simp only [Option.some.injEq] at hh
    subst hh
    rw [lower_len]
    exact dot_len l
  · cases hh
theorem mail_len (l : List UInt8) : (mailS l).length ≤ l.length := by
  unfold mailS
  split
  · omega
  · rw [List.length_append, lower_len, List.length_take, List.length_drop]
    omega
theorem genMean_len {g : Gen} (hf : fewG g) (hok : g.k = 4 → nameOk g.n = true) : (meanS g).length ≤ 1000000000000 := by
  obtain ⟨f1, f2⟩ := hf
  unfold meanS
  split
  · rename_i h4
    obtain ⟨h1, h2⟩ := name_rdns (hok h4)
    have hkl : ∀ k ∈ g.n.map rdnKeyS, k.length ≤ 2560017616 := fun k hk => by
      obtain ⟨r, hr, rfl⟩ := List.mem_map.1 hk
      exact rdnKey_len (f2 r hr) (h2 r hr)
    have h3 := join_len 47 2560017616 _ hkl
    rw [List.length_map] at h3
    have h4 : nameKeyS g.n = Lib.join (g.n.map rdnKeyS) [47] := rfl
    rw [h4]
    have := Nat.mul_le_mul_right (2560017616 + 1) h1
    omega
  split
  · split
    · rename_i h hh
      have := host_len hh
      omega
    · have := hexS_len g.b
      simp only [List.length_cons]
      omega
  split
  · have := mail_len g.b
    omega
  · have := hexS_len g.b
    omega
end Go.Q
namespace Go.Proofs.YtacekpdjapgfcaaGreatDoor
open Go Go.RowKit Go.Q
set_option linter.unusedSimpArgs false
set_option maxRecDepth 20000 in
set_option maxHeartbeats 4000000 in
theorem meaning_any (u : Value) (g : Gen) (w : World) (h : GenAt w u g) (hf : fewG g) (hok : g.k = 4 → nameOk g.n = true) (hE : Env w) :
    Calls Tryz.prog 92 #[u] w fun e w' => e = .returned (str (meanS g)) ∧ Fr (fun _ => False) w w' := by
  obtain ⟨ab, cb, an, cn, rfl, hb, hn⟩ := h.form
  obtain ⟨k, b, n⟩ := g
  obtain ⟨f1, f2⟩ := hf
  simp only at hb hn f1 f2 hok ⊢
  have F0 : Fr (fun _ => False) w (w.alloc (.cells #[.int .i64 k, .slice ab b.length cb, .slice an n.length cn] 42)) := (Fr.refl w).alloc _
  have B := Blk.new w 42 #[.int .i64 k, .slice ab b.length cb, .slice an n.length cn]
  obtain ⟨z, hz⟩ : ∃ z, z = w.heap.size := ⟨_, rfl⟩
  rw [← hz] at B
  have HZ := Lib.hid hz
  have HB := Lib.hid (hb.old F0)
  have HN := Lib.hid (hn.old F0)
  have HE := Lib.hid (hE.old F0)
  have HF0 := Lib.hid F0
  have HF2 := Lib.hid f2
  have HOK := Lib.hid hok
  have hg : meanS ⟨k, b, n⟩ = if k = 4 then nameKeyS n else if k = 2 then (match hostS b with | some h => h | none => 35 :: hexS b) else if k = 1 then mailS b else hexS b := rfl
  have HG := Lib.hid hg
  clear h hb hn hz hE F0 f2 hg hok
  have hk : k = 4 ∨ k = 2 ∨ k = 1 ∨ ((k == 4) = false ∧ (k == 2) = false ∧ (k == 1) = false) := by
    simp only [beq_eq_false_iff_ne]
    omega
  rcases hk with rfl | rfl | rfl | ⟨k4, k2, k1⟩
  · rw [if_pos rfl] at HG
    go_enter Tryz.func92, Tryz.ntmps92
    go_upto_region 1 with fail
    rw [← HZ.out]
    generalize (w.alloc (.cells #[.int .i64 4, .slice ab b.length cb, .slice an n.length cn] 42)) = w0 at *
    have e0 := B.cell 0
    have e2 := B.cell 2
    simp only [List.getElem?_toArray, List.getElem?_cons_succ, List.getElem?_cons_zero] at e0 e2
    go_wp2_with fail
    refine (nameKey_any _ n w0 HN.out HF2.out (HOK.out (by first | rfl | trivial)) HE.out).mono ?_
    rintro e w1 ⟨rfl, F1⟩
    go_wp2_with fail
    go_ret
    exact ⟨by rw [HG.out]; rfl, HF0.out.trans F1⟩
  · rw [if_neg (by decide), if_pos rfl] at HG
    have HS := Lib.hid (str_of HB.out)
    cases hh : hostS b with
    | some ho =>
      have HH := Lib.hid (host_some hh _ (by omega) HE.out)
      rw [hh] at HG
      clear hh
      go_enter Tryz.func92, Tryz.ntmps92
      go_upto_region 1 with fail
      rw [← HZ.out]
      generalize (w.alloc (.cells #[.int .i64 2, .slice ab b.length cb, .slice an n.length cn] 42)) = w0 at *
      have e0 := B.cell 0
      have e1 := B.cell 1
      simp only [List.getElem?_toArray, List.getElem?_cons_succ, List.getElem?_cons_zero] at e0 e1
      have hsr := HS.out
      go_wp2_with fail
      refine HH.out.mono ?_
      rintro e w1 ⟨rfl, F1⟩
      go_wp2_with fail
      go_ret
      exact ⟨by rw [HG.out]; rfl, HF0.out.trans F1⟩
    | none =>
      have HH := Lib.hid (host_none hh _ (by omega) HE.out)
      rw [hh] at HG
      clear hh
      have hxl := hexS_len b
      have hxs : (ByteArray.mk (hexS b).toArray).size = (hexS b).length := str_size _
      have HX := Lib.hid (fun w1 (h : Bytes w1 (.slice ab b.length cb) b) => hex_any _ b w1 h (by omega))
      generalize hexS b = hb at *
      go_enter Tryz.func92, Tryz.ntmps92
      go_upto_region 1 with fail
      rw [← HZ.out]
      generalize (w.alloc (.cells #[.int .i64 2, .slice ab b.length cb, .slice an n.length cn] 42)) = w0 at *
      have HBL := Lib.hid B
      have e0 := B.cell 0
      have e1 := B.cell 1
      simp only [List.getElem?_toArray, List.getElem?_cons_succ, List.getElem?_cons_zero] at e0 e1
      have hsr := HS.out
      clear B
      go_wp2_with fail
      refine HH.out.mono ?_
      rintro e w1 ⟨rfl, F1⟩
      have HX1 := Lib.hid (HX.out w1 (HB.out.old F1))
      have HF1 := Lib.hid (HF0.out.trans F1)
      have B1 := HBL.out.fr F1 (fun h => h)
      clear F1 HH HS hsr e0 e1 HX HBL
      have e0 := B1.cell 0
      have e1 := B1.cell 1
      simp only [List.getElem?_toArray, List.getElem?_cons_succ, List.getElem?_cons_zero] at e0 e1
      go_wp2_with fail
      refine HX1.out.mono ?_
      rintro e w2 ⟨rfl, F2⟩
      go_wp2_with fail
      go_ret
      refine ⟨?_, HF1.out.trans F2⟩
      rw [HG.out]
      refine congrArg (fun x : ByteArray => Ending.returned (.string x)) ?_
      exact ba_cat [35] hb
  · rw [if_neg (by decide), if_neg (by decide), if_pos rfl] at HG
    have HS := Lib.hid (str_of HB.out)
    go_enter Tryz.func92, Tryz.ntmps92
    go_upto_region 1 with fail
    rw [← HZ.out]
    generalize (w.alloc (.cells #[.int .i64 1, .slice ab b.length cb, .slice an n.length cn] 42)) = w0 at *
    have e0 := B.cell 0
    have e1 := B.cell 1
    simp only [List.getElem?_toArray, List.getElem?_cons_succ, List.getElem?_cons_zero] at e0 e1
    have hsr := HS.out
    go_wp2_with fail
    refine (mail_any b w0 (by omega)).mono ?_
    rintro e w1 ⟨rfl, F1⟩
    go_wp2_with fail
    go_ret
    exact ⟨by rw [HG.out]; rfl, HF0.out.trans F1⟩
  · rw [if_neg (by simpa using k4), if_neg (by simpa using k2), if_neg (by simpa using k1)] at HG
    go_enter Tryz.func92, Tryz.ntmps92
    go_upto_region 1 with fail
    rw [← HZ.out]
    generalize (w.alloc (.cells #[.int .i64 k, .slice ab b.length cb, .slice an n.length cn] 42)) = w0 at *
    have e0 := B.cell 0
    have e1 := B.cell 1
    simp only [List.getElem?_toArray, List.getElem?_cons_succ, List.getElem?_cons_zero] at e0 e1
    go_wp2_with fail
    refine (hex_any _ b w0 HB.out (by omega)).mono ?_
    rintro e w1 ⟨rfl, F1⟩
    go_wp2_with fail
    go_ret
    exact ⟨by rw [HG.out]; rfl, HF0.out.trans F1⟩
def gkOut (g : Gen) : List UInt8 := if genOk g then genKeyS g else []
def gkErr (g : Gen) : Int := if genOk g then 0 else 1
set_option maxRecDepth 20000 in
set_option maxHeartbeats 4000000 in
theorem genKey_any (u : Value) (g : Gen) (w : World) (h : GenAt w u g) (hf : fewG g) (hE : Env w) :
    Calls Tryz.prog 42 #[u] w fun e w' => e = .returned (.tuple #[str (gkOut g), .int .i64 (gkErr g)]) ∧ Fr (fun _ => False) w w' := by
  obtain ⟨ab, cb, an, cn, rfl, hb, hn⟩ := h.form
  have F0 : Fr (fun _ => False) w (w.alloc (.cells #[.int .i64 g.k, .slice ab g.b.length cb, .slice an g.n.length cn] 42)) := (Fr.refl w).alloc _
  have B := Blk.new w 42 #[.int .i64 g.k, .slice ab g.b.length cb, .slice an g.n.length cn]
  obtain ⟨z, hz⟩ : ∃ z, z = w.heap.size := ⟨_, rfl⟩
  rw [← hz] at B
  have HZ := Lib.hid hz
  have HGA := Lib.hid (h.old F0)
  have HE := Lib.hid (hE.old F0)
  have HF0 := Lib.hid F0
  have HFW := Lib.hid hf
  have HR := Lib.hid (genRight_any _ g _ (h.old F0) hf)
  have HM := Lib.hid (fun (hok : g.k = 4 → nameOk g.n = true) w1 (F : Fr (fun _ => False) (w.alloc (.cells #[.int .i64 g.k, .slice ab g.b.length cb, .slice an g.n.length cn] 42)) w1) => meaning_any _ g w1 ((h.old F0).old F) hf hok ((hE.old F0).old F))
  have HP := Lib.hid (fun w1 (F : Fr (fun _ => False) (w.alloc (.cells #[.int .i64 g.k, .slice ab g.b.length cb, .slice an g.n.length cn] 42)) w1) => ((hE.old F0).old F).pows)
  have hk : genKeyS g = Lib.itoa g.k ++ meanS g := rfl
  have HK := Lib.hid hk
  have hgk : genOk g = true → 0 ≤ g.k ∧ g.k ≤ 8 := gen_kind
  have h4 : genOk g = true → g.k = 4 → nameOk g.n = true := fun h1 h2 => by
    unfold genOk at h1
    rw [if_pos h2, Bool.and_eq_true] at h1
    exact h1.2
  have H4 := Lib.hid h4
  have HKB := Lib.hid hgk
  clear h hb hn hz hE F0 hf hk h4 hgk
  have hcase : genOk g = false ∨ genOk g = true := by cases genOk g <;> simp
  rcases hcase with hok | hok
  · rw [hok] at HR
    have HO := Lib.hid (show gkOut g = [] by unfold gkOut; rw [hok]; rfl)
    have HX := Lib.hid (show gkErr g = 1 by unfold gkErr; rw [hok]; rfl)
    clear hok
    go_enter Tryz.func42, Tryz.ntmps42
    go_upto_region 1 with fail
    rw [← HZ.out]
    generalize (w.alloc (.cells #[.int .i64 g.k, .slice ab g.b.length cb, .slice an g.n.length cn] 42)) = w0 at *
    have e0 := B.cell 0
    have e1 := B.cell 1
    have e2 := B.cell 2
    simp only [List.getElem?_toArray, List.getElem?_cons_succ, List.getElem?_cons_zero] at e0 e1 e2
    go_wp2_with fail
    refine HR.out.mono ?_
    rintro e w1 ⟨rfl, F1⟩
    go_wp2_with fail
    refine bodyPost_ret (v := .tuple #[str [], .int .i64 1]) (by simp [results, Tryz.results42, go_sem]) rfl ⟨?_, HF0.out.trans F1⟩
    rw [HO.out, HX.out]
  · rw [hok] at HR
    have HO := Lib.hid (show gkOut g = genKeyS g by unfold gkOut; rw [hok]; rfl)
    have HX := Lib.hid (show gkErr g = 0 by unfold gkErr; rw [hok]; rfl)
    obtain ⟨k0, k8⟩ := HKB.out hok
    have HMM := Lib.hid (HM.out (H4.out hok))
    have hil : (Lib.itoa g.k).length ≤ 100 := by have := itoa_len k0 (by omega); omega
    have z1 : (ByteArray.mk (Lib.itoa g.k).toArray).size = (Lib.itoa g.k).length := str_size _
    have z2 : (ByteArray.mk (meanS g).toArray).size = (meanS g).length := str_size _
    have hml : (meanS g).length ≤ 1000000000000 := genMean_len HFW.out (H4.out hok)
    clear hok HM H4 HKB
    obtain ⟨it, hit⟩ : ∃ it, it = Lib.itoa g.k := ⟨_, rfl⟩
    obtain ⟨me, hme⟩ : ∃ me, me = meanS g := ⟨_, rfl⟩
    have HI := Lib.hid (fun w1 (hP : Pows w1) => itoa_any g.k (by omega) (by omega) w1 hP)
    rw [← hit] at HI hil HK z1
    rw [← hme] at HMM hml HK z2
    clear hit hme
    have z5 : ¬ 9223372036854775807 < it.length + me.length := by omega
    go_enter Tryz.func42, Tryz.ntmps42
    go_upto_region 1 with fail
    rw [← HZ.out]
    generalize (w.alloc (.cells #[.int .i64 g.k, .slice ab g.b.length cb, .slice an g.n.length cn] 42)) = w0 at *
    have HB := Lib.hid B
    have e0 := B.cell 0
    have e1 := B.cell 1
    have e2 := B.cell 2
    simp only [List.getElem?_toArray, List.getElem?_cons_succ, List.getElem?_cons_zero] at e0 e1 e2
    go_wp2_with fail
    refine HR.out.mono ?_
    rintro e w1 ⟨rfl, F1⟩
    have B1 := HB.out.fr F1 (fun h => h)
    have HB1 := Lib.hid B1
    have HFW1 := Lib.hid F1
    clear B e0 e1 e2 HR HB F1
    go_upto_region 3 with fail
    replace B1 := B1.drew
    have G1 : Fr (fun _ => False) w0 w1.drew := HFW1.out.drew
    go_region_held3 (fun w' => ∀ j, w'.cell? ⟨z, j, none⟩ = (#[.int .i64 g.k, .slice ab g.b.length cb, .slice an g.n.length cn] : Array Value)[j]?) (exact B1.cell) (first
      | (go_at_call 91; refine (HI.out _ (HP.out _ G1)).mono ?_; rintro e w' ⟨rfl, F⟩; replace B1 := B1.fr F (fun h => h); replace G1 := G1.trans F; clear F)
      | (go_at_call 92; refine (HMM.out _ G1).mono ?_; rintro e w' ⟨rfl, F⟩; replace B1 := B1.fr F (fun h => h); replace G1 := G1.trans F; clear F))
    all_goals
      have HG1 := Lib.hid (HF0.out.trans G1)
      go_wp2_with fail
      refine bodyPost_ret (v := .tuple #[str (it ++ me), .int .i64 0]) (by simp [results, Tryz.results42, go_sem, ba_cat]) rfl ⟨?_, HG1.out⟩
      rw [HO.out, HX.out, HK.out]
set_option maxRecDepth 20000 in
set_option maxHeartbeats 4000000 in
theorem genSame_any (u v : Value) (g p : Gen) (w : World) (h : GenAt w u g) (hp : GenAt w v p) (hf : fewG g) (hfp : fewG p) (hE : Env w) :
    Calls Tryz.prog 31 #[u, v] w fun e w' => e = .returned (.bool (genSameS g p)) ∧ Fr (fun _ => False) w w' := by
  obtain ⟨ab, cb, an, cn, rfl, -, -⟩ := h.form
  obtain ⟨ab2, cb2, an2, cn2, rfl, -, -⟩ := hp.form
  have HGA := Lib.hid h
  have HPA := Lib.hid hp
  have HE := Lib.hid hE
  have HW1 := Lib.hid hf
  have HW2 := Lib.hid hfp
  obtain ⟨z, hz⟩ : ∃ z, z = w.heap.size := ⟨_, rfl⟩
  have B := (Blk.new w 42 #[.int .i64 g.k, .slice ab g.b.length cb, .slice an g.n.length cn]).alloc (.cells #[.int .i64 p.k, .slice ab2 p.b.length cb2, .slice an2 p.n.length cn2] 42)
  have D := Blk.new (w.alloc (.cells #[.int .i64 g.k, .slice ab g.b.length cb, .slice an g.n.length cn] 42)) 42 #[.int .i64 p.k, .slice ab2 p.b.length cb2, .slice an2 p.n.length cn2]
  have F0 : Fr (fun _ => False) w ((w.alloc (.cells #[.int .i64 g.k, .slice ab g.b.length cb, .slice an g.n.length cn] 42)).alloc (.cells #[.int .i64 p.k, .slice ab2 p.b.length cb2, .slice an2 p.n.length cn2] 42)) := ((Fr.refl w).alloc _).alloc _
  rw [World.size_alloc, ← hz] at D
  rw [← hz] at B
  have HZ := Lib.hid hz
  have HF0 := Lib.hid F0
  have hs : genSameS g p = (genOk g && genOk p && decide (genKeyS g = genKeyS p)) := rfl
  have HS := Lib.hid hs
  clear h hp hE hf hfp hz F0 hs
  go_enter Tryz.func31, Tryz.ntmps31
  go_upto_region 1 with fail
  rw [← HZ.out]
  generalize ((w.alloc (.cells #[.int .i64 g.k, .slice ab g.b.length cb, .slice an g.n.length cn] 42)).alloc (.cells #[.int .i64 p.k, .slice ab2 p.b.length cb2, .slice an2 p.n.length cn2] 42)) = w0 at *
  have HD := Lib.hid D
  have e0 := B.cell 0
  have e1 := B.cell 1
  have e2 := B.cell 2
  simp only [List.getElem?_toArray, List.getElem?_cons_succ, List.getElem?_cons_zero] at e0 e1 e2
  have HK1 := Lib.hid (genKey_any _ g w0 (HGA.out.old HF0.out) HW1.out (HE.out.old HF0.out))
  clear D
  go_wp2_with fail
  refine HK1.out.mono ?_
  rintro e w1 ⟨rfl, F1⟩
  have D1 := HD.out.fr F1 (fun h => h)
  have HF1 := Lib.hid (HF0.out.trans F1)
  clear F1 B e0 e1 e2 HK1
  have e0 := D1.cell 0
  have e1 := D1.cell 1
  have e2 := D1.cell 2
  simp only [List.getElem?_toArray, List.getElem?_cons_succ, List.getElem?_cons_zero] at e0 e1 e2
  have HK2 := Lib.hid (genKey_any _ p w1 (HPA.out.old HF1.out) HW2.out (HE.out.old HF1.out))
  go_wp2_with fail
  refine HK2.out.mono ?_
  rintro e w2 ⟨rfl, F2⟩
  have HF2 := Lib.hid (HF1.out.trans F2)
  clear F2 D1 e0 e1 e2 HK2
  have hcase : ∀ q : Gen, (genOk q = false ∧ gkErr q = 1) ∨ (genOk q = true ∧ gkErr q = 0 ∧ gkOut q = genKeyS q) := fun q => by
    cases hq : genOk q with
    | false => exact .inl ⟨rfl, by unfold gkErr; rw [hq]; rfl⟩
    | true => exact .inr ⟨rfl, by unfold gkErr; rw [hq]; rfl, by unfold gkOut; rw [hq]; rfl⟩
  rcases hcase g with ⟨g1, g2⟩ | ⟨g1, g2, g3⟩
  · rw [g1] at HS
    rw [g2]
    go_wp2_with fail
    go_ret
    exact ⟨by rw [HS.out]; rfl, HF2.out⟩
  · rcases hcase p with ⟨p1, p2⟩ | ⟨p1, p2, p3⟩
    · rw [g1, p1] at HS
      rw [g2, p2]
      go_wp2_with fail
      go_ret
      exact ⟨by rw [HS.out]; rfl, HF2.out⟩
    · rw [g1, p1] at HS
      rw [g2, p2, g3, p3]
      have HS2 := Lib.hid (show genSameS g p = decide (genKeyS g = genKeyS p) from HS.out.trans (by simp))
      clear g2 g3 p2 p3 HS
      generalize genKeyS g = kg at *
      generalize genKeyS p = kp at *
      by_cases hkk : kg = kp
      · subst hkk
        have q1 : (kg == kg) = true := by simp
        rw [decide_eq_true rfl] at HS2
        go_wp2_with fail
        go_ret
        exact ⟨by rw [HS2.out]; rfl, HF2.out⟩
      · have q1 : (kg == kp) = false := by simpa using hkk
        rw [decide_eq_false hkk] at HS2
        go_wp2_with fail
        go_ret
        exact ⟨by rw [HS2.out]; rfl, HF2.out⟩
end Go.Proofs.YtacekpdjapgfcaaGreatDoor

namespace Go.Q
open Go
abbrev Key1 := List UInt8
theorem k_lt_of {a b : Key1} (h : a ≤ b) (hn : a ≠ b) : a < b := Std.lt_of_le_of_ne h hn
def behindB (last : Option Key1) (k : Key1) : Bool := match last with | none => true | some l => decide (l < k)
def betterB (best : Option Key1) (k : Key1) : Bool := match best with | none => true | some b => decide (k < b)
def pickStep (last best : Option Key1) (k : Key1) : Option Key1 := if (behindB last k && betterB best k) = true then some k else best
def pickS (last : Option Key1) (ks : List Key1) : Option Key1 := ks.foldl (pickStep last) none
theorem pickS_snoc (last : Option Key1) (ks : List Key1) (k : Key1) : pickS last (ks ++ [k]) = pickStep last (pickS last ks) k := by
  unfold pickS
  simp [List.foldl_append]
theorem pickS_spec (last : Option Key1) : ∀ ks : List Key1, match pickS last ks with
    | none => ∀ k ∈ ks, behindB last k = false
    | some m => m ∈ ks ∧ behindB last m = true ∧ ∀ k ∈ ks, behindB last k = true → m ≤ k := by
  intro ks
  induction hn : ks.length generalizing ks with
  | zero =>
    obtain rfl := List.length_eq_zero_iff.1 hn
    intro k hk
    cases hk
  | succ n ih =>
    have hne : ks ≠ [] := fun e => by simp [e] at hn
    obtain ⟨ts, k, rfl⟩ : ∃ ts k, ks = ts ++ [k] := ⟨ks.dropLast, ks.getLast hne, (List.dropLast_concat_getLast hne).symm⟩
    have hi := ih ts (by simpa using hn)
    rw [pickS_snoc]
    cases hp : pickS last ts with
    | none =>
      rw [hp] at hi
      simp only at hi
      unfold pickStep betterB
      cases hb : behindB last k with
      | true =>
        simp only [Bool.and_self, if_true]
        refine ⟨by simp, hb, fun x hx hxb => ?_⟩
        rcases List.mem_append.1 hx with h | h
        · rw [hi x h] at hxb; cases hxb
        · rw [List.mem_singleton.1 h]; exact Std.le_refl k
      | false =>
        simp only [Bool.false_and, Bool.false_eq_true, if_false]
        intro x hx
        rcases List.mem_append.1 hx with h | h
        · exact hi x h
        · rw [List.mem_singleton.1 h]; exact hb
    | some m =>
      rw [hp] at hi
      simp only at hi
      obtain ⟨h1, h2, h3⟩ := hi
      unfold pickStep betterB
      by_cases hc : (behindB last k && decide (k < m)) = true
      · simp only [hc, if_true]
        rw [Bool.and_eq_true, decide_eq_true_eq] at hc
        refine ⟨by simp, hc.1, fun x hx hxb => ?_⟩
        rcases List.mem_append.1 hx with h | h
        · exact Std.le_of_lt (Std.lt_of_lt_of_le hc.2 (h3 x h hxb))
        · rw [List.mem_singleton.1 h]; exact Std.le_refl k
      · simp only [if_neg hc]
        refine ⟨List.mem_append_left _ h1, h2, fun x hx hxb => ?_⟩
        rcases List.mem_append.1 hx with h | h
        · exact h3 x h hxb
        · rw [List.mem_singleton.1 h] at hxb ⊢
          rw [hxb, Bool.true_and, decide_eq_true_eq] at hc
          exact Std.not_lt.1 hc
theorem up_get {D : List Key1} (hD : D.Pairwise (· < ·)) {i j : Nat} {x y : Key1} (hx : D[i]? = some x) (hy : D[j]? = some y) (h : x < y) : i < j := by
  rcases Nat.lt_or_ge i j with hl | hl
  · exact hl
  · obtain ⟨hi, rfl⟩ := List.getElem?_eq_some_iff.1 hx
    obtain ⟨hj, rfl⟩ := List.getElem?_eq_some_iff.1 hy
    rcases Nat.lt_or_ge j i with h2 | h2
    · exact absurd (Std.lt_trans h (List.pairwise_iff_getElem.1 hD j i hj hi h2)) (Std.lt_irrefl)
    · have : i = j := by omega
      subst this
      exact absurd h (Std.lt_irrefl)
def lastOf (D : List Key1) (j : Nat) : Option Key1 := if j = 0 then none else D[j - 1]?
theorem pick_next {D ks : List Key1} (hD : D.Pairwise (· < ·)) (hm : ∀ x, x ∈ D ↔ x ∈ ks) (j : Nat) (hj : j ≤ D.length) : pickS (lastOf D j) ks = D[j]? := by
  have hbeh : ∀ i x, D[i]? = some x → (behindB (lastOf D j) x = true ↔ j ≤ i) := by
    intro i x hx
    unfold lastOf
    by_cases h0 : j = 0
    · subst h0; simp [behindB]
    · rw [if_neg h0]
      obtain ⟨y, hy⟩ : ∃ y, D[j - 1]? = some y := ⟨_, List.getElem?_eq_getElem (by omega)⟩
      rw [hy]
      simp only [behindB, decide_eq_true_eq]
      constructor
      · intro h
        have := up_get hD hy hx h
        omega
      · intro h
        obtain ⟨hi, rfl⟩ := List.getElem?_eq_some_iff.1 hx
        obtain ⟨hj1, rfl⟩ := List.getElem?_eq_some_iff.1 hy
        exact List.pairwise_iff_getElem.1 hD (j - 1) i hj1 hi (by omega)
  have hs := pickS_spec (lastOf D j) ks
  rcases Nat.lt_or_ge j D.length with hl | hl
  · obtain ⟨y, hy⟩ : ∃ y, D[j]? = some y := ⟨_, List.getElem?_eq_getElem hl⟩
    have hyk := (hm y).1 (List.mem_of_getElem? hy)
    have hyb := (hbeh j y hy).2 (Nat.le_refl _)
    cases hp : pickS (lastOf D j) ks with
    | none =>
      rw [hp] at hs
      rw [hs y hyk] at hyb
      cases hyb
    | some m =>
      rw [hp] at hs
      obtain ⟨h1, h2, h3⟩ := hs
      obtain ⟨i, hi⟩ := List.mem_iff_getElem?.1 ((hm m).2 h1)
      have hji := (hbeh i m hi).1 h2
      have hle := h3 y hyk hyb
      rcases Nat.lt_or_ge j i with h4 | h4
      · obtain ⟨hi', rfl⟩ := List.getElem?_eq_some_iff.1 hi
        obtain ⟨hj', rfl⟩ := List.getElem?_eq_some_iff.1 hy
        have := List.pairwise_iff_getElem.1 hD j i hj' hi' h4
        exact absurd (Std.lt_of_lt_of_le this hle) (Std.lt_irrefl)
      · have : i = j := by omega
        rw [← this, hi]
  · rw [List.getElem?_eq_none hl]
    cases hp : pickS (lastOf D j) ks with
    | none => rfl
    | some m =>
      rw [hp] at hs
      obtain ⟨h1, h2, -⟩ := hs
      obtain ⟨i, hi⟩ := List.mem_iff_getElem?.1 ((hm m).2 h1)
      have := (hbeh i m hi).1 h2
      have := (List.getElem?_eq_some_iff.1 hi).1
      omega
theorem sortS_up (ks : List Key1) : (sortS ks).Pairwise (· ≤ ·) := by
  have := List.pairwise_mergeSort (le := fun x y : Key1 => decide (x ≤ y)) (fun a b c h1 h2 => by
    simp only [decide_eq_true_eq] at h1 h2 ⊢
    exact Std.le_trans h1 h2) (fun a b => by
    rcases Std.le_total (a := a) (b := b) with h | h
    · simp [h]
    · simp [h]) ks
  exact this.imp (fun h => by simpa using h)
theorem get_bang {S : List Key1} {m : Nat} (h : m < S.length) : S.toArray[m]! = S[m] := by simp [getElem!_pos, h]
theorem compact_up {S : List Key1} (hS : S.Pairwise (· ≤ ·)) : ∀ m, m ≤ S.length → (Lib.compactUpTo S.toArray m).Pairwise (· < ·) ∧ ∀ x, x ∈ Lib.compactUpTo S.toArray m ↔ x ∈ S.take m
  | 0, _ => by simp [Lib.compactUpTo]
  | m + 1, hm => by
    obtain ⟨h1, h2⟩ := compact_up hS m (by omega)
    rw [Lib.compactUpTo_succ]
    have hml : m < S.length := by omega
    have ht : S.take (m + 1) = S.take m ++ [S[m]] := by rw [List.take_add_one, List.getElem?_eq_getElem hml]; rfl
    rw [ht, get_bang hml]
    by_cases hk : Lib.keeps S.toArray m = true
    · rw [if_pos hk]
      refine ⟨?_, fun x => by simp only [List.mem_append, h2]⟩
      refine List.pairwise_append.2 ⟨h1, by simp, fun x hx y hy => ?_⟩
      rw [List.mem_singleton.1 hy]
      have hx2 := (h2 x).1 hx
      obtain ⟨i, hi⟩ := List.mem_iff_getElem?.1 hx2
      rw [List.getElem?_take] at hi
      split at hi
      · rename_i him
        obtain ⟨hil, rfl⟩ := List.getElem?_eq_some_iff.1 hi
        unfold Lib.keeps at hk
        have hm0 : m ≠ 0 := by omega
        simp only [decide_eq_true_eq, hm0, false_or] at hk
        rw [get_bang hml, get_bang (show m - 1 < S.length by omega)] at hk
        have hle : S[i] ≤ S[m - 1] := by
          rcases Nat.lt_or_ge i (m - 1) with h | h
          · exact List.pairwise_iff_getElem.1 hS i (m - 1) hil (by omega) h
          · have : i = m - 1 := by omega
            subst this
            exact Std.le_refl _
        have hle2 : S[m - 1] ≤ S[m] := List.pairwise_iff_getElem.1 hS (m - 1) m (by omega) hml (by omega)
        exact Std.lt_of_le_of_lt hle (k_lt_of hle2 (fun e => hk e.symm))
      · cases hi
    · rw [if_neg hk, List.append_nil]
      refine ⟨h1, fun x => ?_⟩
      rw [h2, List.mem_append, List.mem_singleton]
      constructor
      · exact .inl
      · rintro (h | rfl)
        · exact h
        · unfold Lib.keeps at hk
          simp only [decide_eq_true_eq, not_or, Classical.not_not] at hk
          obtain ⟨hm0, he⟩ := hk
          rw [get_bang hml, get_bang (show m - 1 < S.length by omega)] at he
          rw [he]
          exact List.mem_iff_getElem?.2 ⟨m - 1, by rw [List.getElem?_take, if_pos (by omega), List.getElem?_eq_getElem (by omega)]⟩
def keysS (l : List Part) : List Key1 := Lib.compact (sortS (partKeys l))
theorem keysS_up (l : List Part) : (keysS l).Pairwise (· < ·) ∧ ∀ x, x ∈ keysS l ↔ x ∈ partKeys l := by
  obtain ⟨h1, h2⟩ := compact_up (sortS_up (partKeys l)) (sortS (partKeys l)).length (Nat.le_refl _)
  refine ⟨h1, fun x => ?_⟩
  have := h2 x
  rw [List.take_length] at this
  exact this.trans (by simp [sortS])
theorem keysS_next (l : List Part) (j : Nat) (hj : j ≤ (keysS l).length) : pickS (lastOf (keysS l) j) (partKeys l) = (keysS l)[j]? := pick_next (keysS_up l).1 (keysS_up l).2 j hj
theorem join_take (c : UInt8) {ks : List Key1} {j : Nat} {k : Key1} (h : ks[j]? = some k) : Lib.join (ks.take (j + 1)) [c] = (if j = 0 then [] else Lib.join (ks.take j) [c] ++ [c]) ++ k := by
  induction ks generalizing j with
  | nil => simp at h
  | cons x t ih =>
    cases j with
    | zero =>
      simp at h
      subst h
      simp [Lib.join]
    | succ j =>
      rw [List.getElem?_cons_succ] at h
      have e := ih h
      rw [List.take_succ_cons, List.take_succ_cons]
      cases t with
      | nil => simp at h
      | cons y s =>
        rw [List.take_succ_cons] at e ⊢
        have e1 : ∀ z, Lib.join (x :: y :: z) [c] = x ++ ([c] ++ Lib.join (y :: z) [c]) := fun z => by simp [Lib.join, List.intercalate]
        rw [e1, e, if_neg (Nat.succ_ne_zero j)]
        cases j with
        | zero => simp [Lib.join]
        | succ j =>
          rw [List.take_succ_cons, e1, if_neg (Nat.succ_ne_zero j)]
          simp
end Go.Q

namespace Go.Q
open Go
theorem behind_eq (o : Option Key1) (p : Key1) : behindB o p = (!o.isSome || decide (o.getD [] < p)) := by cases o <;> rfl
theorem better_eq (o : Option Key1) (p : Key1) : betterB o p = (!o.isSome || decide (p < o.getD [])) := by cases o <;> rfl
theorem partKeys_snoc {r : List Part} {k : Nat} {p : Part} (h : r[k]? = some p) : partKeys (r.take (k + 1)) = partKeys (r.take k) ++ [attrKeyS p.o p.b] := by
  unfold partKeys
  rw [List.take_add_one, h]
  simp
theorem keysS_len (r : List Part) : (keysS r).length ≤ r.length := by
  have hcl := Lib.compact_length_le (sortS (partKeys r))
  have hsl : (sortS (partKeys r)).length = r.length := by simp [sortS, partKeys]
  unfold keysS
  omega
theorem keysS_mem {r : List Part} {x : Key1} (h : x ∈ keysS r) : ∃ p ∈ r, x = attrKeyS p.o p.b := by
  have h3 := sort_mem (compact_mem h)
  obtain ⟨p, hp, rfl⟩ := List.mem_map.1 h3
  exact ⟨p, hp, rfl⟩
theorem lastOf_isSome {D : List Key1} {c : Nat} (hc : c ≤ D.length) : (lastOf D c).isSome = decide (c ≠ 0) := by
  unfold lastOf
  by_cases h0 : c = 0
  · rw [if_pos h0, decide_eq_false (fun h => h h0)]
    rfl
  · rw [if_neg h0, decide_eq_true h0, List.getElem?_eq_getElem (by omega)]
    rfl
theorem lastOf_succ {D : List Key1} {c : Nat} : lastOf D (c + 1) = D[c]? := by
  unfold lastOf
  rw [if_neg (Nat.succ_ne_zero c), Nat.add_sub_cancel]
theorem joinF_len (c : UInt8) (M N : Nat) {ks : List Key1} (h : ∀ k ∈ ks, k.length ≤ M) (hn : ks.length ≤ N) (j : Nat) : (Lib.join (ks.take j) [c]).length ≤ N * (M + 1) := by
  have := join_len c M (ks.take j) (fun k hk => h k (List.mem_of_mem_take hk))
  have h2 : (ks.take j).length * (M + 1) ≤ N * (M + 1) := Nat.mul_le_mul_right _ (by rw [List.length_take]; omega)
  omega
theorem less_of {x y : Key1} : Op.bytesLess x y = decide (x < y) := Go.Proofs.bytesLess_eq x y
theorem greater_of (x y : Key1) : (!(Op.bytesLess x y || x == y)) = decide (y < x) := by
  rw [less_of]
  by_cases h : y < x
  · rw [decide_eq_true h]
    have h1 : ¬ x < y := fun h2 => absurd (Std.lt_trans h h2) (Std.lt_irrefl)
    have h2 : x ≠ y := fun e => absurd (e ▸ h) (Std.lt_irrefl)
    rw [decide_eq_false h1, Bool.false_or]
    simpa using h2
  · rw [decide_eq_false h]
    rcases Classical.em (x = y) with rfl | hne
    · simp
    · have := k_lt_of (Std.not_lt.1 h) hne
      rw [decide_eq_true this]
      rfl
end Go.Q
