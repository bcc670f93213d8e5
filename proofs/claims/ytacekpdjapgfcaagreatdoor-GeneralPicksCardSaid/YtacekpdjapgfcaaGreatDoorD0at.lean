/-
  Merged by program: XGenH XGenK XKyS XKyT XR13H XGenU.
-/
import Derived.Test.YtacekpdjapgfcaaGreatDoorD0as
import Derived.Test.YtacekpdjapgfcaaGreatDoorD0ai
import Derived.Deep.Slices
import Derived.Test.YtacekpdjapgfcaaGreatDoorD0aq
import Derived.Test.YtacekpdjapgfcaaGreatDoorD0aj
import Derived.Sort.Walk0
import Derived.Test.YtacekpdjapgfcaaGreatDoorD0af
import Derived.Deep.CutBlock
import Derived.Deep.CutRange
import Derived.Deep.Cut
import Derived.Lib.SlBytesConst
namespace Go.Q
open Go Go.RowKit
def Blf (w : World) (b : Nat) (t : TypeId) (cs : Array Value) : Prop := w.heap[b]? = some (.cells cs t (cs.size, cs.size + 1))
theorem Blf.cell {w : World} {b : Nat} {t : TypeId} {cs : Array Value} (h : Blf w b t cs) (i : Nat) : w.cell? ⟨b, i, none⟩ = cs[i]? := by
  unfold Blf at h; simp [World.cell?, h]
theorem Blf.frozen {w : World} {b : Nat} {t : TypeId} {cs : Array Value} (h : Blf w b t cs) {i : Nat} (hi : i < cs.size) : w.frozen? ⟨b, i, none⟩ = false := by
  unfold Blf at h
  simp only [World.frozen?, h]
  simp
  omega
theorem Blf.set {w : World} {b : Nat} {t : TypeId} {cs : Array Value} (h : Blf w b t cs) (i : Nat) (v : Value) : Blf (w.setCell ⟨b, i, none⟩ v) b t (cs.setIfInBounds i v) := by
  unfold Blf at *; simp [World.setCell, Array.getElem?_modify, h]
theorem Blf.bytes {w : World} {b : Nat} {t : TypeId} {cs : Array Value} (h : Blf w b t cs) {l : List UInt8} {n c : Nat} (hn : n = l.length) (hc : l.length ≤ c) (hm : c ≤ maxLen) (hl : ∀ (i : Nat) (x : UInt8), l[i]? = some x → cs[i]? = some (Value.int .u8 x.toNat)) : Bytes w (.slice (some ⟨b, 0, none⟩) n c) l := by
  subst hn
  refine ⟨_, c, by rw [byteCells_len], by rw [byteCells_len]; exact hc, hm, fun _ => ⟨b, 0, rfl, fun i u hu => ?_⟩⟩
  rw [byteCells_get] at hu
  cases hli : l[i]? with
  | none => rw [hli] at hu; cases hu
  | some x =>
    rw [hli] at hu
    simp only [Option.map_some, Option.some.injEq] at hu
    subst hu
    rw [Nat.zero_add, h.cell i]
    exact hl i x hli
theorem low_take {l : List UInt8} {j : Nat} {x : UInt8} (h : l[j]? = some x) : (lowerS (l.take j) ++ l.drop j).set j (lowB x) = lowerS (l.take (j + 1)) ++ l.drop (j + 1) := by
  obtain ⟨hl, rfl⟩ := List.getElem?_eq_some_iff.1 h
  have e1 : (lowerS (l.take j)).length = j := by rw [lower_len, List.length_take]; omega
  rw [List.set_append_right _ _ (by omega), e1, Nat.sub_self, List.drop_eq_getElem_cons hl, List.set_cons_zero, List.take_add_one, List.getElem?_eq_getElem hl]
  unfold lowerS
  rw [List.map_append, List.append_assoc]
  rfl
theorem low_at {l : List UInt8} {j : Nat} {x : UInt8} (h : l[j]? = some x) : (lowerS (l.take j) ++ l.drop j)[j]? = some x := by
  obtain ⟨hl, rfl⟩ := List.getElem?_eq_some_iff.1 h
  have e1 : (lowerS (l.take j)).length = j := by rw [lower_len, List.length_take]; omega
  rw [List.getElem?_append_right (by omega), e1, Nat.sub_self, List.drop_eq_getElem_cons hl]
  rfl
theorem lowMix_len (l : List UInt8) (j : Nat) : (lowerS (l.take j) ++ l.drop j).length = l.length := by
  rw [List.length_append, lower_len, List.length_take, List.length_drop]
  omega
end Go.Q
namespace Go.Proofs.YtacekpdjapgfcaaGreatDoor
open Go Go.RowKit Go.Q
set_option linter.unusedSimpArgs false
theorem blf_of_str (w : World) (l : List UInt8) (hl : l.length ≤ 1099511627776) : ∃ c w' cs, (Go.convert 9 23 (str l)).run Tryz.prog w = .ok (.slice (some ⟨w.heap.size, 0, none⟩) l.length c) w' ∧ Blf w' w.heap.size 5 cs ∧ (∀ (i : Nat) (x : UInt8), l[i]? = some x → cs[i]? = some (Value.int .u8 x.toNat)) ∧ l.length ≤ c ∧ c ≤ maxLen ∧ Fr (fun _ => False) w w' ∧ w'.heap.size = w.heap.size + 1 := by
  have hr := Lib.run_convert_string_bytes (P := Tryz.prog) w 9 23 5 ⟨l.toArray⟩ Tryz.underlying9 Tryz.underlying23 Tryz.underlying5
  have hs : (ByteArray.mk l.toArray).size = l.length := by simp [ByteArray.size]
  rw [hs] at hr
  have hb : Blf (Lib.bytesWorld w 5 ⟨l.toArray⟩) w.heap.size 5 (Lib.bytesCells w 5 ⟨l.toArray⟩) := Lib.bytesWorld_at_new _ _ _
  refine ⟨_, _, _, hr, hb, fun i x hx => ?_, grownCap_ge _ _ _ _, grownCap_le_maxLen _ _ _ _ (by unfold maxLen; omega), ⟨rfl, rfl, rfl, by rw [Lib.bytesWorld_size]; omega, fun k hk _ => Lib.bytesWorld_at_old _ _ _ _ hk⟩, Lib.bytesWorld_size _ _ _⟩
  have hi := (List.getElem?_eq_some_iff.1 hx).1
  rw [← hb.cell i, Lib.bytesWorld_cell _ _ _ _ (by rw [hs]; exact hi)]
  simp [List.getD_eq_getElem?_getD, hx]
set_option maxRecDepth 20000 in
set_option maxHeartbeats 2000000 in
theorem lower_any (l : List UInt8) (w : World) (hl : l.length ≤ 1099511627776) :
    Calls Tryz.prog 176 #[str l] w fun e w' => e = .returned (str (lowerS l)) ∧ Fr (fun _ => False) w w' := by
  obtain ⟨c, w1, cs0, hrun, hB, hcs, hlc, hcm, F1, hs1⟩ := blf_of_str w l hl
  obtain ⟨z, hz⟩ : ∃ z, z = w.heap.size := ⟨_, rfl⟩
  rw [← hz] at hrun hB
  have HZ := Lib.hid hz
  have HB := Lib.hid hB
  have HF1 := Lib.hid F1
  have HCS := Lib.hid hcs
  have HLC := Lib.hid hlc
  have HCMX := Lib.hid hcm
  clear hB F1 hcs hz hs1 hlc hcm
  go_enter Tryz.func176, Tryz.ntmps176
  go_wp2_with fail
  go_loopg [10] l.length (fun g i wr => ∃ (j : Nat) (cs : Array Value), g = l.length - j ∧ j ≤ l.length ∧ i = .int .i64 j ∧ Blf wr z 5 cs ∧ (∀ (i : Nat) (x : UInt8), (lowerS (l.take j) ++ l.drop j)[i]? = some x → cs[i]? = some (Value.int .u8 x.toNat)) ∧ Fr (fun _ => False) w wr)
  case atStart => exact ⟨0, cs0, rfl, Nat.zero_le _, rfl, HB.out, by simpa [lowerS] using HCS.out, HF1.out⟩
  case round =>
    obtain ⟨j, cs, hg, hj, rfl, hBr, hcr, F⟩ := hrel
    have HG := Lib.hid hg
    have HBR := Lib.hid hBr
    have HCR := Lib.hid hcr
    have HF := Lib.hid F
    clear hg hBr hcr F hrun HB HCS
    by_cases hjl : j < l.length
    · obtain ⟨x, hx⟩ : ∃ x, l[j]? = some x := ⟨_, List.getElem?_eq_getElem hjl⟩
      have ec := HCR.out j x (low_at hx)
      have hjc := (Array.getElem?_eq_some_iff.1 ec).1
      have e1 : wr.cell? ⟨z, j, none⟩ = some (.int .u8 x.toNat) := (Blf.cell HBR.out j).trans ec
      have f1 := Blf.frozen HBR.out hjc
      have HX := Lib.hid hx
      have r1 : (0 : Int) ≤ (j : Int) := by omega
      have r2 : (j : Int) < (l.length : Int) := by omega
      have hsm : IntKind.u8.wrap (smallS (x.toNat : Int)) = ((lowB x).toNat : Int) := by
        rw [lowB_toNat]
        have := x.toNat_lt
        unfold smallS
        split
        · rw [if_pos (by omega)]
          simp [IntKind.wrap, IntKind.signed, IntKind.bits]
          omega
        · rw [if_neg (by omega)]
          simp [IntKind.wrap, IntKind.signed, IntKind.bits]
          omega
      have HSM := Lib.hid (small_any (x.toNat : Int) wr)
      generalize smallS (x.toNat : Int) = sm at *
      have HBN := Lib.hid (Blf.set HBR.out j (.int .u8 (lowB x).toNat))
      have HFN := Lib.hid (HF.out.trans' (Fr.setCell (S := fun k => k = z) (p := ⟨z, j, none⟩) (Fr.refl wr) (fun _ => rfl) (.int .u8 (lowB x).toNat)) (fun i hi e => by have := HZ.out; omega))
      have HCN := Lib.hid (show ∀ (i : Nat) (y : UInt8), (lowerS (l.take (j + 1)) ++ l.drop (j + 1))[i]? = some y → (cs.setIfInBounds j (Value.int .u8 (lowB x).toNat))[i]? = some (Value.int .u8 y.toNat) from fun i y hy => by
        rw [← low_take HX.out] at hy
        by_cases hij : i = j
        · subst hij
          rw [List.getElem?_set_self (by rw [lowMix_len]; exact hjl)] at hy
          simp only [Option.some.injEq] at hy
          subst hy
          rw [Array.getElem?_setIfInBounds_self_of_lt hjc]
        · rw [List.getElem?_set_ne (fun e => hij e.symm)] at hy
          rw [Array.getElem?_setIfInBounds_ne (fun e => hij e.symm)]
          exact HCR.out i y hy)
      have hx256 : x.toNat < 256 := x.toNat_lt
      clear hx ec hjc
      generalize (lowB x).toNat = m at *
      generalize x.toNat = n at *
      have HWR := Lib.hid hsm
      clear hsm
      go_wp2_with fail
      refine HSM.out.mono ?_
      rintro e w2 ⟨rfl, rfl⟩
      have hsm := HWR.out
      go_wp2_with fail
      go_roundg (l.length - (j + 1))
      case measure => rw [HG.out]; omega
      case rel => exact ⟨j + 1, _, rfl, by omega, by go_num, HBN.out, HCN.out, HFN.out⟩
    · obtain rfl : j = l.length := by omega
      have hcr := HCR.out
      rw [List.drop_length, List.append_nil, List.take_length] at hcr
      have HS := Lib.hid (str_of (Blf.bytes HBR.out (l := lowerS l) (n := l.length) (c := c) (lower_len l).symm (by rw [lower_len]; exact HLC.out) HCMX.out hcr))
      have hsr := HS.out
      clear hcr
      go_wp2_with fail
      go_ret
      exact ⟨rfl, HF.out⟩
set_option maxRecDepth 20000 in
set_option maxHeartbeats 4000000 in
theorem label_any (l : List UInt8) (w : World) (hl : l.length ≤ 1099511627776) :
    Calls Tryz.prog 175 #[str l] w fun e w' => e = .returned (.bool (labelB l)) ∧ Fr (fun _ => False) w w' := by
  have hs : (ByteArray.mk l.toArray).size = l.length := str_size l
  have hb : labelB l = (decide (1 ≤ l.length ∧ l.length ≤ 63) && (lowerS l).all labelC) := rfl
  have HB := Lib.hid hb
  clear hb
  rcases Nat.lt_or_ge l.length 1 with h1 | h1
  · have q1 : decide ((l.length : Int) < 1) = true := decide_eq_true (by omega)
    have q2 : (l.length : Int) < 1 := by omega
    go_enter Tryz.func175, Tryz.ntmps175
    go_wp2_with fail
    go_ret
    exact ⟨by rw [HB.out, decide_eq_false (by omega), Bool.false_and]; rfl, Fr.refl _⟩
  have q1 : decide ((l.length : Int) < 1) = false := decide_eq_false (by omega)
  have q2 : ¬ (l.length : Int) < 1 := by omega
  rcases Nat.lt_or_ge 63 l.length with h2 | h2
  · have q3 : decide ((63 : Int) < (l.length : Int)) = true := decide_eq_true (by omega)
    have q4 : (63 : Int) < (l.length : Int) := by omega
    go_enter Tryz.func175, Tryz.ntmps175
    go_wp2_with fail
    go_ret
    exact ⟨by rw [HB.out, decide_eq_false (by omega), Bool.false_and]; rfl, Fr.refl _⟩
  have q3 : decide ((63 : Int) < (l.length : Int)) = false := decide_eq_false (by omega)
  have q4 : ¬ (63 : Int) < (l.length : Int) := by omega
  have HL := Lib.hid (lower_any l w hl)
  rw [decide_eq_true (show 1 ≤ l.length ∧ l.length ≤ 63 from ⟨h1, h2⟩), Bool.true_and] at HB
  have hll := lower_len l
  obtain ⟨m, hm⟩ : ∃ m, m = lowerS l := ⟨_, rfl⟩
  rw [← hm] at HL HB hll
  clear hm
  go_enter Tryz.func175, Tryz.ntmps175
  go_wp2_with fail
  refine HL.out.mono ?_
  rintro e w1 ⟨rfl, F1⟩
  obtain ⟨cp, w2, hcv, hbv, FC, -⟩ := bytes_of_str w1 m (by omega)
  have HV := Lib.hid hbv
  have HF := Lib.hid (F1.trans FC)
  clear F1 FC hbv HL
  obtain ⟨p, hp⟩ : ∃ p : Option Addr, p = some ⟨w1.heap.size, 0, none⟩ := ⟨_, rfl⟩
  rw [← hp] at hcv HV
  clear hp
  go_wp2_with fail
  go_loopg [17] m.length (fun g i wr => ∃ j : Nat, g = m.length - j ∧ j ≤ m.length ∧ i = .int .i64 j ∧ (∀ c ∈ m.take j, labelC c = true) ∧ wr = w2)
  case atStart => exact ⟨0, rfl, Nat.zero_le _, rfl, by simp, rfl⟩
  case round =>
    obtain ⟨j, hg, hj, rfl, hall, rfl⟩ := hrel
    have HG := Lib.hid hg
    have HA := Lib.hid hall
    clear hg hall hcv
    by_cases hjl : j < m.length
    · obtain ⟨a0, c0, he, -, -, hx⟩ := HV.out.form
      simp only [Value.slice.injEq, true_and] at he
      obtain ⟨rfl, rfl⟩ := he
      obtain ⟨k, o, rfl, hy⟩ := hx (by omega)
      obtain ⟨c, hc1⟩ : ∃ c, m[j]? = some c := ⟨_, List.getElem?_eq_getElem hjl⟩
      have e1 := hy j c hc1
      have HC := Lib.hid hc1
      have r1 : (0 : Int) ≤ (j : Int) := by omega
      have r2 : (j : Int) < (m.length : Int) := by omega
      clear hx hy hc1
      have hcl : labelC c = decide ((97 ≤ c.toNat ∧ c.toNat ≤ 122) ∨ (48 ≤ c.toNat ∧ c.toNat ≤ 57) ∨ c.toNat = 45 ∨ c.toNat = 95) := rfl
      have HCL := Lib.hid hcl
      have HCM := Lib.hid (List.mem_of_getElem? HC.out)
      clear hcl
      generalize c.toNat = n at *
      have hcase : (97 ≤ n ∧ n ≤ 122) ∨ 122 < n ∨ (48 ≤ n ∧ n ≤ 57) ∨ n < 48 ∨ (57 < n ∧ n < 97) := by omega
      have fin : ∀ (hd : ¬ labelC c = true), m.all labelC = false := fun hd => List.all_eq_false.2 ⟨c, HCM.out, hd⟩
      have FIN := Lib.hid fin
      have nxt : ∀ (hd : labelC c = true), ∀ x ∈ m.take (j + 1), labelC x = true := fun hd x hx => by
        rw [List.take_add_one, HC.out] at hx
        rcases List.mem_append.1 hx with h | h
        · exact HA.out x h
        · simp at h
          rw [h]
          exact hd
      have NXT := Lib.hid nxt
      clear fin nxt
      rcases hcase with h | h | h | h | h
      · have d1 : (97 : Int) ≤ (n : Int) := by omega
        have d2 : (n : Int) ≤ 122 := by omega
        have HN := Lib.hid (NXT.out (by rw [HCL.out, decide_eq_true (by omega)]))
        go_wp2_with fail
        go_roundg (m.length - (j + 1))
        case measure => rw [HG.out]; omega
        case rel => exact ⟨j + 1, rfl, by omega, by go_num, HN.out, rfl⟩
      · have d1 : (97 : Int) ≤ (n : Int) := by omega
        have d2 : ¬ (n : Int) ≤ 122 := by omega
        have d3 : (48 : Int) ≤ (n : Int) := by omega
        have d4 : ¬ (n : Int) ≤ 57 := by omega
        have d5 : ((n : Int) == 45) = false := beq_eq_false_iff_ne.2 (by omega)
        have d6 : ((n : Int) == 95) = false := beq_eq_false_iff_ne.2 (by omega)
        have HN := Lib.hid (FIN.out (by rw [HCL.out, decide_eq_false (by omega)]; exact Bool.false_ne_true))
        go_wp2_with fail
        go_ret
        exact ⟨by rw [HB.out, HN.out]; rfl, HF.out⟩
      · have d1 : ¬ (97 : Int) ≤ (n : Int) := by omega
        have d3 : (48 : Int) ≤ (n : Int) := by omega
        have d4 : (n : Int) ≤ 57 := by omega
        have HN := Lib.hid (NXT.out (by rw [HCL.out, decide_eq_true (by omega)]))
        go_wp2_with fail
        go_roundg (m.length - (j + 1))
        case measure => rw [HG.out]; omega
        case rel => exact ⟨j + 1, rfl, by omega, by go_num, HN.out, rfl⟩
      · have d1 : ¬ (97 : Int) ≤ (n : Int) := by omega
        have d3 : ¬ (48 : Int) ≤ (n : Int) := by omega
        have d6 : ((n : Int) == 95) = false := beq_eq_false_iff_ne.2 (by omega)
        by_cases h45 : n = 45
        · have d5 : ((n : Int) == 45) = true := by rw [h45]; rfl
          have HN := Lib.hid (NXT.out (by rw [HCL.out, decide_eq_true (by omega)]))
          clear h45
          go_wp2_with fail
          go_roundg (m.length - (j + 1))
          case measure => rw [HG.out]; omega
          case rel => exact ⟨j + 1, rfl, by omega, by go_num, HN.out, rfl⟩
        · have d5 : ((n : Int) == 45) = false := beq_eq_false_iff_ne.2 (by omega)
          have HN := Lib.hid (FIN.out (by rw [HCL.out, decide_eq_false (by omega)]; exact Bool.false_ne_true))
          go_wp2_with fail
          go_ret
          exact ⟨by rw [HB.out, HN.out]; rfl, HF.out⟩
      · have d1 : ¬ (97 : Int) ≤ (n : Int) := by omega
        have d3 : (48 : Int) ≤ (n : Int) := by omega
        have d4 : ¬ (n : Int) ≤ 57 := by omega
        have d5 : ((n : Int) == 45) = false := beq_eq_false_iff_ne.2 (by omega)
        by_cases h95 : n = 95
        · have d6 : ((n : Int) == 95) = true := by rw [h95]; rfl
          have HN := Lib.hid (NXT.out (by rw [HCL.out, decide_eq_true (by omega)]))
          clear h95
          go_wp2_with fail
          go_roundg (m.length - (j + 1))
          case measure => rw [HG.out]; omega
          case rel => exact ⟨j + 1, rfl, by omega, by go_num, HN.out, rfl⟩
        · have d6 : ((n : Int) == 95) = false := beq_eq_false_iff_ne.2 (by omega)
          have HN := Lib.hid (FIN.out (by rw [HCL.out, decide_eq_false (by omega)]; exact Bool.false_ne_true))
          go_wp2_with fail
          go_ret
          exact ⟨by rw [HB.out, HN.out]; rfl, HF.out⟩
    · have hall := HA.out
      rw [List.take_of_length_le (by omega)] at hall
      have HN := Lib.hid (show m.all labelC = true from List.all_eq_true.2 hall)
      clear hall
      go_wp2_with fail
      go_ret
      exact ⟨by rw [HB.out, HN.out]; rfl, HF.out⟩
theorem trimDot_list (l : List UInt8) : Lib.trimSuffix l [46] = dotS l := by
  unfold Lib.trimSuffix dotS Lib.hasSuffix
  have h : ([46] : List UInt8).isSuffixOf l = true ↔ l.getLast? = some 46 := by
    rw [List.isSuffixOf_iff_suffix]
    constructor
    · rintro ⟨t, rfl⟩
      simp
    · intro h
      obtain ⟨t, rfl⟩ := List.getLast?_eq_some_iff.1 h
      exact ⟨t, rfl⟩
  by_cases hd : l.getLast? = some 46
  · rw [if_pos (h.2 hd), if_pos hd, List.dropLast_eq_take]
    rfl
  · rw [if_neg (fun e => hd (h.1 e)), if_neg hd]
theorem trimDot_any (l : List UInt8) (w : World) (hl : l.length ≤ 1099511627776) :
    Calls Tryz.prog 173 #[str l, str [46]] w fun e w' => e = .returned (str (dotS l)) ∧ w' = w := by
  refine (Go.Proofs.Tryz.strings_TrimSuffix ⟨l.toArray⟩ ⟨[46].toArray⟩ w (by rw [str_size]; omega)).mono ?_
  rintro e w' ⟨rfl, rfl⟩
  refine ⟨?_, rfl⟩
  rw [← trimDot_list]
def hostV (r : Option (List UInt8)) : Value := match r with | some h => .tuple #[str h, .int .i64 0] | none => .tuple #[str [], .int .i64 6]
set_option maxRecDepth 20000 in
set_option maxHeartbeats 2000000 in
theorem host_any (l : List UInt8) (w : World) (hl : l.length ≤ 1000000000) (hE : Env w) :
    Calls Tryz.prog 136 #[str l] w fun e w' => e = .returned (hostV (hostS l)) ∧ Fr (fun _ => False) w w' := by
  have hdl := dot_len l
  have hh : hostS l = if 253 < (dotS l).length then none else if (cutAt 46 (dotS l)).all labelB then some (lowerS (dotS l)) else none := rfl
  have HH := Lib.hid hh
  have HT := Lib.hid (trimDot_any l w (by omega))
  have hE0 := Lib.hid hE
  clear hh hE
  generalize dotS l = d at *
  have hs : (ByteArray.mk d.toArray).size = d.length := str_size d
  rcases Nat.lt_or_ge 253 d.length with h1 | h1
  · have q1 : (253 : Int) < (d.length : Int) := by omega
    rw [if_pos h1] at HH
    go_enter Tryz.func136, Tryz.ntmps136
    go_wp2_with fail
    refine HT.out.mono ?_
    rintro e w1 ⟨rfl, rfl⟩
    go_wp2_with fail
    refine bodyPost_ret (v := .tuple #[str [], .int .i64 6]) (by simp [results, Tryz.results136, go_sem]) rfl ⟨?_, Fr.refl _⟩
    rw [HH.out]
    rfl
  have q1 : ¬ (253 : Int) < (d.length : Int) := by omega
  rw [if_neg (by omega)] at HH
  have HSP := Lib.hid (strSplit_any d 46 w hE0.out (by omega))
  have hks : ∀ k ∈ cutAt 46 d, k.length ≤ d.length := by
    intro k hk
    have : ∀ (l : List UInt8), ∀ k ∈ cutAt 46 l, k.length ≤ l.length := by
      intro l
      induction l with
      | nil => intro k hk; simp [cutAt] at hk; simp [hk]
      | cons x t ih =>
        intro k hk
        unfold cutAt at hk
        split at hk
        · rcases List.mem_cons.1 hk with rfl | hk
          · simp
          · have := ih k hk
            simp only [List.length_cons]
            omega
        · split at hk
          · simp at hk; simp [hk]
          · rename_i h r hc
            rcases List.mem_cons.1 hk with rfl | hk
            · have := ih h (by rw [hc]; simp)
              simp only [List.length_cons]
              omega
            · have := ih k (by rw [hc]; simp [hk])
              simp only [List.length_cons]
              omega
    exact this d k hk
  have HKS := Lib.hid hks
  have hcl := (cutAt_len 46 d).1
  clear hks
  generalize cutAt 46 d = ks at *
  go_enter Tryz.func136, Tryz.ntmps136
  go_wp2_with fail
  refine HT.out.mono ?_
  rintro e w1 ⟨rfl, rfl⟩
  go_wp2_with fail
  refine HSP.out.mono ?_
  rintro e w2 ⟨rfl, hst, F2⟩
  have HST := Lib.hid hst
  have HF2 := Lib.hid F2
  obtain ⟨p, hp⟩ : ∃ p : Option Addr, p = some ⟨w1.heap.size, 0, none⟩ := ⟨_, rfl⟩
  rw [← hp] at HST ⊢
  clear hst F2 hp HSP
  go_wp2_with fail
  go_loopg [14] ks.length (fun g i wr => ∃ j : Nat, g = ks.length - j ∧ j ≤ ks.length ∧ i = .int .i64 j ∧ (∀ c ∈ ks.take j, labelB c = true) ∧ Fr (fun _ => False) w2 wr)
  case atStart => exact ⟨0, rfl, Nat.zero_le _, rfl, by simp, Fr.refl _⟩
  case round =>
    obtain ⟨j, hg, hj, rfl, hall, F⟩ := hrel
    have HG := Lib.hid hg
    have HA := Lib.hid hall
    have HF := Lib.hid F
    clear hg hall
    by_cases hjl : j < ks.length
    · obtain ⟨a0, c0, he, -, -, hx⟩ := Strs.form (HST.out.old F)
      simp only [Value.slice.injEq, true_and] at he
      obtain ⟨rfl, rfl⟩ := he
      obtain ⟨b, o, rfl, hy⟩ := hx (by omega)
      obtain ⟨k, hk⟩ : ∃ k, ks[j]? = some k := ⟨_, List.getElem?_eq_getElem hjl⟩
      have e1 := hy j k hk
      have HK := Lib.hid hk
      have hkl := HKS.out k (List.mem_of_getElem? hk)
      have r1 : (0 : Int) ≤ (j : Int) := by omega
      have r2 : (j : Int) < (ks.length : Int) := by omega
      have HLB := Lib.hid (label_any k wr (by omega))
      obtain ⟨bl, hbl⟩ : ∃ bl, bl = labelB k := ⟨_, rfl⟩
      rw [← hbl] at HLB
      have HBL := Lib.hid hbl
      clear hx hy hk F hbl
      go_wp2_with fail
      refine HLB.out.mono ?_
      rintro e w3 ⟨rfl, F3⟩
      have HF3 := Lib.hid (HF.out.trans F3)
      clear F3 HF HLB e1
      cases bl with
      | false =>
        have hf : ks.all labelB = false := List.all_eq_false.2 ⟨k, List.mem_of_getElem? HK.out, by rw [← HBL.out]; exact Bool.false_ne_true⟩
        rw [hf] at HH
        clear hf
        go_wp2_with fail
        refine bodyPost_ret (v := .tuple #[str [], .int .i64 6]) (by simp [results, Tryz.results136, go_sem]) rfl ⟨?_, HF2.out.trans HF3.out⟩
        rw [HH.out]
        rfl
      | true =>
        have HN := Lib.hid (show ∀ x ∈ ks.take (j + 1), labelB x = true from fun x hx => by
          rw [List.take_add_one, HK.out] at hx
          rcases List.mem_append.1 hx with h | h
          · exact HA.out x h
          · simp at h
            rw [h]
            exact HBL.out.symm)
        go_wp2_with fail
        go_roundg (ks.length - (j + 1))
        case measure => rw [HG.out]; omega
        case rel => exact ⟨j + 1, rfl, by omega, by go_num, HN.out, HF3.out⟩
    · have hall := HA.out
      rw [List.take_of_length_le (by omega)] at hall
      rw [if_pos (List.all_eq_true.2 hall)] at HH
      have HLW := Lib.hid (lower_any d wr (by omega))
      clear hall F
      go_wp2_with fail
      refine HLW.out.mono ?_
      rintro e w3 ⟨rfl, F3⟩
      have HF3 := Lib.hid ((HF2.out.trans HF.out).trans F3)
      clear F3
      go_wp2_with fail
      refine bodyPost_ret (v := .tuple #[str (lowerS d), .int .i64 0]) (by simp [results, Tryz.results136, go_sem]) rfl ⟨?_, HF3.out⟩
      rw [HH.out]
      rfl
theorem host_some {l h : List UInt8} (hh : hostS l = some h) (w : World) (hl : l.length ≤ 1000000000) (hE : Env w) :
    Calls Tryz.prog 136 #[str l] w fun e w' => e = .returned (.tuple #[str h, .int .i64 0]) ∧ Fr (fun _ => False) w w' :=
  (host_any l w hl hE).mono (by rintro e w' ⟨rfl, F⟩; rw [hh]; exact ⟨rfl, F⟩)
theorem host_none {l : List UInt8} (hh : hostS l = none) (w : World) (hl : l.length ≤ 1000000000) (hE : Env w) :
    Calls Tryz.prog 136 #[str l] w fun e w' => e = .returned (.tuple #[str [], .int .i64 6]) ∧ Fr (fun _ => False) w w' :=
  (host_any l w hl hE).mono (by rintro e w' ⟨rfl, F⟩; rw [hh]; exact ⟨rfl, F⟩)
theorem lastIdx_list (c : UInt8) (l : List UInt8) : ∀ k, k ≤ l.length → Lib.lastIdx ⟨l.toArray⟩ (c.toNat : Int) k = lastTo c l k
  | 0, _ => rfl
  | k + 1, h => by
    unfold Lib.lastIdx lastTo
    rw [lastIdx_list c l k (by omega)]
    have hk : l[k]? = some l[k] := List.getElem?_eq_getElem (by omega)
    have e : (ByteArray.mk l.toArray).data[k]! = l[k] := by
      show l.toArray[k]! = l[k]
      rw [getElem!_pos l.toArray k (by simp; omega)]
      simp
    rw [e, hk]
    by_cases hc : l[k] = c
    · rw [if_pos (by rw [hc]), if_pos (by rw [hc])]
    · rw [if_neg (fun h => hc (UInt8.toNat_inj.1 (by omega))), if_neg (fun h => hc (by simpa using h))]
theorem lastByte_any (l : List UInt8) (c : UInt8) (w : World) (hl : l.length ≤ 1099511627776) :
    Calls Tryz.prog 178 #[str l, .int .u8 c.toNat] w fun e w' => e = .returned (.int .i64 (lastS c l)) ∧ w' = w := by
  refine (Go.Proofs.Tryz.strings_LastIndexByte ⟨l.toArray⟩ (c.toNat : Int) (by rw [str_size]; omega) w).mono ?_
  rintro e w' ⟨rfl, rfl⟩
  refine ⟨?_, rfl⟩
  unfold Lib.lastIndexByte
  rw [str_size, lastIdx_list c l _ (Nat.le_refl _)]
  rfl
set_option maxRecDepth 20000 in
set_option maxHeartbeats 1000000 in
theorem mail_any (l : List UInt8) (w : World) (hl : l.length ≤ 1000000000) :
    Calls Tryz.prog 138 #[str l] w fun e w' => e = .returned (str (mailS l)) ∧ Fr (fun _ => False) w w' := by
  have HI := Lib.hid (lastByte_any l 64 w (by omega))
  have hm : mailS l = if lastS 64 l < 0 then l else l.take (lastS 64 l).toNat ++ lowerS (l.drop (lastS 64 l).toNat) := rfl
  obtain ⟨h1, -, h3⟩ := lastTo_lt 64 l l.length
  rw [show lastTo 64 l l.length = lastS 64 l from rfl] at h1 h3
  have HM := Lib.hid hm
  clear hm
  generalize lastS 64 l = x at *
  by_cases hx : x < 0
  · rw [if_pos hx] at HM
    go_enter Tryz.func138, Tryz.ntmps138
    go_wp2_with fail
    refine HI.out.mono ?_
    rintro e w1 ⟨rfl, rfl⟩
    go_wp2_with fail
    go_ret
    exact ⟨by rw [HM.out]; rfl, Fr.refl _⟩
  · obtain ⟨n, rfl⟩ : ∃ n : Nat, x = n := ⟨x.toNat, by omega⟩
    rw [if_neg hx, Int.toNat_natCast] at HM
    have hn : n ≤ l.length := by omega
    have s1 := fun w => str_to l n hn w
    have s2 := fun w => str_from l n hn w
    have HL := Lib.hid (fun w => lower_any (l.drop n) w (by rw [List.length_drop]; omega))
    have z1 : (ByteArray.mk (l.take n).toArray).size = (l.take n).length := str_size _
    have z2 : (ByteArray.mk (lowerS (l.drop n)).toArray).size = (lowerS (l.drop n)).length := str_size _
    have z3 : (lowerS (l.drop n)).length ≤ 1000000000 := by rw [lower_len, List.length_drop]; omega
    have z4 : (l.take n).length ≤ 1000000000 := by rw [List.length_take]; omega
    have z5 : ¬ 9223372036854775807 < (l.take n).length + (lowerS (l.drop n)).length := by omega
    generalize lowerS (l.drop n) = lo at *
    generalize l.take n = fr at *
    generalize l.drop n = dr at *
    go_enter Tryz.func138, Tryz.ntmps138
    go_wp2_with fail
    refine HI.out.mono ?_
    rintro e w1 ⟨rfl, rfl⟩
    go_upto_region 4 with fail
    go_region_held3 (fun w' => True) (trivial) (first
      | (go_at_call 176; refine (HL.out _).mono ?_; rintro e w2 ⟨rfl, F2⟩))
    all_goals
      have HF2 := Lib.hid ((Fr.refl (S := fun _ => False) w1).drew.trans F2)
      go_wp2_with fail
      go_ret
      exact ⟨by rw [HM.out]; exact congrArg (fun x : ByteArray => Ending.returned (Value.string x)) (ba_cat fr lo), HF2.out⟩
end Go.Proofs.YtacekpdjapgfcaaGreatDoor

namespace Go.Q
open Go Go.RowKit
theorem host_len {l h : List UInt8} (hh : hostS l = some h) : h.length ≤ l.length := by
  unfold hostS at hh
  split at hh
  · cases hh
  split at hh
  · simp only [Option.some.injEq] at hh
    subst hh
    rw [lower_len]
    exact dot_len l
  · cases hh
theorem mail_len (l : List UInt8) : (mailS l).length ≤ l.length := by
  unfold mailS
  split
  · omega
  · rw [List.length_append, lower_len, List.length_take, List.length_drop]
    omega
theorem genMean_len {g : Gen} (hf : fewG g) (hok : g.k = 4 → nameOk g.n = true) : (meanS g).length ≤ 1000000000000 := by
  obtain ⟨f1, f2⟩ := hf
  unfold meanS
  split
  · rename_i h4
    obtain ⟨h1, h2⟩ := name_rdns (hok h4)
    have hkl : ∀ k ∈ g.n.map rdnKeyS, k.length ≤ 2560017616 := fun k hk => by
      obtain ⟨r, hr, rfl⟩ := List.mem_map.1 hk
      exact rdnKey_len (f2 r hr) (h2 r hr)
    have h3 := join_len 47 2560017616 _ hkl
    rw [List.length_map] at h3
    have h4 : nameKeyS g.n = Lib.join (g.n.map rdnKeyS) [47] := rfl
    rw [h4]
    have := Nat.mul_le_mul_right (2560017616 + 1) h1
    omega
  split
  · split
    · rename_i h hh
      have := host_len hh
      omega
    · have := hexS_len g.b
      simp only [List.length_cons]
      omega
  split
  · have := mail_len g.b
    omega
  · have := hexS_len g.b
    omega
end Go.Q
namespace Go.Proofs.YtacekpdjapgfcaaGreatDoor
open Go Go.RowKit Go.Q
set_option linter.unusedSimpArgs false
set_option maxRecDepth 20000 in
set_option maxHeartbeats 4000000 in
theorem meaning_any (u : Value) (g : Gen) (w : World) (h : GenAt w u g) (hf : fewG g) (hok : g.k = 4 → nameOk g.n = true) (hE : Env w) :
    Calls Tryz.prog 92 #[u] w fun e w' => e = .returned (str (meanS g)) ∧ Fr (fun _ => False) w w' := by
  obtain ⟨ab, cb, an, cn, rfl, hb, hn⟩ := h.form
  obtain ⟨k, b, n⟩ := g
  obtain ⟨f1, f2⟩ := hf
  simp only at hb hn f1 f2 hok ⊢
  have F0 : Fr (fun _ => False) w (w.alloc (.cells #[.int .i64 k, .slice ab b.length cb, .slice an n.length cn] 42)) := (Fr.refl w).alloc _
  have B := Blk.new w 42 #[.int .i64 k, .slice ab b.length cb, .slice an n.length cn]
  obtain ⟨z, hz⟩ : ∃ z, z = w.heap.size := ⟨_, rfl⟩
  rw [← hz] at B
  have HZ := Lib.hid hz
  have HB := Lib.hid (hb.old F0)
  have HN := Lib.hid (hn.old F0)
  have HE := Lib.hid (hE.old F0)
  have HF0 := Lib.hid F0
  have HF2 := Lib.hid f2
  have HOK := Lib.hid hok
  have hg : meanS ⟨k, b, n⟩ = if k = 4 then nameKeyS n else if k = 2 then (match hostS b with | some h => h | none => 35 :: hexS b) else if k = 1 then mailS b else hexS b := rfl
  have HG := Lib.hid hg
  clear h hb hn hz hE F0 f2 hg hok
  have hk : k = 4 ∨ k = 2 ∨ k = 1 ∨ ((k == 4) = false ∧ (k == 2) = false ∧ (k == 1) = false) := by
    simp only [beq_eq_false_iff_ne]
    omega
  rcases hk with rfl | rfl | rfl | ⟨k4, k2, k1⟩
  · rw [if_pos rfl] at HG
    go_enter Tryz.func92, Tryz.ntmps92
    go_upto_region 1 with fail
    rw [← HZ.out]
    generalize (w.alloc (.cells #[.int .i64 4, .slice ab b.length cb, .slice an n.length cn] 42)) = w0 at *
    have e0 := B.cell 0
    have e2 := B.cell 2
    simp only [List.getElem?_toArray, List.getElem?_cons_succ, List.getElem?_cons_zero] at e0 e2
    go_wp2_with fail
    refine (nameKey_any _ n w0 HN.out HF2.out (HOK.out (by first | rfl | trivial)) HE.out).mono ?_
    rintro e w1 ⟨rfl, F1⟩
    go_wp2_with fail
    go_ret
    exact ⟨by rw [HG.out]; rfl, HF0.out.trans F1⟩
  · rw [if_neg (by decide), if_pos rfl] at HG
    have HS := Lib.hid (str_of HB.out)
    cases hh : hostS b with
    | some ho =>
      have HH := Lib.hid (host_some hh _ (by omega) HE.out)
      rw [hh] at HG
      clear hh
      go_enter Tryz.func92, Tryz.ntmps92
      go_upto_region 1 with fail
      rw [← HZ.out]
      generalize (w.alloc (.cells #[.int .i64 2, .slice ab b.length cb, .slice an n.length cn] 42)) = w0 at *
      have e0 := B.cell 0
      have e1 := B.cell 1
      simp only [List.getElem?_toArray, List.getElem?_cons_succ, List.getElem?_cons_zero] at e0 e1
      have hsr := HS.out
      go_wp2_with fail
      refine HH.out.mono ?_
      rintro e w1 ⟨rfl, F1⟩
      go_wp2_with fail
      go_ret
      exact ⟨by rw [HG.out]; rfl, HF0.out.trans F1⟩
    | none =>
      have HH := Lib.hid (host_none hh _ (by omega) HE.out)
      rw [hh] at HG
      clear hh
      have hxl := hexS_len b
      have hxs : (ByteArray.mk (hexS b).toArray).size = (hexS b).length := str_size _
      have HX := Lib.hid (fun w1 (h : Bytes w1 (.slice ab b.length cb) b) => hex_any _ b w1 h (by omega))
      generalize hexS b = hb at *
      go_enter Tryz.func92, Tryz.ntmps92
      go_upto_region 1 with fail
      rw [← HZ.out]
      generalize (w.alloc (.cells #[.int .i64 2, .slice ab b.length cb, .slice an n.length cn] 42)) = w0 at *
      have HBL := Lib.hid B
      have e0 := B.cell 0
      have e1 := B.cell 1
      simp only [List.getElem?_toArray, List.getElem?_cons_succ, List.getElem?_cons_zero] at e0 e1
      have hsr := HS.out
      clear B
      go_wp2_with fail
      refine HH.out.mono ?_
      rintro e w1 ⟨rfl, F1⟩
      have HX1 := Lib.hid (HX.out w1 (HB.out.old F1))
      have HF1 := Lib.hid (HF0.out.trans F1)
      have B1 := HBL.out.fr F1 (fun h => h)
      clear F1 HH HS hsr e0 e1 HX HBL
      have e0 := B1.cell 0
      have e1 := B1.cell 1
      simp only [List.getElem?_toArray, List.getElem?_cons_succ, List.getElem?_cons_zero] at e0 e1
      go_wp2_with fail
      refine HX1.out.mono ?_
      rintro e w2 ⟨rfl, F2⟩
      go_wp2_with fail
      go_ret
      refine ⟨?_, HF1.out.trans F2⟩
      rw [HG.out]
      refine congrArg (fun x : ByteArray => Ending.returned (.string x)) ?_
      exact ba_cat [35] hb
  · rw [if_neg (by decide), if_neg (by decide), if_pos rfl] at HG
    have HS := Lib.hid (str_of HB.out)
    go_enter Tryz.func92, Tryz.ntmps92
    go_upto_region 1 with fail
    rw [← HZ.out]
    generalize (w.alloc (.cells #[.int .i64 1, .slice ab b.length cb, .slice an n.length cn] 42)) = w0 at *
    have e0 := B.cell 0
    have e1 := B.cell 1
    simp only [List.getElem?_toArray, List.getElem?_cons_succ, List.getElem?_cons_zero] at e0 e1
    have hsr := HS.out
    go_wp2_with fail
    refine (mail_any b w0 (by omega)).mono ?_
    rintro e w1 ⟨rfl, F1⟩
    go_wp2_with fail
    go_ret
    exact ⟨by rw [HG.out]; rfl, HF0.out.trans F1⟩
  · rw [if_neg (by simpa using k4), if_neg (by simpa using k2), if_neg (by simpa using k1)] at HG
    go_enter Tryz.func92, Tryz.ntmps92
    go_upto_region 1 with fail
    rw [← HZ.out]
    generalize (w.alloc (.cells #[.int .i64 k, .slice ab b.length cb, .slice an n.length cn] 42)) = w0 at *
    have e0 := B.cell 0
    have e1 := B.cell 1
    simp only [List.getElem?_toArray, List.getElem?_cons_succ, List.getElem?_cons_zero] at e0 e1
    go_wp2_with fail
    refine (hex_any _ b w0 HB.out (by omega)).mono ?_
    rintro e w1 ⟨rfl, F1⟩
    go_wp2_with fail
    go_ret
    exact ⟨by rw [HG.out]; rfl, HF0.out.trans F1⟩
def gkOut (g : Gen) : List UInt8 := if genOk g then genKeyS g else []
def gkErr (g : Gen) : Int := if genOk g then 0 else 1
set_option maxRecDepth 20000 in
set_option maxHeartbeats 4000000 in
theorem genKey_any (u : Value) (g : Gen) (w : World) (h : GenAt w u g) (hf : fewG g) (hE : Env w) :
    Calls Tryz.prog 42 #[u] w fun e w' => e = .returned (.tuple #[str (gkOut g), .int .i64 (gkErr g)]) ∧ Fr (fun _ => False) w w' := by
  obtain ⟨ab, cb, an, cn, rfl, hb, hn⟩ := h.form
  have F0 : Fr (fun _ => False) w (w.alloc (.cells #[.int .i64 g.k, .slice ab g.b.length cb, .slice an g.n.length cn] 42)) := (Fr.refl w).alloc _
  have B := Blk.new w 42 #[.int .i64 g.k, .slice ab g.b.length cb, .slice an g.n.length cn]
  obtain ⟨z, hz⟩ : ∃ z, z = w.heap.size := ⟨_, rfl⟩
  rw [← hz] at B
  have HZ := Lib.hid hz
  have HGA := Lib.hid (h.old F0)
  have HE := Lib.hid (hE.old F0)
  have HF0 := Lib.hid F0
  have HFW := Lib.hid hf
  have HR := Lib.hid (genRight_any _ g _ (h.old F0) hf)
  have HM := Lib.hid (fun (hok : g.k = 4 → nameOk g.n = true) w1 (F : Fr (fun _ => False) (w.alloc (.cells #[.int .i64 g.k, .slice ab g.b.length cb, .slice an g.n.length cn] 42)) w1) => meaning_any _ g w1 ((h.old F0).old F) hf hok ((hE.old F0).old F))
  have HP := Lib.hid (fun w1 (F : Fr (fun _ => False) (w.alloc (.cells #[.int .i64 g.k, .slice ab g.b.length cb, .slice an g.n.length cn] 42)) w1) => ((hE.old F0).old F).pows)
  have hk : genKeyS g = Lib.itoa g.k ++ meanS g := rfl
  have HK := Lib.hid hk
  have hgk : genOk g = true → 0 ≤ g.k ∧ g.k ≤ 8 := gen_kind
  have h4 : genOk g = true → g.k = 4 → nameOk g.n = true := fun h1 h2 => by
    unfold genOk at h1
    rw [if_pos h2, Bool.and_eq_true] at h1
    exact h1.2
  have H4 := Lib.hid h4
  have HKB := Lib.hid hgk
  clear h hb hn hz hE F0 hf hk h4 hgk
  have hcase : genOk g = false ∨ genOk g = true := by cases genOk g <;> simp
  rcases hcase with hok | hok
  · rw [hok] at HR
    have HO := Lib.hid (show gkOut g = [] by unfold gkOut; rw [hok]; rfl)
    have HX := Lib.hid (show gkErr g = 1 by unfold gkErr; rw [hok]; rfl)
    clear hok
    go_enter Tryz.func42, Tryz.ntmps42
    go_upto_region 1 with fail
    rw [← HZ.out]
    generalize (w.alloc (.cells #[.int .i64 g.k, .slice ab g.b.length cb, .slice an g.n.length cn] 42)) = w0 at *
    have e0 := B.cell 0
    have e1 := B.cell 1
    have e2 := B.cell 2
    simp only [List.getElem?_toArray, List.getElem?_cons_succ, List.getElem?_cons_zero] at e0 e1 e2
    go_wp2_with fail
    refine HR.out.mono ?_
    rintro e w1 ⟨rfl, F1⟩
    go_wp2_with fail
    refine bodyPost_ret (v := .tuple #[str [], .int .i64 1]) (by simp [results, Tryz.results42, go_sem]) rfl ⟨?_, HF0.out.trans F1⟩
    rw [HO.out, HX.out]
  · rw [hok] at HR
    have HO := Lib.hid (show gkOut g = genKeyS g by unfold gkOut; rw [hok]; rfl)
    have HX := Lib.hid (show gkErr g = 0 by unfold gkErr; rw [hok]; rfl)
    obtain ⟨k0, k8⟩ := HKB.out hok
    have HMM := Lib.hid (HM.out (H4.out hok))
    have hil : (Lib.itoa g.k).length ≤ 100 := by have := itoa_len k0 (by omega); omega
    have z1 : (ByteArray.mk (Lib.itoa g.k).toArray).size = (Lib.itoa g.k).length := str_size _
    have z2 : (ByteArray.mk (meanS g).toArray).size = (meanS g).length := str_size _
    have hml : (meanS g).length ≤ 1000000000000 := genMean_len HFW.out (H4.out hok)
    clear hok HM H4 HKB
    obtain ⟨it, hit⟩ : ∃ it, it = Lib.itoa g.k := ⟨_, rfl⟩
    obtain ⟨me, hme⟩ : ∃ me, me = meanS g := ⟨_, rfl⟩
    have HI := Lib.hid (fun w1 (hP : Pows w1) => itoa_any g.k (by omega) (by omega) w1 hP)
    rw [← hit] at HI hil HK z1
    rw [← hme] at HMM hml HK z2
    clear hit hme
    have z5 : ¬ 9223372036854775807 < it.length + me.length := by omega
    go_enter Tryz.func42, Tryz.ntmps42
    go_upto_region 1 with fail
    rw [← HZ.out]
    generalize (w.alloc (.cells #[.int .i64 g.k, .slice ab g.b.length cb, .slice an g.n.length cn] 42)) = w0 at *
    have HB := Lib.hid B
    have e0 := B.cell 0
    have e1 := B.cell 1
    have e2 := B.cell 2
    simp only [List.getElem?_toArray, List.getElem?_cons_succ, List.getElem?_cons_zero] at e0 e1 e2
    go_wp2_with fail
    refine HR.out.mono ?_
    rintro e w1 ⟨rfl, F1⟩
    have B1 := HB.out.fr F1 (fun h => h)
    have HB1 := Lib.hid B1
    have HFW1 := Lib.hid F1
    clear B e0 e1 e2 HR HB F1
    go_upto_region 3 with fail
    replace B1 := B1.drew
    have G1 : Fr (fun _ => False) w0 w1.drew := HFW1.out.drew
    go_region_held3 (fun w' => ∀ j, w'.cell? ⟨z, j, none⟩ = (#[.int .i64 g.k, .slice ab g.b.length cb, .slice an g.n.length cn] : Array Value)[j]?) (exact B1.cell) (first
      | (go_at_call 91; refine (HI.out _ (HP.out _ G1)).mono ?_; rintro e w' ⟨rfl, F⟩; replace B1 := B1.fr F (fun h => h); replace G1 := G1.trans F; clear F)
      | (go_at_call 92; refine (HMM.out _ G1).mono ?_; rintro e w' ⟨rfl, F⟩; replace B1 := B1.fr F (fun h => h); replace G1 := G1.trans F; clear F))
    all_goals
      have HG1 := Lib.hid (HF0.out.trans G1)
      go_wp2_with fail
      refine bodyPost_ret (v := .tuple #[str (it ++ me), .int .i64 0]) (by simp [results, Tryz.results42, go_sem, ba_cat]) rfl ⟨?_, HG1.out⟩
      rw [HO.out, HX.out, HK.out]
set_option maxRecDepth 20000 in
set_option maxHeartbeats 4000000 in
theorem genSame_any (u v : Value) (g p : Gen) (w : World) (h : GenAt w u g) (hp : GenAt w v p) (hf : fewG g) (hfp : fewG p) (hE : Env w) :
    Calls Tryz.prog 31 #[u, v] w fun e w' => e = .returned (.bool (genSameS g p)) ∧ Fr (fun _ => False) w w' := by
  obtain ⟨ab, cb, an, cn, rfl, -, -⟩ := h.form
  obtain ⟨ab2, cb2, an2, cn2, rfl, -, -⟩ := hp.form
  have HGA := Lib.hid h
  have HPA := Lib.hid hp
  have HE := Lib.hid hE
  have HW1 := Lib.hid hf
  have HW2 := Lib.hid hfp
  obtain ⟨z, hz⟩ : ∃ z, z = w.heap.size := ⟨_, rfl⟩
  have B := (Blk.new w 42 #[.int .i64 g.k, .slice ab g.b.length cb, .slice an g.n.length cn]).alloc (.cells #[.int .i64 p.k, .slice ab2 p.b.length cb2, .slice an2 p.n.length cn2] 42)
  have D := Blk.new (w.alloc (.cells #[.int .i64 g.k, .slice ab g.b.length cb, .slice an g.n.length cn] 42)) 42 #[.int .i64 p.k, .slice ab2 p.b.length cb2, .slice an2 p.n.length cn2]
  have F0 : Fr (fun _ => False) w ((w.alloc (.cells #[.int .i64 g.k, .slice ab g.b.length cb, .slice an g.n.length cn] 42)).alloc (.cells #[.int .i64 p.k, .slice ab2 p.b.length cb2, .slice an2 p.n.length cn2] 42)) := ((Fr.refl w).alloc _).alloc _
  rw [World.size_alloc, ← hz] at D
  rw [← hz] at B
  have HZ := Lib.hid hz
  have HF0 := Lib.hid F0
  have hs : genSameS g p = (genOk g && genOk p && decide (genKeyS g = genKeyS p)) := rfl
  have HS := Lib.hid hs
  clear h hp hE hf hfp hz F0 hs
  go_enter Tryz.func31, Tryz.ntmps31
  go_upto_region 1 with fail
  rw [← HZ.out]
  generalize ((w.alloc (.cells #[.int .i64 g.k, .slice ab g.b.length cb, .slice an g.n.length cn] 42)).alloc (.cells #[.int .i64 p.k, .slice ab2 p.b.length cb2, .slice an2 p.n.length cn2] 42)) = w0 at *
  have HD := Lib.hid D
  have e0 := B.cell 0
  have e1 := B.cell 1
  have e2 := B.cell 2
  simp only [List.getElem?_toArray, List.getElem?_cons_succ, List.getElem?_cons_zero] at e0 e1 e2
  have HK1 := Lib.hid (genKey_any _ g w0 (HGA.out.old HF0.out) HW1.out (HE.out.old HF0.out))
  clear D
  go_wp2_with fail
  refine HK1.out.mono ?_
  rintro e w1 ⟨rfl, F1⟩
  have D1 := HD.out.fr F1 (fun h => h)
  have HF1 := Lib.hid (HF0.out.trans F1)
  clear F1 B e0 e1 e2 HK1
  have e0 := D1.cell 0
  have e1 := D1.cell 1
  have e2 := D1.cell 2
  simp only [List.getElem?_toArray, List.getElem?_cons_succ, List.getElem?_cons_zero] at e0 e1 e2
  have HK2 := Lib.hid (genKey_any _ p w1 (HPA.out.old HF1.out) HW2.out (HE.out.old HF1.out))
  go_wp2_with fail
  refine HK2.out.mono ?_
  rintro e w2 ⟨rfl, F2⟩
  have HF2 := Lib.hid (HF1.out.trans F2)
  clear F2 D1 e0 e1 e2 HK2
  have hcase : ∀ q : Gen, (genOk q = false ∧ gkErr q = 1) ∨ (genOk q = true ∧ gkErr q = 0 ∧ gkOut q = genKeyS q) := fun q => by
    cases hq : genOk q with
    | false => exact .inl ⟨rfl, by unfold gkErr; rw [hq]; rfl⟩
    | true => exact .inr ⟨rfl, by unfold gkErr; rw [hq]; rfl, by unfold gkOut; rw [hq]; rfl⟩
  rcases hcase g with ⟨g1, g2⟩ | ⟨g1, g2, g3⟩
  · rw [g1] at HS
    rw [g2]
    go_wp2_with fail
    go_ret
    exact ⟨by rw [HS.out]; rfl, HF2.out⟩
  · rcases hcase p with ⟨p1, p2⟩ | ⟨p1, p2, p3⟩
    · rw [g1, p1] at HS
      rw [g2, p2]
      go_wp2_with fail
      go_ret
      exact ⟨by rw [HS.out]; rfl, HF2.out⟩
    · rw [g1, p1] at HS
      rw [g2, p2, g3, p3]
      have HS2 := Lib.hid (show genSameS g p = decide (genKeyS g = genKeyS p) from HS.out.trans (by simp))
      clear g2 g3 p2 p3 HS
      generalize genKeyS g = kg at *
      generalize genKeyS p = kp at *
      by_cases hkk : kg = kp
      · subst hkk
        have q1 : (kg == kg) = true := by simp
        rw [decide_eq_true rfl] at HS2
        go_wp2_with fail
        go_ret
        exact ⟨by rw [HS2.out]; rfl, HF2.out⟩
      · have q1 : (kg == kp) = false := by simpa using hkk
        rw [decide_eq_false hkk] at HS2
        go_wp2_with fail
        go_ret
        exact ⟨by rw [HS2.out]; rfl, HF2.out⟩
end Go.Proofs.YtacekpdjapgfcaaGreatDoor

namespace Go.Q
open Go
abbrev Key1 := List UInt8
def behindB (last : Option Key1) (k : Key1) : Bool := match last with | none => true | some l => decide (l < k)
def betterB (best : Option Key1) (k : Key1) : Bool := match best with | none => true | some b => decide (k < b)
def pickStep (last best : Option Key1) (k : Key1) : Option Key1 := if (behindB last k && betterB best k) = true then some k else best
def pickS (last : Option Key1) (ks : List Key1) : Option Key1 := ks.foldl (pickStep last) none
def lastOf (D : List Key1) (j : Nat) : Option Key1 := if j = 0 then none else D[j - 1]?
def keysS (l : List Part) : List Key1 := Lib.compact (sortS (partKeys l))
end Go.Q

namespace Go.Q
open Go
end Go.Q

namespace Go.Proofs.YtacekpdjapgfcaaGreatDoor
open Go Go.RowKit Go.Q
set_option linter.unusedSimpArgs false
theorem addStr {w wa : World} {base m : Nat} {v : Value} {xs : List (List UInt8)} (hown : w.ownsRow base 9 1 v m (xs.map str)) (hb : base ≤ w.heap.size) (hm : m ≤ 109951162777) (x : List UInt8) (g : Nat) (F1 : Fr (fun _ => False) w wa) (BX : Blk wa g 9 #[str x]) :
    ∃ a c w', (Builtin.append_ #[68, 68] 68 #[v, .slice (some ⟨g, 0, none⟩) 1 1]).run Tryz.prog wa = .ok (.slice a (m + 1) c) w' ∧ w'.ownsRow base 9 1 (.slice a (m + 1) c) (m + 1) ((xs ++ [x]).map str) ∧ Fr (fun k => v.ownBlock = some k) w w' := by
  rw [List.map_append]
  obtain ⟨a, c, w', h1, h2, h3, -⟩ := add_gen Tryz.underlying68 info9 rfl (by decide) (by decide) hown hb F1 g [str x] rfl BX (by simp [Value.oneCell']) hm
  exact ⟨a, c, w', h1, h2, h3⟩
def labelsOut (w' : World) (base : Nat) (r : Option (List (List UInt8))) (e : Ending) : Prop :=
  match r with
  | some ks => ∃ a c, e = .returned (.tuple #[.slice a ks.length c, .bool true]) ∧ w'.ownsRow base 9 1 (.slice a ks.length c) ks.length (ks.map str)
  | none => e = .returned (.tuple #[.slice none 0 0, .bool false])
end Go.Proofs.YtacekpdjapgfcaaGreatDoor

namespace Go.Q
open Go Go.RowKit
def urisS (l : List Gen) : List (List UInt8) := (l.filter fun g => decide (g.k = 6) && genOk g).map (·.b)
theorem uris_take {l : List Gen} {j : Nat} {x : Gen} (h : l[j]? = some x) : urisS (l.take (j + 1)) = urisS (l.take j) ++ if (decide (x.k = 6) && genOk x) = true then [x.b] else [] := by
  unfold urisS
  rw [List.take_add_one, h]
  simp only [Option.toList_some, List.filter_append, List.map_append, List.filter_cons, List.filter_nil]
  congr 1
  split <;> simp_all
theorem gens_two {w : World} {b : Nat} {t : TypeId} {g p : Gen} {v1 v2 u1 u2 : Value} (B : Blk w b t #[.int .i64 g.k, v1, v2, .int .i64 p.k, u1, u2]) (h1 : Bytes w v1 g.b) (h2 : NameAt w v2 g.n) (h3 : Bytes w u1 p.b) (h4 : NameAt w u2 p.n) : Gens w (.slice (some ⟨b, 0, none⟩) 2 2) [g, p] := by
  refine ⟨_, 2, rfl, Nat.le_refl _, by unfold maxLen; omega, fun _ => ⟨b, 0, rfl, fun i x hx => ?_⟩⟩
  match i, hx with
  | 0, hx =>
    simp only [List.getElem?_cons_zero, Option.some.injEq] at hx
    subst hx
    refine ⟨[.int .i64 g.k, v1, v2], rfl, fun j u hu => ?_, _, _, rfl, h1, h2⟩
    have hj := (List.getElem?_eq_some_iff.1 hu).1
    simp only [List.length_cons, List.length_nil] at hj
    rw [show 0 + 3 * 0 + j = j by omega, B.cell j]
    match j, hj, hu with
    | 0, _, hu => exact hu
    | 1, _, hu => exact hu
    | 2, _, hu => exact hu
  | 1, hx =>
    simp only [List.getElem?_cons_succ, List.getElem?_cons_zero, Option.some.injEq] at hx
    subst hx
    refine ⟨[.int .i64 p.k, u1, u2], rfl, fun j u hu => ?_, _, _, rfl, h3, h4⟩
    have hj := (List.getElem?_eq_some_iff.1 hu).1
    simp only [List.length_cons, List.length_nil] at hj
    rw [show 0 + 3 * 1 + j = 3 + j by omega, B.cell (3 + j)]
    match j, hj, hu with
    | 0, _, hu => exact hu
    | 1, _, hu => exact hu
    | 2, _, hu => exact hu
theorem gens_one {w : World} {b : Nat} {t : TypeId} {g : Gen} {v1 v2 : Value} (B : Blk w b t #[.int .i64 g.k, v1, v2]) (h1 : Bytes w v1 g.b) (h2 : NameAt w v2 g.n) : Gens w (.slice (some ⟨b, 0, none⟩) 1 1) [g] := by
  refine ⟨_, 1, rfl, Nat.le_refl _, by unfold maxLen; omega, fun _ => ⟨b, 0, rfl, fun i x hx => ?_⟩⟩
  match i, hx with
  | 0, hx =>
    simp only [List.getElem?_cons_zero, Option.some.injEq] at hx
    subst hx
    refine ⟨[.int .i64 g.k, v1, v2], rfl, fun j u hu => ?_, _, _, rfl, h1, h2⟩
    have hj := (List.getElem?_eq_some_iff.1 hu).1
    simp only [List.length_cons, List.length_nil] at hj
    rw [show 0 + 3 * 0 + j = j by omega, B.cell j]
    match j, hj, hu with
    | 0, _, hu => exact hu
    | 1, _, hu => exact hu
    | 2, _, hu => exact hu
end Go.Q
namespace Go.Proofs.YtacekpdjapgfcaaGreatDoor
open Go Go.RowKit Go.Q
set_option linter.unusedSimpArgs false
set_option maxRecDepth 20000 in
set_option maxHeartbeats 4000000 in
theorem uris_any (v : Value) (l : List Gen) (w : World) (h : Gens w v l) (hf : ∀ g ∈ l, fewG g) (hl : l.length ≤ 1000000) :
    Calls Tryz.prog 36 #[v] w fun e w' => (∃ a c, e = .returned (.slice a (urisS l).length c) ∧ Strs w' (.slice a (urisS l).length c) (urisS l)) ∧ Fr (fun _ => False) w w' := by
  have H := Lib.hid h
  have HFW := Lib.hid hf
  obtain ⟨a0, cap0, rfl, -⟩ := h
  clear hf
  go_enter Tryz.func36, Tryz.ntmps36
  go_wp2_with fail
  go_loopg [3, 8] l.length (fun g u i wr => ∃ (j : Nat) (a : Option Addr) (c : Nat) (ks : List (List UInt8)), g = l.length - j ∧ j ≤ l.length ∧ u = .slice a ks.length c ∧ i = .int .i64 j ∧ ks.length ≤ j ∧ Hid (ks = urisS (l.take j)) ∧ wr.ownsRow w.heap.size 9 1 (.slice a ks.length c) ks.length (ks.map str) ∧ Fr (fun _ => False) w wr)
  case atStart => exact ⟨0, none, 0, [], rfl, Nat.zero_le _, rfl, rfl, by simp, Lib.hid rfl, ⟨rfl, .inl ⟨rfl, rfl⟩⟩, Fr.refl _⟩
  case round =>
    obtain ⟨j, a, c, ks, hg, hj, rfl, rfl, hkl, HKS, ho, F⟩ := hrel
    have HG := Lib.hid hg
    have HOW := Lib.hid ho
    have HF := Lib.hid F
    clear hg ho
    by_cases hjl : j < l.length
    · obtain ⟨x, hx⟩ : ∃ x, l[j]? = some x := ⟨_, List.getElem?_eq_getElem hjl⟩
      obtain ⟨b, o, ab, cb, an, cn, rfl, -, hga, e0, e1, e2⟩ := (H.out.old F).get hx
      have r1 : (0 : Int) ≤ (j : Int) := by omega
      have r2 : (j : Int) < (l.length : Int) := by omega
      have HX := Lib.hid hx
      have hfx := HFW.out x (List.mem_of_getElem? hx)
      obtain ⟨y, hy⟩ : ∃ y, y = wr.heap.size := ⟨_, rfl⟩
      have F1 : Fr (fun _ => False) wr (wr.alloc (.cells #[.int .i64 x.k, .slice ab x.b.length cb, .slice an x.n.length cn] 42)) := (Fr.refl wr).alloc _
      have BY := Blk.new wr 42 #[.int .i64 x.k, .slice ab x.b.length cb, .slice an x.n.length cn]
      rw [← hy] at BY
      have HGA := Lib.hid (hga.old F1)
      have HF1 := Lib.hid (F.trans F1)
      have HOW1 := Lib.hid (ownsRow_fr HOW.out F1 (fun _ _ h => h))
      have HR := Lib.hid (genRight_any _ x _ (hga.old F1) hfx)
      clear hx hga F F1 HOW HF
      go_upto_region 5 with fail
      rw [← hy]
      clear hy e0 e1 e2
      generalize (wr.alloc (.cells #[.int .i64 x.k, .slice ab x.b.length cb, .slice an x.n.length cn] 42)) = w1 at *
      have HBY := Lib.hid BY
      have y0 := BY.cell 0
      have y1 := BY.cell 1
      have y2 := BY.cell 2
      simp only [List.getElem?_toArray, List.getElem?_cons_succ, List.getElem?_cons_zero] at y0 y1 y2
      have skip : (decide (x.k = 6) && genOk x) = false → Hid (ks = urisS (l.take (j + 1))) := fun h => Lib.hid (by rw [uris_take HX.out, ← HKS.out, h]; simp)
      have HSK := Lib.hid skip
      have more : (decide (x.k = 6) && genOk x) = true → Hid (ks ++ [x.b] = urisS (l.take (j + 1))) := fun h => Lib.hid (by rw [uris_take HX.out, ← HKS.out, h]; simp)
      have HMO := Lib.hid more
      clear skip more BY
      by_cases h6 : x.k = 6
      · have q1 : (x.k == 6) = true := by rw [h6]; rfl
        obtain ⟨d, hd⟩ : ∃ d, d = genOk x := ⟨_, rfl⟩
        have HD := Lib.hid (show (decide (x.k = 6) && genOk x) = d by rw [decide_eq_true h6, hd]; rfl)
        rw [← hd] at HR
        clear hd h6
        go_wp2_with fail
        refine HR.out.mono ?_
        rintro e w2 ⟨rfl, F2⟩
        have HF2 := Lib.hid (HF1.out.trans F2)
        have HOW2 := Lib.hid (ownsRow_fr HOW1.out F2 (fun _ _ h => h))
        have BY2 := HBY.out.fr F2 (fun h => h)
        clear y0 y1 y2
        have y1 := BY2.cell 1
        simp only [List.getElem?_toArray, List.getElem?_cons_succ, List.getElem?_cons_zero] at y1
        cases d with
        | false =>
          have HN := HSK.out HD.out
          clear F2 BY2 HOW1 HF1 HR y1
          go_wp2_with fail
          go_roundg (l.length - (j + 1))
          case measure => rw [HG.out]; omega
          case rel => exact ⟨j + 1, a, c, ks, rfl, by omega, rfl, by go_num, by omega, HN, HOW2.out, HF2.out⟩
        | true =>
          have HN := HMO.out HD.out
          obtain ⟨vb, vn, heq, hbx, -⟩ := HGA.out.old F2
          simp only [Value.agg.injEq, Array.mk.injEq, List.cons.injEq, and_true, true_and] at heq
          obtain ⟨rfl, rfl⟩ := heq
          have hsr := str_of hbx
          obtain ⟨a7, c7, w7, hr7, ho7, F7⟩ := addStr HOW2.out HF2.out.size (by omega) x.b w2.heap.size ((Fr.refl w2).alloc (.cells #[str x.b] 9)) (Blk.new w2 9 #[str x.b])
          have HF7 := Lib.hid (HF2.out.trans' F7 (fun i hi e => by have := ((Vals.of_own HOW2.out).2 i e).1; omega))
          have HO7 := Lib.hid ho7
          have HRUN := Lib.hid hr7
          clear F2 BY2 HOW1 HF1 HR hr7 ho7 F7 hbx
          go_wp2_with (at_builtin; refine wpList_append_run (by rfl) (.tmp 19) (.tmp 23) 68 (by rfl) _ w7 (by exact HRUN.out) ?_)
          go_roundg (l.length - (j + 1))
          case measure => rw [HG.out]; omega
          case rel => exact ⟨j + 1, a7, c7, ks ++ [x.b], rfl, by omega, by rw [List.length_append]; rfl, by go_num, by rw [List.length_append]; simp; omega, HN, by rw [List.length_append]; exact HO7.out, HF7.out⟩
      · have q1 : (x.k == 6) = false := beq_eq_false_iff_ne.2 h6
        have HN := HSK.out (by rw [decide_eq_false h6]; rfl)
        clear h6
        go_wp2_with fail
        go_roundg (l.length - (j + 1))
        case measure => rw [HG.out]; omega
        case rel => exact ⟨j + 1, a, c, ks, rfl, by omega, rfl, by go_num, by omega, HN, HOW1.out, HF1.out⟩
    · have hks := HKS.out
      rw [List.take_of_length_le (by omega)] at hks
      have HE := Lib.hid hks
      clear hks
      go_wp2_with fail
      go_ret
      rw [← HE.out]
      exact ⟨⟨a, c, rfl, (Vals.of_own HOW.out).1⟩, F⟩
theorem bytes_block {w : World} {b : Nat} {cs : Array Value} (B : Blk w b 5 cs) (l : List UInt8) (hc : cs.toList = Lib.byteCells l) (n : Nat) (hn : l.length = n) (hm : n ≤ 1000) : Bytes w (.slice (some ⟨b, 0, none⟩) n n) l := by
  subst hn
  have h := Vals.of_block B (by have := congrArg List.length hc; rw [byteCells_len, Array.length_toList] at this; unfold maxLen; omega)
  have e : cs.size = l.length := by have := congrArg List.length hc; rwa [byteCells_len, Array.length_toList] at this
  rw [e, hc] at h
  exact h
theorem bytes_marked (w : World) (cs : Array Value) (fr : Nat × Nat) (l : List UInt8) (hc : cs.toList = Lib.byteCells l) (n : Nat) (hn : l.length = n) (hm : n ≤ 1000) : Bytes (w.alloc (.cells cs 5 fr)) (.slice (some ⟨w.heap.size, 0, none⟩) n n) l := by
  subst hn
  refine ⟨some ⟨w.heap.size, 0, none⟩, l.length, by rw [byteCells_len], by rw [byteCells_len]; exact Nat.le_refl _, by unfold maxLen; omega, fun _ => ⟨_, _, rfl, fun i u hu => ?_⟩⟩
  rw [Nat.zero_add, World.cell?_alloc_mark, ← Array.getElem?_toList, hc]
  exact hu
set_option maxRecDepth 100000 in
set_option maxHeartbeats 8000000 in
theorem gnKnown_any (w : World) (hE : Env w) :
    Calls Tryz.prog 25 #[] w fun e w' => e = .returned (.bool true) ∧ Fr (fun _ => False) w w' := by
  have HE := Lib.hid hE
  obtain ⟨b0, hb0⟩ : ∃ b0, b0 = w.heap.size := ⟨_, rfl⟩
  have F0 : Fr (fun _ => False) w (w.alloc (.cells #[.int .u8 130, .int .u8 3, .int .u8 97, .int .u8 46, .int .u8 98] 5)) := (Fr.refl w).alloc _
  have V0 := bytes_block (Blk.new w 5 #[.int .u8 130, .int .u8 3, .int .u8 97, .int .u8 46, .int .u8 98]) [130, 3, 97, 46, 98] (by rfl) 5 rfl (by decide)
  have HN0 := Lib.hid (new_any _ _ _ V0 (by decide))
  have HF0 := Lib.hid F0
  clear F0 V0 hE hb0
  go_enter Tryz.func25, Tryz.ntmps25
  go_wp2_with fail
  refine HN0.out.mono ?_
  rintro e w1 ⟨rfl, C1, F1⟩
  have HR1 := genRead_any C1 (by decide)
  rw [List.drop_zero, show genReadS [130, 3, 97, 46, 98] = .ok (⟨2, [97, 46, 98], []⟩, 5) from by kernel_rfl] at HR1
  have HRI := Lib.hid HR1
  have hc0 := C1.lt
  have HF1 := Lib.hid (HF0.out.trans F1)
  have hs1 := F1.size
  have hs0 := HF0.out.size
  obtain ⟨c1, hc1⟩ : ∃ c1, c1 = (w.alloc (.cells #[.int .u8 130, .int .u8 3, .int .u8 97, .int .u8 46, .int .u8 98] 5)).heap.size := ⟨_, rfl⟩
  rw [← hc1] at HRI ⊢ hc0 hs1
  have hcw : w.heap.size ≤ c1 := by omega
  clear C1 F1 HR1 HN0 HF0 hc1
  go_wp2_with fail
  refine HRI.out.mono ?_
  rintro e w2 ⟨hout, F2⟩
  obtain ⟨ab, cb, an, cn, rfl, hk, -⟩ := hout
  simp only [List.length_cons, List.length_nil] at hk ⊢
  have HF2 := Lib.hid (HF1.out.trans' F2 (fun i hi e => by omega))
  have HK2 := Lib.hid hk
  have hs2 := F2.size
  obtain ⟨x1, hx1⟩ : ∃ x1, x1 = w2.heap.size := ⟨_, rfl⟩
  have F3 : Fr (fun _ => False) w2 (w2.alloc (.cells #[.int .i64 2, .slice ab 3 cb, .slice an 0 cn] 42)) := (Fr.refl w2).alloc _
  have B3 := Blk.new w2 42 #[.int .i64 2, .slice ab 3 cb, .slice an 0 cn]
  rw [← hx1] at B3
  have HF3 := Lib.hid (HF2.out.trans F3)
  have HK3 := Lib.hid (HK2.out.old F3)
  clear F2 hk HRI HF1 HF2 HK2 F3
  go_upto_region 2 with fail
  rw [← hx1]
  have HX1 := Lib.hid hx1
  clear hx1
  generalize (w2.alloc (.cells #[.int .i64 2, .slice ab 3 cb, .slice an 0 cn] 42)) = w3 at *
  have HB3 := Lib.hid B3
  have hs3 := HF3.out.size
  have HK3 := Lib.hid (HK3.out.step (K' := fun k => w3.heap.size ≤ k) (Fr.refl (S := fun _ => False) w3) (fun _ _ h => h.elim) (fun k hk => .inr hk))
  have F4 : Fr (fun _ => False) w3 (w3.alloc (.cells #[.int .u8 135, .int .u8 3, .int .u8 1, .int .u8 2, .int .u8 3] 5)) := (Fr.refl w3).alloc _
  have V4 := bytes_block (Blk.new w3 5 #[.int .u8 135, .int .u8 3, .int .u8 1, .int .u8 2, .int .u8 3]) [135, 3, 1, 2, 3] (by rfl) 5 rfl (by decide)
  have HN4 := Lib.hid (new_any _ _ _ V4 (by decide))
  have HF4 := Lib.hid F4
  clear V4 F4 B3
  go_wp2_with fail
  refine HN4.out.mono ?_
  rintro e w5 ⟨rfl, C5, F5⟩
  have HR5 := genRead_any C5 (by decide)
  rw [List.drop_zero, show genReadS [135, 3, 1, 2, 3] = .error 6 from by kernel_rfl] at HR5
  have HRI := Lib.hid HR5
  have F45 := HF4.out.trans F5
  have HF5 := Lib.hid (HF3.out.trans F45)
  have HG5 := Lib.hid (F45.mono (T := fun k => w3.heap.size ≤ k) (fun _ _ h => h.elim))
  have HB5 := Lib.hid (HB3.out.fr F45 (fun h => h))
  have hs5 := HF4.out.size
  obtain ⟨c5, hc5⟩ : ∃ c5, c5 = (w3.alloc (.cells #[.int .u8 135, .int .u8 3, .int .u8 1, .int .u8 2, .int .u8 3] 5)).heap.size := ⟨_, rfl⟩
  rw [← hc5] at HRI ⊢
  have hc5w : w3.heap.size ≤ c5 := by omega
  have hx1c : x1 ≠ c5 := by have := HB3.out.lt; omega
  have hx13 := HB3.out.lt
  clear C5 F5 HR5 HN4 HF4 F45 HF3 HB3 hc5
  go_wp2_with fail
  refine HRI.out.mono ?_
  rintro e w6 ⟨hout, F6⟩
  obtain ⟨rfl, -, -⟩ := hout
  have F7 : Fr (fun _ => False) w6 (w6.alloc (.cells #[.int .i64 0, .slice none 0 0, .slice none 0 0] 42)) := (Fr.refl w6).alloc _
  have HF7 := Lib.hid ((HF5.out.trans' F6 (fun i hi e => by omega)).trans F7)
  have HG7 := Lib.hid ((HG5.out.trans (F6.mono (T := fun k => w3.heap.size ≤ k) (fun k _ e => by omega))).trans (F7.mono (T := fun k => w3.heap.size ≤ k) (fun _ _ h => h.elim)))
  have HB7 := Lib.hid ((HB5.out.fr F6 hx1c).fr F7 (fun h => h))
  clear F6 F7 HF5 HG5 HB5 HRI
  go_upto_region 3 with fail
  generalize (w6.alloc (.cells #[.int .i64 0, .slice none 0 0, .slice none 0 0] 42)) = w7 at *
  have hs7 := HG7.out.size
  have F8 : Fr (fun _ => False) w7 (w7.alloc (.cells #[.int .u8 134, .int .u8 1, .int .u8 120] 5)) := (Fr.refl w7).alloc _
  have V8 := bytes_block (Blk.new w7 5 #[.int .u8 134, .int .u8 1, .int .u8 120]) [134, 1, 120] (by rfl) 3 rfl (by decide)
  have HN8 := Lib.hid (new_any _ _ _ V8 (by decide))
  have HF8 := Lib.hid F8
  have hs8 := F8.size
  clear V8 F8
  go_wp2_with fail
  refine HN8.out.mono ?_
  rintro e w9 ⟨rfl, C9, F9⟩
  have HR9 := genRead_any C9 (by decide)
  rw [List.drop_zero, show genReadS [134, 1, 120] = .ok (⟨6, [120], []⟩, 3) from by kernel_rfl] at HR9
  have HRI := Lib.hid HR9
  have F89 := HF8.out.trans F9
  have HF9 := Lib.hid (HF7.out.trans F89)
  have HG9 := Lib.hid (HG7.out.trans (F89.mono (T := fun k => w3.heap.size ≤ k) (fun _ _ h => h.elim)))
  have HB9 := Lib.hid (HB7.out.fr F89 (fun h => h))
  have hs9 := F9.size
  obtain ⟨c9, hc9⟩ : ∃ c9, c9 = (w7.alloc (.cells #[.int .u8 134, .int .u8 1, .int .u8 120] 5)).heap.size := ⟨_, rfl⟩
  rw [← hc9] at HRI ⊢
  have hc9w : w7.heap.size ≤ c9 := by omega
  have hx1d : x1 ≠ c9 := by omega
  clear C9 F9 HR9 HN8 HF8 F89 HF7 HG7 HB7 hc9
  go_wp2_with fail
  refine HRI.out.mono ?_
  rintro e w10 ⟨hout, F10⟩
  obtain ⟨ab2, cb2, an2, cn2, rfl, hk2, -⟩ := hout
  simp only [List.length_cons, List.length_nil] at hk2 ⊢
  obtain ⟨x5, hx5⟩ : ∃ x5, x5 = w10.heap.size := ⟨_, rfl⟩
  have F11 : Fr (fun _ => False) w10 (w10.alloc (.cells #[.int .i64 6, .slice ab2 1 cb2, .slice an2 0 cn2] 42)) := (Fr.refl w10).alloc _
  have B11 := Blk.new w10 42 #[.int .i64 6, .slice ab2 1 cb2, .slice an2 0 cn2]
  rw [← hx5] at B11
  have HF11 := Lib.hid ((HF9.out.trans' F10 (fun i hi e => by omega)).trans F11)
  have HG11 := Lib.hid ((HG9.out.trans (F10.mono (T := fun k => w3.heap.size ≤ k) (fun k _ e => by omega))).trans (F11.mono (T := fun k => w3.heap.size ≤ k) (fun _ _ h => h.elim)))
  have HB11 := Lib.hid ((HB9.out.fr F10 hx1d).fr F11 (fun h => h))
  have HU11 := Lib.hid (hk2.old F11).now
  clear F10 F11 HF9 HG9 HB9 HRI hk2
  go_upto_region 4 with fail
  rw [← hx5]
  clear hx5
  generalize (w10.alloc (.cells #[.int .i64 6, .slice ab2 1 cb2, .slice an2 0 cn2] 42)) = w11 at *
  have HA11 := Lib.hid (HK3.out w11 HG11.out)
  have HX5 := Lib.hid B11
  have y0 := B11.cell 0
  have y1 := B11.cell 1
  have y2 := B11.cell 2
  have z0 := HB11.out.cell 0
  have z1 := HB11.out.cell 1
  have z2 := HB11.out.cell 2
  simp only [List.getElem?_toArray, List.getElem?_cons_succ, List.getElem?_cons_zero] at y0 y1 y2 z0 z1 z2
  have F12 : Fr (fun _ => False) w11 (w11.alloc (.cells #[.int .i64 2, .slice ab 3 cb, .slice an 0 cn, .int .i64 6, .slice ab2 1 cb2, .slice an2 0 cn2] 42)) := (Fr.refl w11).alloc _
  have G12 := gens_two (g := ⟨2, [97, 46, 98], []⟩) (p := ⟨6, [120], []⟩) (Blk.new w11 42 #[.int .i64 2, .slice ab 3 cb, .slice an 0 cn, .int .i64 6, .slice ab2 1 cb2, .slice an2 0 cn2]) (HA11.out.1.old F12) (HA11.out.2.old F12) (HU11.out.1.old F12) (HU11.out.2.old F12)
  have HUR := uris_any _ _ _ G12 (fun g hg => by
    simp only [List.mem_cons, List.not_mem_nil, or_false] at hg
    rcases hg with rfl | rfl
    · exact ⟨by simp, by simp⟩
    · exact ⟨by simp, by simp⟩) (by simp)
  rw [show urisS [⟨2, [97, 46, 98], []⟩, ⟨6, [120], []⟩] = [[120]] from by kernel_rfl] at HUR
  have HUI := Lib.hid HUR
  have HF12 := Lib.hid (HF11.out.trans F12)
  have HB12 := Lib.hid (HB11.out.fr F12 (fun h => h))
  have HA12 := Lib.hid (And.intro (HA11.out.1.old F12) (HA11.out.2.old F12))
  clear F12 G12 HUR HF11 HB11 HU11 HA11 B11
  go_wp2_with fail
  refine HUI.out.mono ?_
  rintro e w13 ⟨⟨a13, c13, rfl, hst⟩, F13⟩
  simp only [List.length_cons, List.length_nil] at hst ⊢
  obtain ⟨aS, cS, heS, -, -, hxS⟩ := Strs.form hst
  simp only [Value.slice.injEq, List.length_cons, List.length_nil, true_and] at heS
  obtain ⟨rfl, rfl⟩ := heS
  obtain ⟨bS, oS, rfl, hyS⟩ := hxS (by simp)
  have s0 := hyS 0 [120] rfl
  have HF13 := Lib.hid (HF12.out.trans F13)
  have B13 := HB12.out.fr F13 (fun h => h)
  have HA13 := Lib.hid (And.intro (HA12.out.1.old F13) (HA12.out.2.old F13))
  clear F13 HF12 HB12 HA12 HUI y0 y1 y2 z0 z1 z2 hxS hyS hst
  have z0 := B13.cell 0
  have z1 := B13.cell 1
  have z2 := B13.cell 2
  simp only [List.getElem?_toArray, List.getElem?_cons_succ, List.getElem?_cons_zero] at z0 z1 z2
  have F14 : Fr (fun _ => False) w13 (w13.alloc (.cells #[.int .u8 65, .int .u8 46, .int .u8 66, .int .u8 46] 5 (4, 5))) := (Fr.refl w13).alloc _
  have V14 := bytes_marked w13 #[.int .u8 65, .int .u8 46, .int .u8 66, .int .u8 46] (4, 5) [65, 46, 66, 46] (by rfl) 4 rfl (by decide)
  have hcv : (Go.convert 23 23 (.slice (some ⟨w13.heap.size, 0, none⟩) 4 4)).run Tryz.prog (w13.alloc (.cells #[.int .u8 65, .int .u8 46, .int .u8 66, .int .u8 46] 5)) = .ok (.slice (some ⟨w13.heap.size, 0, none⟩) 4 4) (w13.alloc (.cells #[.int .u8 65, .int .u8 46, .int .u8 66, .int .u8 46] 5 (4, 5))) := Lib.run_convert_bytes_const (P := Tryz.prog) w13 23 5 #[.int .u8 65, .int .u8 46, .int .u8 66, .int .u8 46] 4 4 Tryz.underlying23 Tryz.underlying5
  have HSM := genSame_any (.agg #[.int .i64 2, .slice ab 3 cb, .slice an 0 cn]) (.agg #[.int .i64 2, .slice (some ⟨w13.heap.size, 0, none⟩) 4 4, .slice none 0 0]) ⟨2, [97, 46, 98], []⟩ ⟨2, [65, 46, 66, 46], []⟩ (w13.alloc (.cells #[.int .u8 65, .int .u8 46, .int .u8 66, .int .u8 46] 5 (4, 5))) ⟨_, _, rfl, HA13.out.1.old F14, HA13.out.2.old F14⟩ ⟨_, _, rfl, V14, (name_nil (fun _ => True) _).now⟩ ⟨by simp, by simp⟩ ⟨by simp, by simp⟩ (HE.out.old (HF13.out.trans F14))
  rw [show genSameS ⟨2, [97, 46, 98], []⟩ ⟨2, [65, 46, 66, 46], []⟩ = true from by kernel_rfl] at HSM
  have HSI := Lib.hid HSM
  have HF14 := Lib.hid (HF13.out.trans F14)
  have HS0 := Lib.hid (F14.cell s0 (fun h => h))
  clear F14 V14 HSM HF13 HA13 B13
  go_wp2_with fail
  refine HSI.out.mono ?_
  rintro e w15 ⟨rfl, F15⟩
  have s1 := F15.cell HS0.out (fun h => h)
  rw [Nat.add_zero] at s1
  have HF15 := Lib.hid (HF14.out.trans F15)
  clear s0 z0 z1 z2 F15
  go_wp2_with fail
  go_ret
  exact ⟨rfl, HF15.out⟩
end Go.Proofs.YtacekpdjapgfcaaGreatDoor
