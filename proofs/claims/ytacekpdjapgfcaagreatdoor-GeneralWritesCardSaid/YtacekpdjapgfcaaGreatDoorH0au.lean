/-
  Merged by program: XR13H XGenU XGenL XR03S.
-/
import Derived.Test.YtacekpdjapgfcaaGreatDoorH0at
import Derived.Test.YtacekpdjapgfcaaGreatDoorH0af
import Derived.Deep.Slices
import Derived.Deep.CutBlock
import Derived.Deep.CutRange
import Derived.Deep.Cut
import Derived.Lib.SlBytesConst
import Derived.Test.YtacekpdjapgfcaaGreatDoorH0ar
import Derived.Test.YtacekpdjapgfcaaGreatDoorH0as
import Derived.Test.YtacekpdjapgfcaaGreatDoorH0aa
import Derived.Lib.ItoaNum
namespace Go.Proofs.YtacekpdjapgfcaaGreatDoor
open Go Go.RowKit Go.Q
set_option linter.unusedSimpArgs false
theorem addStr {w wa : World} {base m : Nat} {v : Value} {xs : List (List UInt8)} (hown : w.ownsRow base 9 1 v m (xs.map str)) (hb : base ≤ w.heap.size) (hm : m ≤ 109951162777) (x : List UInt8) (g : Nat) (F1 : Fr (fun _ => False) w wa) (BX : Blk wa g 9 #[str x]) :
    ∃ a c w', (Builtin.append_ #[68, 68] 68 #[v, .slice (some ⟨g, 0, none⟩) 1 1]).run Tryz.prog wa = .ok (.slice a (m + 1) c) w' ∧ w'.ownsRow base 9 1 (.slice a (m + 1) c) (m + 1) ((xs ++ [x]).map str) ∧ Fr (fun k => v.ownBlock = some k) w w' := by
  rw [List.map_append]
  obtain ⟨a, c, w', h1, h2, h3, -⟩ := add_gen Tryz.underlying68 info9 rfl (by decide) (by decide) hown hb F1 g [str x] rfl BX (by simp [Value.oneCell']) hm
  exact ⟨a, c, w', h1, h2, h3⟩
set_option maxRecDepth 20000 in
set_option maxHeartbeats 2000000 in
theorem r13Lower_any (l : List UInt8) (w : World) (hl : l.length ≤ 1000000000) :
    Calls Tryz.prog 99 #[str l] w fun e w' => e = .returned (str (lowerS l)) ∧ Fr (fun _ => False) w w' := by
  have hs : (ByteArray.mk l.toArray).size = l.length := str_size l
  go_enter Tryz.func99, Tryz.ntmps99
  go_wp2_with fail
  go_loopg [3, 4] l.length (fun g u i wr => ∃ (j : Nat) (a : Option Addr) (c : Nat), g = l.length - j ∧ j ≤ l.length ∧ u = .slice a j c ∧ i = .int .i64 j ∧ wr.ownsRow w.heap.size 5 1 (.slice a j c) j (Lib.byteCells (lowerS (l.take j))) ∧ Fr (fun _ => False) w wr)
  case atStart => exact ⟨0, none, 0, rfl, Nat.zero_le _, rfl, rfl, ⟨rfl, .inl ⟨rfl, rfl⟩⟩, Fr.refl _⟩
  case round =>
    obtain ⟨j, a, c, hg, hj, rfl, rfl, ho, F⟩ := hrel
    have HG := Lib.hid hg
    have HOW := Lib.hid ho
    have HF := Lib.hid F
    have hvb := Lib.hid (Vals.of_own ho).2
    clear hg ho F
    by_cases hjl : j < l.length
    · obtain ⟨x, hx⟩ : ∃ x, l[j]? = some x := ⟨_, List.getElem?_eq_getElem hjl⟩
      have r1 : (0 : Int) ≤ (j : Int) := by omega
      have r2 : (j : Int) < (l.length : Int) := by omega
      have s1 := fun w => str_index hx w
      have HX := Lib.hid hx
      obtain ⟨a7, c7, w7, hr7, ho7, F7⟩ := add_bytes HOW.out [lowB x] #[.int .u8 ((lowB x).toNat : Int)] rfl 1 rfl (by omega) HF.out.size
      have HF7 := Lib.hid (HF.out.trans' F7 (fun i hi e => by have := (hvb.out i e).1; omega))
      have HO7 := Lib.hid (show w7.ownsRow w.heap.size 5 1 (.slice a7 (j + 1) c7) (j + 1) (Lib.byteCells (lowerS (l.take (j + 1)))) from by
        have e : lowerS (l.take (j + 1)) = lowerS (l.take j) ++ [lowB x] := by
          rw [List.take_add_one, HX.out]
          simp [lowerS]
        rw [e]
        exact ho7)
      have HRUN := Lib.hid hr7
      have hlow := lowB_toNat x
      have hx256 : x.toNat < 256 := x.toNat_lt
      clear hx ho7 F7 hr7
      obtain ⟨n, hn⟩ : ∃ n, n = x.toNat := ⟨_, rfl⟩
      rw [← hn] at s1 hlow hx256
      clear hn
      generalize (lowB x).toNat = m at *
      rcases Nat.lt_or_ge 64 n with h1 | h1
      · rcases Nat.lt_or_ge n 91 with h2 | h2
        · rw [if_pos (by omega)] at hlow
          have q1 : (64 : Int) < (n : Int) := by omega
          have q2 : (n : Int) < 91 := by omega
          have q3 : IntKind.u8.wrap ((n : Int) + 32) = (m : Int) := by
            simp [IntKind.wrap, IntKind.signed, IntKind.bits]
            omega
          clear hlow hx256 h1 h2
          have HQ3 := Lib.hid q3
          clear q3
          go_upto_region 7 with fail
          have q3 := HQ3.out
          go_wp2_with (at_builtin; refine wpList_append_run (by rfl) (.tmp 23) (.tmp 25) 23 (by rfl) _ w7 (by exact HRUN.out) ?_)
          go_roundg (l.length - (j + 1))
          case measure => rw [HG.out]; omega
          case rel => exact ⟨j + 1, a7, c7, rfl, by omega, rfl, by go_num, HO7.out, HF7.out⟩
        · rw [if_neg (by omega)] at hlow
          subst hlow
          have q1 : (64 : Int) < (m : Int) := by omega
          have q2 : ¬ (m : Int) < 91 := by omega
          clear hx256 h1 h2
          go_wp2_with (at_builtin; refine wpList_append_run (by rfl) (.tmp 23) (.tmp 25) 23 (by rfl) _ w7 (by exact HRUN.out) ?_)
          go_roundg (l.length - (j + 1))
          case measure => rw [HG.out]; omega
          case rel => exact ⟨j + 1, a7, c7, rfl, by omega, rfl, by go_num, HO7.out, HF7.out⟩
      · rw [if_neg (by omega)] at hlow
        subst hlow
        have q1 : ¬ (64 : Int) < (m : Int) := by omega
        clear hx256 h1
        go_wp2_with (at_builtin; refine wpList_append_run (by rfl) (.tmp 23) (.tmp 25) 23 (by rfl) _ w7 (by exact HRUN.out) ?_)
        go_roundg (l.length - (j + 1))
        case measure => rw [HG.out]; omega
        case rel => exact ⟨j + 1, a7, c7, rfl, by omega, rfl, by go_num, HO7.out, HF7.out⟩
    · obtain rfl : j = l.length := by omega
      have ho := HOW.out
      rw [List.take_length] at ho
      have hsr := str_of (Vals.of_own ho).1
      clear ho
      go_wp2_with fail
      go_ret
      exact ⟨rfl, HF.out⟩
def labelsOut (w' : World) (base : Nat) (r : Option (List (List UInt8))) (e : Ending) : Prop :=
  match r with
  | some ks => ∃ a c, e = .returned (.tuple #[.slice a ks.length c, .bool true]) ∧ w'.ownsRow base 9 1 (.slice a ks.length c) ks.length (ks.map str)
  | none => e = .returned (.tuple #[.slice none 0 0, .bool false])
set_option maxRecDepth 100000 in
set_option maxHeartbeats 8000000 in
theorem r13Labels_any (l : List UInt8) (w : World) (hl : l.length ≤ 1000000000) :
    Calls Tryz.prog 144 #[str l] w fun e w' => labelsOut w' w.heap.size (labelsS l) e ∧ Fr (fun _ => False) w w' := by
  have hlb : labelsS l = if 253 < (dotS (lowerS l)).length then none else labGo [] [] (dotS (lowerS l)) := rfl
  have HLB := Lib.hid hlb
  have HLW := Lib.hid (r13Lower_any l w hl)
  have hll := lower_len l
  clear hlb
  generalize lowerS l = m at *
  have hml : m.length ≤ 1000000000 := by omega
  clear hll
  have hms : (ByteArray.mk m.toArray).size = m.length := str_size m
  obtain ⟨t, ht⟩ : ∃ t, t = dotS m := ⟨_, rfl⟩
  have hdm := dot_len m
  rw [← ht] at HLB hdm
  go_enter Tryz.func144, Tryz.ntmps144
  go_wp2_with fail
  refine HLW.out.mono ?_
  rintro e w1 ⟨rfl, F1⟩
  have HF1 := Lib.hid F1
  clear F1 HLW
  have hc : m = [] ∨ (∃ x, m.getLast? = some x ∧ x ≠ 46 ∧ m ≠ []) ∨ m.getLast? = some 46 := by
    cases hm : m.getLast? with
    | none => exact .inl (List.getLast?_eq_none_iff.1 hm)
    | some x =>
      by_cases hx : x = 46
      · exact .inr (.inr (by rw [hx]))
      · exact .inr (.inl ⟨x, rfl, hx, by rintro rfl; simp at hm⟩)
  have htt : (m.getLast? ≠ some 46 ∧ t = m) ∨ (m.getLast? = some 46 ∧ t = m.take (m.length - 1)) := by
    rw [ht]
    unfold dotS
    by_cases h : m.getLast? = some 46
    · exact .inr ⟨h, by rw [if_pos h, List.dropLast_eq_take]⟩
    · exact .inl ⟨h, by rw [if_neg h]⟩
  have HTT := Lib.hid htt
  have HC := Lib.hid hc
  clear ht hc htt
  go_upto_region 2 with fail
  go_cut [20] from 10 to 20 (fun s wc => s = .bool (decide (m.getLast? = some 46)) ∧ wc = w1)
  case first =>
    rcases HC.out with hc | ⟨x, hc, hx, hne⟩ | hc
    · have q1 : decide ((0 : Int) < (m.length : Int)) = false := by rw [hc]; rfl
      have q2 : ¬ (0 : Int) < (m.length : Int) := of_decide_eq_false q1
      have HD := Lib.hid (show decide (m.getLast? = some 46) = false by rw [hc]; rfl)
      clear hc HTT HLB HC
      go_wp2_with fail
      go_meet
      exact ⟨by rw [HD.out], rfl⟩
    · have h0 : 0 < m.length := List.length_pos_iff.2 hne
      have hg : m[m.length - 1]? = some x := by rw [← List.getLast?_eq_getElem?]; exact hc
      have s1 := fun w => str_index hg w
      have q1 : (0 : Int) < (m.length : Int) := by omega
      have q2 : IntKind.i64.wrap ((m.length : Int) - 1) = ((m.length - 1 : Nat) : Int) := by simp [IntKind.wrap, IntKind.signed, IntKind.bits]; omega
      have q3 : ((x.toNat : Int) == 46) = false := beq_eq_false_iff_ne.2 (fun e => hx (UInt8.toNat_inj.1 (by show x.toNat = 46; omega)))
      have HD := Lib.hid (show decide (m.getLast? = some 46) = false by rw [hc]; exact decide_eq_false (by simpa using hx))
      clear hg hc hne hx HTT HLB HC
      go_wp2_with fail
      go_meet
      exact ⟨by rw [HD.out], rfl⟩
    · have hne : m ≠ [] := by rintro rfl; simp at hc
      have h0 : 0 < m.length := List.length_pos_iff.2 hne
      have hg : m[m.length - 1]? = some 46 := by rw [← List.getLast?_eq_getElem?]; exact hc
      have s1 := fun w => str_index hg w
      have q1 : (0 : Int) < (m.length : Int) := by omega
      have q2 : IntKind.i64.wrap ((m.length : Int) - 1) = ((m.length - 1 : Nat) : Int) := by simp [IntKind.wrap, IntKind.signed, IntKind.bits]; omega
      have q3 : (((46 : UInt8).toNat : Int) == 46) = true := rfl
      have HD := Lib.hid (show decide (m.getLast? = some 46) = true from decide_eq_true hc)
      clear hg hc hne HTT HLB HC hdm
      go_wp2_with fail
      go_meet
      exact ⟨by rw [HD.out], rfl⟩
  case rest =>
    obtain ⟨rfl, rfl⟩ := hcut
    have hdt : t.length ≤ 1000000000 := by omega
    rcases HTT.out with ⟨h46, htm⟩ | ⟨h46, htm⟩
    case' inl =>
      rw [decide_eq_false h46]
      clear HTT HC hml hdm h46
      subst htm
      go_upto_region 4 with fail
    case' inr =>
      have hne : m ≠ [] := by rintro rfl; simp at h46
      have h0 : 0 < m.length := List.length_pos_iff.2 hne
      have q2 : IntKind.i64.wrap ((m.length : Int) - 1) = ((m.length - 1 : Nat) : Int) := by simp [IntKind.wrap, IntKind.signed, IntKind.bits]; omega
      have s2 := fun w => str_to m (m.length - 1) (by omega) w
      rw [← htm] at s2
      rw [decide_eq_true h46]
      clear HTT HC hdm h46 htm hne
      go_upto_region 4 with fail
      clear s2 q2 h0
    all_goals
      have hts : (ByteArray.mk t.toArray).size = t.length := str_size t
      rcases Nat.lt_or_ge 253 t.length with hbig | hbig
      case inl =>
        rw [if_pos hbig] at HLB
        have u1 : (253 : Int) < (t.length : Int) := by omega
        go_wp2_with fail
        refine bodyPost_ret (v := .tuple #[.slice none 0 0, .bool false]) (by simp [results, Tryz.results144, go_sem]) rfl ⟨?_, HF1.out⟩
        rw [HLB.out]
        rfl
      rw [if_neg (by omega)] at HLB
      have u1 : ¬ (253 : Int) < (t.length : Int) := by omega
      go_wp2_with fail
      go_loopg [4, 5, 6] (t.length + 1) (fun g u v i wr => ∃ (j : Nat) (a : Option Addr) (c : Nat) (done : List (List UInt8)) (one : List UInt8), g = t.length + 1 - j ∧ j ≤ t.length + 1 ∧ u = .slice a done.length c ∧ v = str one ∧ i = .int .i64 j ∧ wr.ownsRow w.heap.size 9 1 (.slice a done.length c) done.length (done.map str) ∧ one.length ≤ j ∧ done.length ≤ j ∧ ((j ≤ t.length ∧ labGo [] [] t = labGo done one (t.drop j)) ∨ (j = t.length + 1 ∧ labGo [] [] t = some done)) ∧ Fr (fun _ => False) w wr)
      case atStart => exact ⟨0, none, 0, [], [], rfl, Nat.zero_le _, rfl, rfl, rfl, ⟨rfl, .inl ⟨rfl, rfl⟩⟩, by simp, by simp, .inl ⟨Nat.zero_le _, rfl⟩, HF1.out⟩
      case round =>
        obtain ⟨j, a, c, done, one, hg, hj, rfl, rfl, rfl, ho, hol, hdl, hst, F⟩ := hrel
        have HG := Lib.hid hg
        have HOW := Lib.hid ho
        have HF := Lib.hid F
        have hos : (ByteArray.mk one.toArray).size = one.length := str_size one
        clear hg ho F HF1
        rcases hst with ⟨hjl, hst⟩ | ⟨rfl, hst⟩
        case inr =>
          rw [hst] at HLB
          have v1 : ¬ ((t.length + 1 : Nat) : Int) ≤ (t.length : Int) := by omega
          clear hst
          go_wp2_with fail
          refine bodyPost_ret (v := .tuple #[.slice a done.length c, .bool true]) (by simp [results, Tryz.results144, go_sem]) rfl ⟨?_, HF.out⟩
          rw [HLB.out]
          exact ⟨a, c, rfl, HOW.out⟩
        have v1 : (j : Int) ≤ (t.length : Int) := by omega
        have HST := Lib.hid hst
        clear hst
        have hcase : (∃ x, t[j]? = some x ∧ x ≠ 46) ∨ (t[j]? = some 46 ∨ t.length = j) := by
          rcases Nat.lt_or_ge j t.length with h | h
          · by_cases hx : t[j] = 46
            · exact .inr (.inl (by rw [List.getElem?_eq_getElem h, hx]))
            · exact .inl ⟨_, List.getElem?_eq_getElem h, hx⟩
          · exact .inr (.inr (by omega))
        rcases hcase with ⟨x, hx, hx46⟩ | hx
        · have hjt : j < t.length := (List.getElem?_eq_some_iff.1 hx).1
          have v2 : (j : Int) < (t.length : Int) := by omega
          have v0 : (0 : Int) ≤ (j : Int) := by omega
          have s1 := fun w => str_index hx w
          have s2 := fun w => str_one hx w
          have hdr : t.drop j = x :: t.drop (j + 1) := by
            obtain ⟨h, rfl⟩ := List.getElem?_eq_some_iff.1 hx
            exact List.drop_eq_getElem_cons h
          have hgo : labGo done one (t.drop j) = if labelC x then labGo done (one ++ [x]) (t.drop (j + 1)) else none := by
            rw [hdr, labGo, if_neg hx46]
          have HGO := Lib.hid (HST.out.trans hgo)
          have hcl : labelC x = decide ((97 ≤ x.toNat ∧ x.toNat ≤ 122) ∨ (48 ≤ x.toNat ∧ x.toNat ≤ 57) ∨ x.toNat = 45 ∨ x.toNat = 95) := rfl
          have HCL := Lib.hid hcl
          have v3 : ((x.toNat : Int) == 46) = false := beq_eq_false_iff_ne.2 (fun e => hx46 (UInt8.toNat_inj.1 (by show x.toNat = 46; omega)))
          have v4 : ((x.toNat : Int) != 46) = true := by simpa using v3
          have hss : (ByteArray.mk [x].toArray).size = 1 := rfl
          have bad : labelC x = false → labelsS l = none := fun h => by rw [HLB.out, HGO.out, h]; rfl
          have BAD := Lib.hid bad
          have good : labelC x = true → labGo [] [] t = labGo done (one ++ [x]) (t.drop (j + 1)) := fun h => by rw [HGO.out, if_pos h]
          have GOOD := Lib.hid good
          clear hx hdr hgo hcl bad good HST hx46
          generalize x.toNat = n at *
          have hcase : (97 ≤ n ∧ n ≤ 122) ∨ (48 ≤ n ∧ n ≤ 57) ∨ n = 45 ∨ n = 95 ∨ 122 < n ∨ (n < 48 ∧ n ≠ 45) ∨ (57 < n ∧ n < 97 ∧ n ≠ 95) := by omega
          rcases hcase with h | h | h | h | h | h | h
          all_goals
            first | have d1 : (n : Int) < 97 := by omega | have d1 : ¬ (n : Int) < 97 := by omega
            first | have d2 : (122 : Int) < (n : Int) := by omega | have d2 : ¬ (122 : Int) < (n : Int) := by omega
            first | have d3 : (n : Int) < 48 := by omega | have d3 : ¬ (n : Int) < 48 := by omega
            first | have d4 : (57 : Int) < (n : Int) := by omega | have d4 : ¬ (57 : Int) < (n : Int) := by omega
            first | have d5 : ((n : Int) == 45) = false := beq_eq_false_iff_ne.2 (by omega) | have d5 : ((n : Int) == 45) = true := by rw [h]; rfl
            first | have d6 : ((n : Int) == 95) = false := beq_eq_false_iff_ne.2 (by omega) | have d6 : ((n : Int) == 95) = true := by rw [h]; rfl
            first | have d7 : ((n : Int) != 45) = true := by simpa using d5 | have d7 : ((n : Int) != 45) = false := by rw [h]; rfl
            first | have d8 : ((n : Int) != 95) = true := by simpa using d6 | have d8 : ((n : Int) != 95) = false := by rw [h]; rfl
            have hl : labelC x = true ∨ labelC x = false := by cases labelC x <;> simp
            rcases hl with hl | hl
            · have HOK := Lib.hid (GOOD.out hl)
              rw [HCL.out, decide_eq_true_eq] at hl
              first
                | (exfalso; omega)
                | (clear h hl
                   go_wp2_with fail
                   go_roundg (t.length + 1 - (j + 1))
                   case measure => rw [HG.out]; omega
                   case rel => exact ⟨j + 1, a, c, done, one ++ [x], rfl, by omega, rfl, congrArg Value.string (ba_cat one [x]), by go_num, HOW.out, by rw [List.length_append]; simp; omega, by omega, .inl ⟨by omega, HOK.out⟩, HF.out⟩)
            · have HNO := Lib.hid (BAD.out hl)
              rw [HCL.out, decide_eq_false_iff_not] at hl
              first
                | (exfalso; omega)
                | (clear h hl s2
                   go_wp2_with fail
                   refine bodyPost_ret (v := .tuple #[.slice none 0 0, .bool false]) (by simp [results, Tryz.results144, go_sem]) rfl ⟨?_, HF.out⟩
                   rw [HNO.out]
                   rfl)
        · have hfin : (j = t.length ∨ t[j]? = some 46) := hx.elim .inr (fun h => .inl h.symm)
          have hgo : labGo done one (t.drop j) = if 1 ≤ one.length ∧ one.length ≤ 63 then (if j = t.length then some (done ++ [one]) else labGo (done ++ [one]) [] (t.drop (j + 1))) else none := by
            rcases Nat.lt_or_ge j t.length with h | h
            · have hx2 : t[j] = 46 := by
                rcases hfin with h2 | h2
                · omega
                · rw [List.getElem?_eq_getElem h] at h2
                  simpa using h2
              rw [List.drop_eq_getElem_cons h, labGo, if_pos hx2, if_neg (show ¬ j = t.length by omega)]
            · rw [List.drop_eq_nil_of_le h, labGo, if_pos (show j = t.length by omega)]
          have HGO := Lib.hid (HST.out.trans hgo)
          have v2 : (decide ((j : Int) < (t.length : Int)) = false) ∨ (decide ((j : Int) < (t.length : Int)) = true ∧ j < t.length ∧ t[j]? = some 46) := by
            rcases hfin with h | h
            · exact .inl (decide_eq_false (by omega))
            · have := (List.getElem?_eq_some_iff.1 h).1
              exact .inr ⟨decide_eq_true (by omega), this, h⟩
          have v0 : (0 : Int) ≤ (j : Int) := by omega
          have hcl : one.length < 1 ∨ (1 ≤ one.length ∧ 63 < one.length) ∨ (1 ≤ one.length ∧ one.length ≤ 63) := by omega
          clear hgo HST hfin hx
          obtain ⟨a7, c7, w7, hr7, ho7, F7⟩ := addStr HOW.out HF.out.size (by omega) one wr.heap.size ((Fr.refl wr).alloc (.cells #[str one] 9)) (Blk.new wr 9 #[str one])
          have HF7 := Lib.hid (HF.out.trans' F7 (fun i hi e => by have := ((Vals.of_own HOW.out).2 i e).1; omega))
          have HO7 := Lib.hid ho7
          have HRUN := Lib.hid hr7
          clear hr7 ho7 F7
          have hnext : 1 ≤ one.length ∧ one.length ≤ 63 → (j + 1 ≤ t.length ∧ labGo [] [] t = labGo (done ++ [one]) [] (t.drop (j + 1))) ∨ (j + 1 = t.length + 1 ∧ labGo [] [] t = some (done ++ [one])) := fun h => by
            have := HGO.out
            rw [if_pos h] at this
            by_cases hj2 : j = t.length
            · rw [if_pos hj2] at this
              exact .inr ⟨by omega, this⟩
            · rw [if_neg hj2] at this
              exact .inl ⟨by omega, this⟩
          have HNX := Lib.hid hnext
          have hbad : ¬ (1 ≤ one.length ∧ one.length ≤ 63) → labelsS l = none := fun h => by rw [HLB.out, HGO.out, if_neg h]
          have HBD := Lib.hid hbad
          clear hnext hbad
          rcases v2 with v2 | ⟨v2, hjt, hx⟩
          case' inl =>
            have v3 : ¬ (j : Int) < (t.length : Int) := of_decide_eq_false v2
          case' inr =>
            have v3 : (j : Int) < (t.length : Int) := of_decide_eq_true v2
            have s1 := fun w => str_index hx w
            clear hx
          all_goals
            rcases hcl with h | ⟨h, h2⟩ | ⟨h, h2⟩
            · have d1 : (one.length : Int) < 1 := by omega
              have HNO := Lib.hid (HBD.out (by omega))
              clear h
              go_wp2_with fail
              refine bodyPost_ret (v := .tuple #[.slice none 0 0, .bool false]) (by simp [results, Tryz.results144, go_sem]) rfl ⟨?_, HF.out⟩
              rw [HNO.out]
              rfl
            · have d1 : ¬ (one.length : Int) < 1 := by omega
              have d2 : (63 : Int) < (one.length : Int) := by omega
              have HNO := Lib.hid (HBD.out (by omega))
              clear h h2
              go_wp2_with fail
              refine bodyPost_ret (v := .tuple #[.slice none 0 0, .bool false]) (by simp [results, Tryz.results144, go_sem]) rfl ⟨?_, HF.out⟩
              rw [HNO.out]
              rfl
            · have d1 : ¬ (one.length : Int) < 1 := by omega
              have d2 : ¬ (63 : Int) < (one.length : Int) := by omega
              have HOK := Lib.hid (HNX.out ⟨h, h2⟩)
              clear h h2
              go_wp2_with (at_builtin; refine wpList_append_run (by rfl) (.tmp 85) (.tmp 87) 68 (by rfl) _ w7 (by exact HRUN.out) ?_)
              go_roundg (t.length + 1 - (j + 1))
              case measure => rw [HG.out]; omega
              case rel => exact ⟨j + 1, a7, c7, done ++ [one], [], rfl, by omega, by rw [List.length_append]; rfl, rfl, by go_num, by rw [List.length_append]; exact HO7.out, by simp, by rw [List.length_append]; simp; omega, HOK.out, HF7.out⟩
  def rhostV (r : Option (List UInt8)) : Value := match r with | some h => .tuple #[str h, .bool true] | none => .tuple #[str [], .bool false]
set_option maxRecDepth 20000 in
set_option maxHeartbeats 2000000 in
theorem r13Host_any (l : List UInt8) (w : World) (hl : l.length ≤ 1000000000) :
    Calls Tryz.prog 97 #[str l] w fun e w' => e = .returned (rhostV (hostS l)) ∧ Fr (fun _ => False) w w' := by
  have HL := Lib.hid (r13Labels_any l w hl)
  have hh := labels_host l
  have HH := Lib.hid hh
  have hjl : ∀ ks, labelsS l = some ks → (Lib.join ks [46]).length ≤ l.length := fun ks h => by
    rw [h] at hh
    simp only [Option.map_some] at hh
    unfold hostS at hh
    split at hh
    · cases hh
    split at hh
    · simp only [Option.some.injEq] at hh
      rw [hh, lower_len]
      exact dot_len l
    · cases hh
  have HJ := Lib.hid hjl
  clear hh hjl
  go_enter Tryz.func97, Tryz.ntmps97
  go_wp2_with fail
  refine HL.out.mono ?_
  rintro e w1 ⟨hout, F1⟩
  have HF1 := Lib.hid F1
  clear F1 HL
  unfold labelsOut at hout
  cases hr : labelsS l with
  | none =>
    rw [hr] at hout HH
    subst hout
    clear hr
    go_wp2_with fail
    go_loopg [6, 7] 0 (fun g u i wr => g = 0 ∧ u = str [] ∧ i = .int .i64 0 ∧ wr = w1)
    case atStart => exact ⟨rfl, rfl, rfl, rfl⟩
    case round =>
      obtain ⟨-, rfl, rfl, rfl⟩ := hrel
      go_wp2_with fail
      refine bodyPost_ret (v := .tuple #[str [], .bool false]) (by simp [results, Tryz.results97, go_sem]) rfl ⟨?_, HF1.out⟩
      rw [← HH.out]
      rfl
  | some ks =>
    rw [hr] at hout HH
    have hjoin := HJ.out ks hr
    simp only [Option.map_some] at HH
    obtain ⟨a, c, rfl, ho⟩ := hout
    have HST := Lib.hid (Vals.of_own ho).1
    have hksl : ks.length ≤ 9223372036854775807 := by
      obtain ⟨_, cp, -, h1, h2, -⟩ := Strs.form HST.out
      unfold maxLen at h2
      omega
    have hpre : ∀ j, (Lib.join (ks.take j) [46]).length ≤ (Lib.join ks [46]).length := fun j => by
      have h1 : ∀ j, j ≤ ks.length → (Lib.join (ks.take j) [46]).length ≤ (Lib.join ks [46]).length := by
        intro j hj
        induction h : ks.length - j generalizing j with
        | zero => rw [List.take_of_length_le (by omega)]; exact Nat.le_refl _
        | succ d ih =>
          have := ih (j + 1) (by omega) (by omega)
          have h2 := join_take 46 (List.getElem?_eq_getElem (show j < ks.length by omega))
          rw [h2] at this
          rw [List.length_append] at this
          by_cases h0 : j = 0
          · subst h0
            simp [Lib.join]
          · rw [if_neg h0, List.length_append] at this
            omega
      rcases Nat.lt_or_ge ks.length j with h | h
      · rw [List.take_of_length_le (by omega)]; exact Nat.le_refl _
      · exact h1 j h
    have HPR := Lib.hid hpre
    clear hr ho hpre
    go_wp2_with fail
    go_loopg [6, 7] ks.length (fun g u i wr => ∃ j : Nat, g = ks.length - j ∧ j ≤ ks.length ∧ u = str (Lib.join (ks.take j) [46]) ∧ i = .int .i64 j ∧ wr = w1)
    case atStart => exact ⟨0, rfl, Nat.zero_le _, rfl, rfl, rfl⟩
    case round =>
      obtain ⟨j, hg, hj, rfl, rfl, rfl⟩ := hrel
      have HG := Lib.hid hg
      clear hg
      by_cases hjl : j < ks.length
      · obtain ⟨a0, c0, he, -, -, hx⟩ := Strs.form HST.out
        simp only [Value.slice.injEq, true_and] at he
        obtain ⟨rfl, rfl⟩ := he
        obtain ⟨b, o, rfl, hy⟩ := hx (by omega)
        obtain ⟨k, hk⟩ : ∃ k, ks[j]? = some k := ⟨_, List.getElem?_eq_getElem hjl⟩
        have e1 := hy j k hk
        have hnx := join_take 46 hk
        have hp1 := HPR.out (j + 1)
        have r1 : (0 : Int) ≤ (j : Int) := by omega
        have r2 : (j : Int) < (ks.length : Int) := by omega
        have hks : (ByteArray.mk k.toArray).size = k.length := str_size k
        have hds : (ByteArray.mk #[46]).size = 1 := rfl
        rw [hnx] at hp1
        have HNX := Lib.hid hnx
        have hJ0 : j = 0 → Lib.join (ks.take j) [46] = [] := fun h => by rw [h]; simp [Lib.join]
        clear hx hy hk hnx
        generalize Lib.join (ks.take j) [46] = J at *
        have hjs : (ByteArray.mk J.toArray).size = J.length := str_size J
        by_cases h0 : j = 0
        · obtain rfl := hJ0 h0
          rw [if_pos h0, List.nil_append] at hp1
          rw [if_pos h0, List.nil_append] at HNX
          have q1 : ¬ (0 : Int) < (j : Int) := by omega
          clear hJ0 h0
          go_wp2_with fail
          go_roundg (ks.length - (j + 1))
          case measure => rw [HG.out]; omega
          case rel => exact ⟨j + 1, rfl, by omega, by rw [HNX.out]; exact congrArg Value.string (ba_cat [] k), by go_num, rfl⟩
        · rw [if_neg h0, List.length_append, List.length_append] at hp1
          rw [if_neg h0] at HNX
          have q1 : (0 : Int) < (j : Int) := by omega
          have hl1 : ([46] : List UInt8).length = 1 := rfl
          have hcat : (ByteArray.mk J.toArray ++ ByteArray.mk #[46]) = ByteArray.mk (J ++ [46]).toArray := ba_cat J [46]
          have hcs : (ByteArray.mk (J ++ [46]).toArray).size = J.length + 1 := by rw [str_size, List.length_append]; rfl
          clear hJ0 h0
          go_wp2_with fail
          go_roundg (ks.length - (j + 1))
          case measure => rw [HG.out]; omega
          case rel => exact ⟨j + 1, rfl, by omega, by rw [HNX.out]; exact congrArg Value.string ((congrArg (· ++ ByteArray.mk k.toArray) (ba_cat J [46])).trans (ba_cat (J ++ [46]) k)), by go_num, rfl⟩
      · obtain rfl : j = ks.length := by omega
        rw [List.take_length]
        go_wp2_with fail
        refine bodyPost_ret (v := .tuple #[str (Lib.join ks [46]), .bool true]) (by simp [results, Tryz.results97, go_sem]) rfl ⟨?_, HF1.out⟩
        rw [← HH.out]
        rfl
end Go.Proofs.YtacekpdjapgfcaaGreatDoor

namespace Go.Q
open Go Go.RowKit
def urisS (l : List Gen) : List (List UInt8) := (l.filter fun g => decide (g.k = 6) && genOk g).map (·.b)
theorem uris_take {l : List Gen} {j : Nat} {x : Gen} (h : l[j]? = some x) : urisS (l.take (j + 1)) = urisS (l.take j) ++ if (decide (x.k = 6) && genOk x) = true then [x.b] else [] := by
  unfold urisS
  rw [List.take_add_one, h]
  simp only [Option.toList_some, List.filter_append, List.map_append, List.filter_cons, List.filter_nil]
  congr 1
  split <;> simp_all
theorem gens_two {w : World} {b : Nat} {t : TypeId} {g p : Gen} {v1 v2 u1 u2 : Value} (B : Blk w b t #[.int .i64 g.k, v1, v2, .int .i64 p.k, u1, u2]) (h1 : Bytes w v1 g.b) (h2 : NameAt w v2 g.n) (h3 : Bytes w u1 p.b) (h4 : NameAt w u2 p.n) : Gens w (.slice (some ⟨b, 0, none⟩) 2 2) [g, p] := by
  refine ⟨_, 2, rfl, Nat.le_refl _, by unfold maxLen; omega, fun _ => ⟨b, 0, rfl, fun i x hx => ?_⟩⟩
  match i, hx with
  | 0, hx =>
    simp only [List.getElem?_cons_zero, Option.some.injEq] at hx
    subst hx
    refine ⟨[.int .i64 g.k, v1, v2], rfl, fun j u hu => ?_, _, _, rfl, h1, h2⟩
    have hj := (List.getElem?_eq_some_iff.1 hu).1
    simp only [List.length_cons, List.length_nil] at hj
    rw [show 0 + 3 * 0 + j = j by omega, B.cell j]
    match j, hj, hu with
    | 0, _, hu => exact hu
    | 1, _, hu => exact hu
    | 2, _, hu => exact hu
  | 1, hx =>
    simp only [List.getElem?_cons_succ, List.getElem?_cons_zero, Option.some.injEq] at hx
    subst hx
    refine ⟨[.int .i64 p.k, u1, u2], rfl, fun j u hu => ?_, _, _, rfl, h3, h4⟩
    have hj := (List.getElem?_eq_some_iff.1 hu).1
    simp only [List.length_cons, List.length_nil] at hj
    rw [show 0 + 3 * 1 + j = 3 + j by omega, B.cell (3 + j)]
    match j, hj, hu with
    | 0, _, hu => exact hu
    | 1, _, hu => exact hu
    | 2, _, hu => exact hu
theorem gens_one {w : World} {b : Nat} {t : TypeId} {g : Gen} {v1 v2 : Value} (B : Blk w b t #[.int .i64 g.k, v1, v2]) (h1 : Bytes w v1 g.b) (h2 : NameAt w v2 g.n) : Gens w (.slice (some ⟨b, 0, none⟩) 1 1) [g] := by
  refine ⟨_, 1, rfl, Nat.le_refl _, by unfold maxLen; omega, fun _ => ⟨b, 0, rfl, fun i x hx => ?_⟩⟩
  match i, hx with
  | 0, hx =>
    simp only [List.getElem?_cons_zero, Option.some.injEq] at hx
    subst hx
    refine ⟨[.int .i64 g.k, v1, v2], rfl, fun j u hu => ?_, _, _, rfl, h1, h2⟩
    have hj := (List.getElem?_eq_some_iff.1 hu).1
    simp only [List.length_cons, List.length_nil] at hj
    rw [show 0 + 3 * 0 + j = j by omega, B.cell j]
    match j, hj, hu with
    | 0, _, hu => exact hu
    | 1, _, hu => exact hu
    | 2, _, hu => exact hu
end Go.Q
namespace Go.Proofs.YtacekpdjapgfcaaGreatDoor
open Go Go.RowKit Go.Q
set_option linter.unusedSimpArgs false
set_option maxRecDepth 20000 in
set_option maxHeartbeats 4000000 in
theorem uris_any (v : Value) (l : List Gen) (w : World) (h : Gens w v l) (hf : ∀ g ∈ l, fewG g) (hl : l.length ≤ 1000000) :
    Calls Tryz.prog 36 #[v] w fun e w' => (∃ a c, e = .returned (.slice a (urisS l).length c) ∧ Strs w' (.slice a (urisS l).length c) (urisS l)) ∧ Fr (fun _ => False) w w' := by
  have H := Lib.hid h
  have HFW := Lib.hid hf
  obtain ⟨a0, cap0, rfl, -⟩ := h
  clear hf
  go_enter Tryz.func36, Tryz.ntmps36
  go_wp2_with fail
  go_loopg [3, 8] l.length (fun g u i wr => ∃ (j : Nat) (a : Option Addr) (c : Nat) (ks : List (List UInt8)), g = l.length - j ∧ j ≤ l.length ∧ u = .slice a ks.length c ∧ i = .int .i64 j ∧ ks.length ≤ j ∧ Hid (ks = urisS (l.take j)) ∧ wr.ownsRow w.heap.size 9 1 (.slice a ks.length c) ks.length (ks.map str) ∧ Fr (fun _ => False) w wr)
  case atStart => exact ⟨0, none, 0, [], rfl, Nat.zero_le _, rfl, rfl, by simp, Lib.hid rfl, ⟨rfl, .inl ⟨rfl, rfl⟩⟩, Fr.refl _⟩
  case round =>
    obtain ⟨j, a, c, ks, hg, hj, rfl, rfl, hkl, HKS, ho, F⟩ := hrel
    have HG := Lib.hid hg
    have HOW := Lib.hid ho
    have HF := Lib.hid F
    clear hg ho
    by_cases hjl : j < l.length
    · obtain ⟨x, hx⟩ : ∃ x, l[j]? = some x := ⟨_, List.getElem?_eq_getElem hjl⟩
      obtain ⟨b, o, ab, cb, an, cn, rfl, -, hga, e0, e1, e2⟩ := (H.out.old F).get hx
      have r1 : (0 : Int) ≤ (j : Int) := by omega
      have r2 : (j : Int) < (l.length : Int) := by omega
      have HX := Lib.hid hx
      have hfx := HFW.out x (List.mem_of_getElem? hx)
      obtain ⟨y, hy⟩ : ∃ y, y = wr.heap.size := ⟨_, rfl⟩
      have F1 : Fr (fun _ => False) wr (wr.alloc (.cells #[.int .i64 x.k, .slice ab x.b.length cb, .slice an x.n.length cn] 42)) := (Fr.refl wr).alloc _
      have BY := Blk.new wr 42 #[.int .i64 x.k, .slice ab x.b.length cb, .slice an x.n.length cn]
      rw [← hy] at BY
      have HGA := Lib.hid (hga.old F1)
      have HF1 := Lib.hid (F.trans F1)
      have HOW1 := Lib.hid (ownsRow_fr HOW.out F1 (fun _ _ h => h))
      have HR := Lib.hid (genRight_any _ x _ (hga.old F1) hfx)
      clear hx hga F F1 HOW HF
      go_upto_region 5 with fail
      rw [← hy]
      clear hy e0 e1 e2
      generalize (wr.alloc (.cells #[.int .i64 x.k, .slice ab x.b.length cb, .slice an x.n.length cn] 42)) = w1 at *
      have HBY := Lib.hid BY
      have y0 := BY.cell 0
      have y1 := BY.cell 1
      have y2 := BY.cell 2
      simp only [List.getElem?_toArray, List.getElem?_cons_succ, List.getElem?_cons_zero] at y0 y1 y2
      have skip : (decide (x.k = 6) && genOk x) = false → Hid (ks = urisS (l.take (j + 1))) := fun h => Lib.hid (by rw [uris_take HX.out, ← HKS.out, h]; simp)
      have HSK := Lib.hid skip
      have more : (decide (x.k = 6) && genOk x) = true → Hid (ks ++ [x.b] = urisS (l.take (j + 1))) := fun h => Lib.hid (by rw [uris_take HX.out, ← HKS.out, h]; simp)
      have HMO := Lib.hid more
      clear skip more BY
      by_cases h6 : x.k = 6
      · have q1 : (x.k == 6) = true := by rw [h6]; rfl
        obtain ⟨d, hd⟩ : ∃ d, d = genOk x := ⟨_, rfl⟩
        have HD := Lib.hid (show (decide (x.k = 6) && genOk x) = d by rw [decide_eq_true h6, hd]; rfl)
        rw [← hd] at HR
        clear hd h6
        go_wp2_with fail
        refine HR.out.mono ?_
        rintro e w2 ⟨rfl, F2⟩
        have HF2 := Lib.hid (HF1.out.trans F2)
        have HOW2 := Lib.hid (ownsRow_fr HOW1.out F2 (fun _ _ h => h))
        have BY2 := HBY.out.fr F2 (fun h => h)
        clear y0 y1 y2
        have y1 := BY2.cell 1
        simp only [List.getElem?_toArray, List.getElem?_cons_succ, List.getElem?_cons_zero] at y1
        cases d with
        | false =>
          have HN := HSK.out HD.out
          clear F2 BY2 HOW1 HF1 HR y1
          go_wp2_with fail
          go_roundg (l.length - (j + 1))
          case measure => rw [HG.out]; omega
          case rel => exact ⟨j + 1, a, c, ks, rfl, by omega, rfl, by go_num, by omega, HN, HOW2.out, HF2.out⟩
        | true =>
          have HN := HMO.out HD.out
          obtain ⟨vb, vn, heq, hbx, -⟩ := HGA.out.old F2
          simp only [Value.agg.injEq, Array.mk.injEq, List.cons.injEq, and_true, true_and] at heq
          obtain ⟨rfl, rfl⟩ := heq
          have hsr := str_of hbx
          obtain ⟨a7, c7, w7, hr7, ho7, F7⟩ := addStr HOW2.out HF2.out.size (by omega) x.b w2.heap.size ((Fr.refl w2).alloc (.cells #[str x.b] 9)) (Blk.new w2 9 #[str x.b])
          have HF7 := Lib.hid (HF2.out.trans' F7 (fun i hi e => by have := ((Vals.of_own HOW2.out).2 i e).1; omega))
          have HO7 := Lib.hid ho7
          have HRUN := Lib.hid hr7
          clear F2 BY2 HOW1 HF1 HR hr7 ho7 F7 hbx
          go_wp2_with (at_builtin; refine wpList_append_run (by rfl) (.tmp 19) (.tmp 23) 68 (by rfl) _ w7 (by exact HRUN.out) ?_)
          go_roundg (l.length - (j + 1))
          case measure => rw [HG.out]; omega
          case rel => exact ⟨j + 1, a7, c7, ks ++ [x.b], rfl, by omega, by rw [List.length_append]; rfl, by go_num, by rw [List.length_append]; simp; omega, HN, by rw [List.length_append]; exact HO7.out, HF7.out⟩
      · have q1 : (x.k == 6) = false := beq_eq_false_iff_ne.2 h6
        have HN := HSK.out (by rw [decide_eq_false h6]; rfl)
        clear h6
        go_wp2_with fail
        go_roundg (l.length - (j + 1))
        case measure => rw [HG.out]; omega
        case rel => exact ⟨j + 1, a, c, ks, rfl, by omega, rfl, by go_num, by omega, HN, HOW1.out, HF1.out⟩
    · have hks := HKS.out
      rw [List.take_of_length_le (by omega)] at hks
      have HE := Lib.hid hks
      clear hks
      go_wp2_with fail
      go_ret
      rw [← HE.out]
      exact ⟨⟨a, c, rfl, (Vals.of_own HOW.out).1⟩, F⟩
theorem bytes_block {w : World} {b : Nat} {cs : Array Value} (B : Blk w b 5 cs) (l : List UInt8) (hc : cs.toList = Lib.byteCells l) (n : Nat) (hn : l.length = n) (hm : n ≤ 1000) : Bytes w (.slice (some ⟨b, 0, none⟩) n n) l := by
  subst hn
  have h := Vals.of_block B (by have := congrArg List.length hc; rw [byteCells_len, Array.length_toList] at this; unfold maxLen; omega)
  have e : cs.size = l.length := by have := congrArg List.length hc; rwa [byteCells_len, Array.length_toList] at this
  rw [e, hc] at h
  exact h
theorem bytes_marked (w : World) (cs : Array Value) (fr : Nat × Nat) (l : List UInt8) (hc : cs.toList = Lib.byteCells l) (n : Nat) (hn : l.length = n) (hm : n ≤ 1000) : Bytes (w.alloc (.cells cs 5 fr)) (.slice (some ⟨w.heap.size, 0, none⟩) n n) l := by
  subst hn
  refine ⟨some ⟨w.heap.size, 0, none⟩, l.length, by rw [byteCells_len], by rw [byteCells_len]; exact Nat.le_refl _, by unfold maxLen; omega, fun _ => ⟨_, _, rfl, fun i u hu => ?_⟩⟩
  rw [Nat.zero_add, World.cell?_alloc_mark, ← Array.getElem?_toList, hc]
  exact hu
set_option maxRecDepth 100000 in
set_option maxHeartbeats 8000000 in
theorem gnKnown_any (w : World) (hE : Env w) :
    Calls Tryz.prog 25 #[] w fun e w' => e = .returned (.bool true) ∧ Fr (fun _ => False) w w' := by
  have HE := Lib.hid hE
  obtain ⟨b0, hb0⟩ : ∃ b0, b0 = w.heap.size := ⟨_, rfl⟩
  have F0 : Fr (fun _ => False) w (w.alloc (.cells #[.int .u8 130, .int .u8 3, .int .u8 97, .int .u8 46, .int .u8 98] 5)) := (Fr.refl w).alloc _
  have V0 := bytes_block (Blk.new w 5 #[.int .u8 130, .int .u8 3, .int .u8 97, .int .u8 46, .int .u8 98]) [130, 3, 97, 46, 98] (by rfl) 5 rfl (by decide)
  have HN0 := Lib.hid (new_any _ _ _ V0 (by decide))
  have HF0 := Lib.hid F0
  clear F0 V0 hE hb0
  go_enter Tryz.func25, Tryz.ntmps25
  go_wp2_with fail
  refine HN0.out.mono ?_
  rintro e w1 ⟨rfl, C1, F1⟩
  have HR1 := genRead_any C1 (by decide)
  rw [List.drop_zero, show genReadS [130, 3, 97, 46, 98] = .ok (⟨2, [97, 46, 98], []⟩, 5) from by kernel_rfl] at HR1
  have HRI := Lib.hid HR1
  have hc0 := C1.lt
  have HF1 := Lib.hid (HF0.out.trans F1)
  have hs1 := F1.size
  have hs0 := HF0.out.size
  obtain ⟨c1, hc1⟩ : ∃ c1, c1 = (w.alloc (.cells #[.int .u8 130, .int .u8 3, .int .u8 97, .int .u8 46, .int .u8 98] 5)).heap.size := ⟨_, rfl⟩
  rw [← hc1] at HRI ⊢ hc0 hs1
  have hcw : w.heap.size ≤ c1 := by omega
  clear C1 F1 HR1 HN0 HF0 hc1
  go_wp2_with fail
  refine HRI.out.mono ?_
  rintro e w2 ⟨hout, F2⟩
  obtain ⟨ab, cb, an, cn, rfl, hk, -⟩ := hout
  simp only [List.length_cons, List.length_nil] at hk ⊢
  have HF2 := Lib.hid (HF1.out.trans' F2 (fun i hi e => by omega))
  have HK2 := Lib.hid hk
  have hs2 := F2.size
  obtain ⟨x1, hx1⟩ : ∃ x1, x1 = w2.heap.size := ⟨_, rfl⟩
  have F3 : Fr (fun _ => False) w2 (w2.alloc (.cells #[.int .i64 2, .slice ab 3 cb, .slice an 0 cn] 42)) := (Fr.refl w2).alloc _
  have B3 := Blk.new w2 42 #[.int .i64 2, .slice ab 3 cb, .slice an 0 cn]
  rw [← hx1] at B3
  have HF3 := Lib.hid (HF2.out.trans F3)
  have HK3 := Lib.hid (HK2.out.old F3)
  clear F2 hk HRI HF1 HF2 HK2 F3
  go_upto_region 2 with fail
  rw [← hx1]
  have HX1 := Lib.hid hx1
  clear hx1
  generalize (w2.alloc (.cells #[.int .i64 2, .slice ab 3 cb, .slice an 0 cn] 42)) = w3 at *
  have HB3 := Lib.hid B3
  have hs3 := HF3.out.size
  have HK3 := Lib.hid (HK3.out.step (K' := fun k => w3.heap.size ≤ k) (Fr.refl (S := fun _ => False) w3) (fun _ _ h => h.elim) (fun k hk => .inr hk))
  have F4 : Fr (fun _ => False) w3 (w3.alloc (.cells #[.int .u8 135, .int .u8 3, .int .u8 1, .int .u8 2, .int .u8 3] 5)) := (Fr.refl w3).alloc _
  have V4 := bytes_block (Blk.new w3 5 #[.int .u8 135, .int .u8 3, .int .u8 1, .int .u8 2, .int .u8 3]) [135, 3, 1, 2, 3] (by rfl) 5 rfl (by decide)
  have HN4 := Lib.hid (new_any _ _ _ V4 (by decide))
  have HF4 := Lib.hid F4
  clear V4 F4 B3
  go_wp2_with fail
  refine HN4.out.mono ?_
  rintro e w5 ⟨rfl, C5, F5⟩
  have HR5 := genRead_any C5 (by decide)
  rw [List.drop_zero, show genReadS [135, 3, 1, 2, 3] = .error 6 from by kernel_rfl] at HR5
  have HRI := Lib.hid HR5
  have F45 := HF4.out.trans F5
  have HF5 := Lib.hid (HF3.out.trans F45)
  have HG5 := Lib.hid (F45.mono (T := fun k => w3.heap.size ≤ k) (fun _ _ h => h.elim))
  have HB5 := Lib.hid (HB3.out.fr F45 (fun h => h))
  have hs5 := HF4.out.size
  obtain ⟨c5, hc5⟩ : ∃ c5, c5 = (w3.alloc (.cells #[.int .u8 135, .int .u8 3, .int .u8 1, .int .u8 2, .int .u8 3] 5)).heap.size := ⟨_, rfl⟩
  rw [← hc5] at HRI ⊢
  have hc5w : w3.heap.size ≤ c5 := by omega
  have hx1c : x1 ≠ c5 := by have := HB3.out.lt; omega
  have hx13 := HB3.out.lt
  clear C5 F5 HR5 HN4 HF4 F45 HF3 HB3 hc5
  go_wp2_with fail
  refine HRI.out.mono ?_
  rintro e w6 ⟨hout, F6⟩
  obtain ⟨rfl, -, -⟩ := hout
  have F7 : Fr (fun _ => False) w6 (w6.alloc (.cells #[.int .i64 0, .slice none 0 0, .slice none 0 0] 42)) := (Fr.refl w6).alloc _
  have HF7 := Lib.hid ((HF5.out.trans' F6 (fun i hi e => by omega)).trans F7)
  have HG7 := Lib.hid ((HG5.out.trans (F6.mono (T := fun k => w3.heap.size ≤ k) (fun k _ e => by omega))).trans (F7.mono (T := fun k => w3.heap.size ≤ k) (fun _ _ h => h.elim)))
  have HB7 := Lib.hid ((HB5.out.fr F6 hx1c).fr F7 (fun h => h))
  clear F6 F7 HF5 HG5 HB5 HRI
  go_upto_region 3 with fail
  generalize (w6.alloc (.cells #[.int .i64 0, .slice none 0 0, .slice none 0 0] 42)) = w7 at *
  have hs7 := HG7.out.size
  have F8 : Fr (fun _ => False) w7 (w7.alloc (.cells #[.int .u8 134, .int .u8 1, .int .u8 120] 5)) := (Fr.refl w7).alloc _
  have V8 := bytes_block (Blk.new w7 5 #[.int .u8 134, .int .u8 1, .int .u8 120]) [134, 1, 120] (by rfl) 3 rfl (by decide)
  have HN8 := Lib.hid (new_any _ _ _ V8 (by decide))
  have HF8 := Lib.hid F8
  have hs8 := F8.size
  clear V8 F8
  go_wp2_with fail
  refine HN8.out.mono ?_
  rintro e w9 ⟨rfl, C9, F9⟩
  have HR9 := genRead_any C9 (by decide)
  rw [List.drop_zero, show genReadS [134, 1, 120] = .ok (⟨6, [120], []⟩, 3) from by kernel_rfl] at HR9
  have HRI := Lib.hid HR9
  have F89 := HF8.out.trans F9
  have HF9 := Lib.hid (HF7.out.trans F89)
  have HG9 := Lib.hid (HG7.out.trans (F89.mono (T := fun k => w3.heap.size ≤ k) (fun _ _ h => h.elim)))
  have HB9 := Lib.hid (HB7.out.fr F89 (fun h => h))
  have hs9 := F9.size
  obtain ⟨c9, hc9⟩ : ∃ c9, c9 = (w7.alloc (.cells #[.int .u8 134, .int .u8 1, .int .u8 120] 5)).heap.size := ⟨_, rfl⟩
  rw [← hc9] at HRI ⊢
  have hc9w : w7.heap.size ≤ c9 := by omega
  have hx1d : x1 ≠ c9 := by omega
  clear C9 F9 HR9 HN8 HF8 F89 HF7 HG7 HB7 hc9
  go_wp2_with fail
  refine HRI.out.mono ?_
  rintro e w10 ⟨hout, F10⟩
  obtain ⟨ab2, cb2, an2, cn2, rfl, hk2, -⟩ := hout
  simp only [List.length_cons, List.length_nil] at hk2 ⊢
  obtain ⟨x5, hx5⟩ : ∃ x5, x5 = w10.heap.size := ⟨_, rfl⟩
  have F11 : Fr (fun _ => False) w10 (w10.alloc (.cells #[.int .i64 6, .slice ab2 1 cb2, .slice an2 0 cn2] 42)) := (Fr.refl w10).alloc _
  have B11 := Blk.new w10 42 #[.int .i64 6, .slice ab2 1 cb2, .slice an2 0 cn2]
  rw [← hx5] at B11
  have HF11 := Lib.hid ((HF9.out.trans' F10 (fun i hi e => by omega)).trans F11)
  have HG11 := Lib.hid ((HG9.out.trans (F10.mono (T := fun k => w3.heap.size ≤ k) (fun k _ e => by omega))).trans (F11.mono (T := fun k => w3.heap.size ≤ k) (fun _ _ h => h.elim)))
  have HB11 := Lib.hid ((HB9.out.fr F10 hx1d).fr F11 (fun h => h))
  have HU11 := Lib.hid (hk2.old F11).now
  clear F10 F11 HF9 HG9 HB9 HRI hk2
  go_upto_region 4 with fail
  rw [← hx5]
  clear hx5
  generalize (w10.alloc (.cells #[.int .i64 6, .slice ab2 1 cb2, .slice an2 0 cn2] 42)) = w11 at *
  have HA11 := Lib.hid (HK3.out w11 HG11.out)
  have HX5 := Lib.hid B11
  have y0 := B11.cell 0
  have y1 := B11.cell 1
  have y2 := B11.cell 2
  have z0 := HB11.out.cell 0
  have z1 := HB11.out.cell 1
  have z2 := HB11.out.cell 2
  simp only [List.getElem?_toArray, List.getElem?_cons_succ, List.getElem?_cons_zero] at y0 y1 y2 z0 z1 z2
  have F12 : Fr (fun _ => False) w11 (w11.alloc (.cells #[.int .i64 2, .slice ab 3 cb, .slice an 0 cn, .int .i64 6, .slice ab2 1 cb2, .slice an2 0 cn2] 42)) := (Fr.refl w11).alloc _
  have G12 := gens_two (g := ⟨2, [97, 46, 98], []⟩) (p := ⟨6, [120], []⟩) (Blk.new w11 42 #[.int .i64 2, .slice ab 3 cb, .slice an 0 cn, .int .i64 6, .slice ab2 1 cb2, .slice an2 0 cn2]) (HA11.out.1.old F12) (HA11.out.2.old F12) (HU11.out.1.old F12) (HU11.out.2.old F12)
  have HUR := uris_any _ _ _ G12 (fun g hg => by
    simp only [List.mem_cons, List.not_mem_nil, or_false] at hg
    rcases hg with rfl | rfl
    · exact ⟨by simp, by simp⟩
    · exact ⟨by simp, by simp⟩) (by simp)
  rw [show urisS [⟨2, [97, 46, 98], []⟩, ⟨6, [120], []⟩] = [[120]] from by kernel_rfl] at HUR
  have HUI := Lib.hid HUR
  have HF12 := Lib.hid (HF11.out.trans F12)
  have HB12 := Lib.hid (HB11.out.fr F12 (fun h => h))
  have HA12 := Lib.hid (And.intro (HA11.out.1.old F12) (HA11.out.2.old F12))
  clear F12 G12 HUR HF11 HB11 HU11 HA11 B11
  go_wp2_with fail
  refine HUI.out.mono ?_
  rintro e w13 ⟨⟨a13, c13, rfl, hst⟩, F13⟩
  simp only [List.length_cons, List.length_nil] at hst ⊢
  obtain ⟨aS, cS, heS, -, -, hxS⟩ := Strs.form hst
  simp only [Value.slice.injEq, List.length_cons, List.length_nil, true_and] at heS
  obtain ⟨rfl, rfl⟩ := heS
  obtain ⟨bS, oS, rfl, hyS⟩ := hxS (by simp)
  have s0 := hyS 0 [120] rfl
  have HF13 := Lib.hid (HF12.out.trans F13)
  have B13 := HB12.out.fr F13 (fun h => h)
  have HA13 := Lib.hid (And.intro (HA12.out.1.old F13) (HA12.out.2.old F13))
  clear F13 HF12 HB12 HA12 HUI y0 y1 y2 z0 z1 z2 hxS hyS hst
  have z0 := B13.cell 0
  have z1 := B13.cell 1
  have z2 := B13.cell 2
  simp only [List.getElem?_toArray, List.getElem?_cons_succ, List.getElem?_cons_zero] at z0 z1 z2
  have F14 : Fr (fun _ => False) w13 (w13.alloc (.cells #[.int .u8 65, .int .u8 46, .int .u8 66, .int .u8 46] 5 (4, 5))) := (Fr.refl w13).alloc _
  have V14 := bytes_marked w13 #[.int .u8 65, .int .u8 46, .int .u8 66, .int .u8 46] (4, 5) [65, 46, 66, 46] (by rfl) 4 rfl (by decide)
  have hcv : (Go.convert 23 23 (.slice (some ⟨w13.heap.size, 0, none⟩) 4 4)).run Tryz.prog (w13.alloc (.cells #[.int .u8 65, .int .u8 46, .int .u8 66, .int .u8 46] 5)) = .ok (.slice (some ⟨w13.heap.size, 0, none⟩) 4 4) (w13.alloc (.cells #[.int .u8 65, .int .u8 46, .int .u8 66, .int .u8 46] 5 (4, 5))) := Lib.run_convert_bytes_const (P := Tryz.prog) w13 23 5 #[.int .u8 65, .int .u8 46, .int .u8 66, .int .u8 46] 4 4 Tryz.underlying23 Tryz.underlying5
  have HSM := genSame_any (.agg #[.int .i64 2, .slice ab 3 cb, .slice an 0 cn]) (.agg #[.int .i64 2, .slice (some ⟨w13.heap.size, 0, none⟩) 4 4, .slice none 0 0]) ⟨2, [97, 46, 98], []⟩ ⟨2, [65, 46, 66, 46], []⟩ (w13.alloc (.cells #[.int .u8 65, .int .u8 46, .int .u8 66, .int .u8 46] 5 (4, 5))) ⟨_, _, rfl, HA13.out.1.old F14, HA13.out.2.old F14⟩ ⟨_, _, rfl, V14, (name_nil (fun _ => True) _).now⟩ ⟨by simp, by simp⟩ ⟨by simp, by simp⟩ (HE.out.old (HF13.out.trans F14))
  rw [show genSameS ⟨2, [97, 46, 98], []⟩ ⟨2, [65, 46, 66, 46], []⟩ = true from by kernel_rfl] at HSM
  have HSI := Lib.hid HSM
  have HF14 := Lib.hid (HF13.out.trans F14)
  have HS0 := Lib.hid (F14.cell s0 (fun h => h))
  clear F14 V14 HSM HF13 HA13 B13
  go_wp2_with fail
  refine HSI.out.mono ?_
  rintro e w15 ⟨rfl, F15⟩
  have s1 := F15.cell HS0.out (fun h => h)
  rw [Nat.add_zero] at s1
  have HF15 := Lib.hid (HF14.out.trans F15)
  clear s0 z0 z1 z2 F15
  go_wp2_with fail
  go_ret
  exact ⟨rfl, HF15.out⟩
end Go.Proofs.YtacekpdjapgfcaaGreatDoor

namespace Go.Proofs.YtacekpdjapgfcaaGreatDoor
open Go Go.RowKit Go.Q
theorem gens_self (v u : Value) (l : List Gen) (w : World) (h : Gens w v l) (hu : Gens w u l) :
    Calls Tryz.prog 26 #[v, u] w fun e w' => e = .returned (.bool true) ∧ Fr (fun _ => False) w w' := by
  have := r15Like_any v u l l w h hu
  rwa [decide_eq_true rfl] at this
theorem like_two (W : World) (g : Gen) (v1 v2 u1 u2 : Value) (h1 : Bytes W v1 g.b) (h2 : NameAt W v2 g.n) (h3 : Bytes W u1 g.b) (h4 : NameAt W u2 g.n) :
    Calls Tryz.prog 26 #[.slice (some ⟨W.heap.size, 0, none⟩) 1 1, .slice (some ⟨W.heap.size + 1, 0, none⟩) 1 1] ((W.alloc (.cells #[.int .i64 g.k, v1, v2] 46)).alloc (.cells #[.int .i64 g.k, u1, u2] 46)) fun e w' => e = .returned (.bool true) ∧ Fr (fun _ => False) W w' := by
  have F1 : Fr (fun _ => False) W (W.alloc (.cells #[.int .i64 g.k, v1, v2] 46)) := (Fr.refl W).alloc _
  have F2 := F1.alloc (.cells #[.int .i64 g.k, u1, u2] 46)
  have B1 := (Blk.new W 46 #[.int .i64 g.k, v1, v2]).alloc (.cells #[.int .i64 g.k, u1, u2] 46)
  have B2 := Blk.new (W.alloc (.cells #[.int .i64 g.k, v1, v2] 46)) 46 #[.int .i64 g.k, u1, u2]
  rw [World.size_alloc] at B2
  exact (gens_self _ _ [g] _ (gens_one B1 (h1.old F2) (h2.old F2)) (gens_one B2 (h3.old F2) (h4.old F2))).mono fun _ _ ⟨h, F⟩ => ⟨h, F2.trans F⟩
theorem like_owt (W : World) (g : Gen) (v1 v2 u1 u2 : Value) (h1 : Bytes W v1 g.b) (h2 : NameAt W v2 g.n) (h3 : Bytes W u1 g.b) (h4 : NameAt W u2 g.n) :
    Calls Tryz.prog 26 #[.slice (some ⟨W.heap.size + 1, 0, none⟩) 1 1, .slice (some ⟨W.heap.size, 0, none⟩) 1 1] ((W.alloc (.cells #[.int .i64 g.k, u1, u2] 46)).alloc (.cells #[.int .i64 g.k, v1, v2] 46)) fun e w' => e = .returned (.bool true) ∧ Fr (fun _ => False) W w' := by
  have F1 : Fr (fun _ => False) W (W.alloc (.cells #[.int .i64 g.k, u1, u2] 46)) := (Fr.refl W).alloc _
  have F2 := F1.alloc (.cells #[.int .i64 g.k, v1, v2] 46)
  have B1 := (Blk.new W 46 #[.int .i64 g.k, u1, u2]).alloc (.cells #[.int .i64 g.k, v1, v2] 46)
  have B2 := Blk.new (W.alloc (.cells #[.int .i64 g.k, u1, u2] 46)) 46 #[.int .i64 g.k, v1, v2]
  rw [World.size_alloc] at B2
  exact (gens_self _ _ [g] _ (gens_one B2 (h1.old F2) (h2.old F2)) (gens_one B1 (h3.old F2) (h4.old F2))).mono fun _ _ ⟨h, F⟩ => ⟨h, F2.trans F⟩
theorem of_late (W : World) (u u1 u2 : Value) (g : Gen) (h : GenAt W u g) (hs : g.n.length ≤ 1000000 ∧ ∀ r ∈ g.n, r.length ≤ 1000000) :
    Calls Tryz.prog 27 #[u] (W.alloc (.cells #[.int .i64 g.k, u1, u2] 46)) fun e w' => (∃ ab cb an cn, e = .returned (.agg #[.int .i64 g.k, .slice ab g.b.length cb, .slice an g.n.length cn]) ∧ Bytes w' (.slice ab g.b.length cb) g.b ∧ NameAt w' (.slice an g.n.length cn) g.n) ∧ Blk w' W.heap.size 46 #[.int .i64 g.k, u1, u2] ∧ Fr (fun _ => False) W w' :=
  (lawGOf_any u g _ _ h ((Fr.refl W).alloc _) hs.1 hs.2).mono fun _ _ ⟨⟨ab, cb, an, cn, h1, h2⟩, F⟩ =>
    ⟨⟨ab, cb, an, cn, h1, h2.now⟩, (Blk.new W 46 #[.int .i64 g.k, u1, u2]).fr F (fun h => h), ((Fr.refl W).alloc _).trans F⟩
theorem like_late (W : World) (s : Nat) (g : Gen) (v1 v2 u1 u2 : Value) (B : Blk W s 46 #[.int .i64 g.k, u1, u2]) (h1 : Bytes W v1 g.b) (h2 : NameAt W v2 g.n) (h3 : Bytes W u1 g.b) (h4 : NameAt W u2 g.n) :
    Calls Tryz.prog 26 #[.slice (some ⟨W.heap.size, 0, none⟩) 1 1, .slice (some ⟨s, 0, none⟩) 1 1] (W.alloc (.cells #[.int .i64 g.k, v1, v2] 46)) fun e w' => e = .returned (.bool true) ∧ Fr (fun _ => False) W w' := by
  have F1 : Fr (fun _ => False) W (W.alloc (.cells #[.int .i64 g.k, v1, v2] 46)) := (Fr.refl W).alloc _
  exact (gens_self _ _ [g] _ (gens_one (Blk.new W 46 #[.int .i64 g.k, v1, v2]) (h1.old F1) (h2.old F1)) (gens_one (B.alloc _) (h3.old F1) (h4.old F1))).mono fun _ _ ⟨h, F⟩ => ⟨h, F1.trans F⟩
end Go.Proofs.YtacekpdjapgfcaaGreatDoor

namespace Go.Q
open Go
def b256 : Nat → Nat → List UInt8
  | 0, _ => []
  | f + 1, n => if n = 0 then [] else b256 f (n / 256) ++ [UInt8.ofNat (n % 256)]
theorem beS_snoc (l : List UInt8) (x : UInt8) : beS (l ++ [x]) = beS l * 256 + x.toNat := by simp [beS, List.foldl_append]
theorem b256_val : ∀ (f n : Nat), n < 256 ^ f → beS (b256 f n) = n
  | 0, n, h => by simp at h; subst h; rfl
  | f + 1, n, h => by
    unfold b256
    split
    · rename_i h0; subst h0; rfl
    · rw [beS_snoc, b256_val f (n / 256) (by rw [Nat.pow_succ] at h; omega), u8 (n % 256) (by omega)]
      omega
theorem b256_len : ∀ (f n : Nat), (b256 f n).length ≤ f
  | 0, _ => by simp [b256]
  | f + 1, n => by
    unfold b256
    split
    · simp
    · have := b256_len f (n / 256)
      rw [List.length_append, List.length_singleton]
      omega
theorem b256_head : ∀ (f n : Nat), n < 256 ^ f → ∀ x, (b256 f n)[0]? = some x → x ≠ 0
  | 0, n, h, x, hx => by simp [b256] at hx
  | f + 1, n, h, x, hx => by
    unfold b256 at hx
    split at hx
    · simp at hx
    · rename_i hn
      by_cases h0 : n / 256 = 0
      · rw [h0] at hx
        have e : b256 f 0 = [] := by cases f <;> simp [b256]
        rw [e] at hx
        simp at hx
        subst hx
        intro e
        have := congrArg UInt8.toNat e
        rw [u8 (n % 256) (by omega)] at this
        simp at this
        omega
      · have hl : 0 < (b256 f (n / 256)).length := by
          rcases Nat.eq_zero_or_pos (b256 f (n / 256)).length with h1 | h1
          · have := b256_val f (n / 256) (by rw [Nat.pow_succ] at h; omega)
            rw [List.length_eq_zero_iff.1 h1] at this
            exact absurd this.symm h0
          · exact h1
        rw [List.getElem?_append_left hl] at hx
        exact b256_head f (n / 256) (by rw [Nat.pow_succ] at h; omega) x hx
def decVal : List Nat → Nat
  | [] => 0
  | x :: t => x + 10 * decVal t
theorem decVal_append : ∀ a b : List Nat, decVal (a ++ b) = decVal a + 10 ^ a.length * decVal b
  | [], b => by simp [decVal]
  | x :: t, b => by
    have ih := decVal_append t b
    simp only [List.cons_append, decVal, ih, List.length_cons, Nat.pow_succ, Nat.mul_add]
    rw [← Nat.mul_assoc, Nat.mul_comm (10 ^ t.length) 10]
    omega
def mulGo : Nat → List Nat → List Nat × Nat
  | c, [] => ([], c)
  | c, x :: t => (((256 * x + c) % 10) :: (mulGo ((256 * x + c) / 10) t).1, (mulGo ((256 * x + c) / 10) t).2)
theorem mulGo_snoc : ∀ (c : Nat) (l : List Nat) (x : Nat), mulGo c (l ++ [x]) = ((mulGo c l).1 ++ [(256 * x + (mulGo c l).2) % 10], (256 * x + (mulGo c l).2) / 10)
  | c, [], x => by simp [mulGo]
  | c, y :: t, x => by
    have ih := mulGo_snoc ((256 * y + c) / 10) t x
    simp only [List.cons_append, mulGo, ih]
theorem mulGo_len : ∀ (c : Nat) (l : List Nat), (mulGo c l).1.length = l.length
  | c, [] => rfl
  | c, x :: t => by simp only [mulGo, List.length_cons, mulGo_len]
theorem mulGo_val : ∀ (c : Nat) (l : List Nat), decVal (mulGo c l).1 + 10 ^ l.length * (mulGo c l).2 = 256 * decVal l + c
  | c, [] => by simp [mulGo, decVal]
  | c, x :: t => by
    have ih := mulGo_val ((256 * x + c) / 10) t
    simp only [mulGo, decVal, List.length_cons, Nat.pow_succ]
    rw [show 10 ^ t.length * 10 * (mulGo ((256 * x + c) / 10) t).2 = 10 * (10 ^ t.length * (mulGo ((256 * x + c) / 10) t).2) from by rw [Nat.mul_comm (10 ^ t.length) 10, Nat.mul_assoc]]
    generalize 10 ^ t.length * (mulGo ((256 * x + c) / 10) t).2 = y at *
    omega
theorem mulGo_small : ∀ (c : Nat) (l : List Nat), c ≤ 255 → (∀ x ∈ l, x < 10) → (mulGo c l).2 ≤ 255 ∧ ∀ x ∈ (mulGo c l).1, x < 10
  | c, [], hc, _ => ⟨hc, fun x hx => by cases hx⟩
  | c, x :: t, hc, h => by
    have hx := h x (by simp)
    obtain ⟨h1, h2⟩ := mulGo_small ((256 * x + c) / 10) t (by omega) (fun y hy => h y (by simp [hy]))
    refine ⟨h1, fun y hy => ?_⟩
    simp only [mulGo, List.mem_cons] at hy
    rcases hy with rfl | hy
    · omega
    · exact h2 y hy
def tailD : Nat → Nat → List Nat
  | 0, _ => []
  | f + 1, c => if c = 0 then [] else c % 10 :: tailD f (c / 10)
theorem tail_val (c : Nat) (h : c ≤ 255) : decVal (tailD 3 c) = c := by
  simp only [tailD]
  split
  · simp [decVal]; omega
  · split
    · simp [decVal]; omega
    · split
      · simp [decVal]; omega
      · simp [decVal]; omega
theorem tail_digits : ∀ (f c : Nat), ∀ x ∈ tailD f c, x < 10
  | 0, _, x, hx => by cases hx
  | f + 1, c, x, hx => by
    unfold tailD at hx
    split at hx
    · cases hx
    · rcases List.mem_cons.1 hx with rfl | hx
      · omega
      · exact tail_digits f (c / 10) x hx
theorem tail_len : ∀ (f c : Nat), (tailD f c).length ≤ f
  | 0, _ => by simp [tailD]
  | f + 1, c => by
    unfold tailD
    split
    · simp
    · have := tail_len f (c / 10)
      simp only [List.length_cons]
      omega
theorem tail_last (c : Nat) (h : c ≤ 255) : ∀ x, (tailD 3 c).getLast? = some x → x ≠ 0 := by
  intro x hx
  simp only [tailD] at hx
  split at hx
  · cases hx
  · split at hx
    · simp at hx; omega
    · split at hx
      · simp at hx; omega
      · simp at hx; omega
def stepD (d : List Nat) (x : UInt8) : List Nat := (mulGo x.toNat d).1 ++ tailD 3 (mulGo x.toNat d).2
def decGood (d : List Nat) : Prop := (∀ x ∈ d, x < 10) ∧ d ≠ [] ∧ (d = [0] ∨ ∀ x, d.getLast? = some x → x ≠ 0)
theorem stepD_good {d : List Nat} (h : decGood d) (x : UInt8) : decGood (stepD d x) ∧ decVal (stepD d x) = 256 * decVal d + x.toNat ∧ (stepD d x).length ≤ d.length + 3 := by
  obtain ⟨h1, h2, h3⟩ := h
  have hx := x.toNat_lt
  obtain ⟨g1, g2⟩ := mulGo_small x.toNat d (by omega) h1
  have hv := mulGo_val x.toNat d
  have hl := mulGo_len x.toNat d
  refine ⟨⟨?_, ?_, ?_⟩, ?_, ?_⟩
  · intro y hy
    rcases List.mem_append.1 hy with hy | hy
    · exact g2 y hy
    · exact tail_digits _ _ y hy
  · intro e
    have := congrArg List.length e
    simp only [stepD, List.length_append, hl, List.length_nil] at this
    have h4 := List.length_pos_iff.2 h2
    omega
  · obtain ⟨t, z, rfl⟩ : ∃ t z, d = t ++ [z] := ⟨d.dropLast, d.getLast h2, (List.dropLast_concat_getLast h2).symm⟩
    by_cases h0 : (mulGo x.toNat (t ++ [z])).2 = 0
    · have e : stepD (t ++ [z]) x = (mulGo x.toNat (t ++ [z])).1 := by unfold stepD; rw [h0]; simp [tailD]
      rw [e]
      rw [mulGo_snoc] at h0 ⊢
      simp only at h0 ⊢
      have hz : z = 0 := by omega
      rcases h3 with h3 | h3
      · have ht : t = [] := by
          have := congrArg List.length h3
          simp at this
          exact this
        subst ht
        subst hz
        simp only [mulGo, List.nil_append] at h0 ⊢
        by_cases hx0 : x.toNat = 0
        · exact .inl (by simp [hx0])
        · exact .inr (fun y hy => by simp at hy; omega)
      · exact absurd hz (h3 z (by simp))
    · refine .inr (fun y hy => ?_)
      unfold stepD at hy
      have hne : tailD 3 (mulGo x.toNat (t ++ [z])).2 ≠ [] := by
        simp only [tailD, if_neg h0]
        exact List.cons_ne_nil _ _
      rw [List.getLast?_append] at hy
      cases hq : (tailD 3 (mulGo x.toNat (t ++ [z])).2).getLast? with
      | none => exact absurd (List.getLast?_eq_none_iff.1 hq) hne
      | some q =>
        rw [hq] at hy
        simp only [Option.some_or, Option.some.injEq] at hy
        subst hy
        exact tail_last _ g1 _ hq
  · unfold stepD
    rw [decVal_append, tail_val _ g1, hl]
    exact hv
  · unfold stepD
    rw [List.length_append, hl]
    have := tail_len 3 (mulGo x.toNat d).2
    omega
def digsS (b : List UInt8) : List Nat := b.foldl stepD [0]
theorem digs_good (b : List UInt8) : decGood (digsS b) ∧ decVal (digsS b) = beS b ∧ (digsS b).length ≤ 1 + 3 * b.length := by
  induction hn : b.length generalizing b with
  | zero =>
    obtain rfl := List.length_eq_zero_iff.1 hn
    exact ⟨⟨by simp [digsS], by simp [digsS], .inl rfl⟩, rfl, by simp [digsS]⟩
  | succ n ih =>
    have hne : b ≠ [] := fun e => by simp [e] at hn
    obtain ⟨t, x, rfl⟩ : ∃ t x, b = t ++ [x] := ⟨b.dropLast, b.getLast hne, (List.dropLast_concat_getLast hne).symm⟩
    obtain ⟨h1, h2, h3⟩ := ih t (by simpa using hn)
    have e : digsS (t ++ [x]) = stepD (digsS t) x := by simp [digsS, List.foldl_append]
    rw [e]
    obtain ⟨g1, g2, g3⟩ := stepD_good h1 x
    refine ⟨g1, by rw [g2, h2, beS_snoc]; omega, by simp at hn; omega⟩
theorem digsS_take {b : List UInt8} {j : Nat} {x : UInt8} (h : b[j]? = some x) : digsS (b.take (j + 1)) = stepD (digsS (b.take j)) x := by
  unfold digsS
  rw [List.take_add_one, h]
  simp [List.foldl_append]
def decText (d : List Nat) : List UInt8 := d.reverse.map fun x => UInt8.ofNat (48 + x)
theorem dec_small {n : Nat} (h : n < 10) : Lib.decDigits n = [UInt8.ofNat (48 + n)] := by rw [Lib.decDigits, dif_pos h]
theorem dec_big {n : Nat} (h : ¬ n < 10) : Lib.decDigits n = Lib.decDigits (n / 10) ++ [UInt8.ofNat (48 + n % 10)] := by rw [Lib.decDigits, dif_neg h]
theorem decText_val : ∀ d : List Nat, decGood d → decText d = Lib.decDigits (decVal d)
  | [], h => absurd rfl h.2.1
  | [x], h => by
    have hx := h.1 x (by simp)
    have e : decVal [x] = x := by simp [decVal]
    rw [e, dec_small hx]
    rfl
  | x :: y :: t, h => by
    have hx := h.1 x (by simp)
    have hl : ∀ z, (x :: y :: t).getLast? = some z → z ≠ 0 := by
      rcases h.2.2 with h3 | h3
      · cases h3
      · exact h3
    have hg : decGood (y :: t) := ⟨fun z hz => h.1 z (by simp [List.mem_cons.1 hz]), by simp, .inr (fun z hz => hl z (by rw [List.getLast?_cons_cons]; exact hz))⟩
    have ih := decText_val (y :: t) hg
    have hpos : decVal (y :: t) ≠ 0 := by
      have : ∀ l : List Nat, l ≠ [] → (∀ z, l.getLast? = some z → z ≠ 0) → decVal l ≠ 0 := by
        intro l
        induction l with
        | nil => intro h; exact absurd rfl h
        | cons a s ih =>
          intro _ h
          cases s with
          | nil => simp only [decVal]; have := h a rfl; omega
          | cons b r =>
            have := ih (by simp) (fun z hz => h z (by rw [List.getLast?_cons_cons]; exact hz))
            simp only [decVal] at this ⊢
            omega
      exact this _ (by simp) (fun z hz => hl z (by rw [List.getLast?_cons_cons]; exact hz))
    have e1 : decText (x :: y :: t) = decText (y :: t) ++ [UInt8.ofNat (48 + x)] := by simp [decText]
    have e2 : decVal (x :: y :: t) = x + 10 * decVal (y :: t) := rfl
    rw [e1, ih, e2]
    generalize decVal (y :: t) = v at *
    rw [dec_big (n := x + 10 * v) (by omega), show (x + 10 * v) / 10 = v from by omega, show (x + 10 * v) % 10 = x from by omega]
theorem num_text {n : Int} (h0 : 0 ≤ n) (h1 : n ≤ 4294967295) : decText (digsS (b256 8 n.toNat)) = Lib.itoa n := by
  obtain ⟨g1, g2, -⟩ := digs_good (b256 8 n.toNat)
  rw [decText_val _ g1, g2, b256_val 8 n.toNat (Nat.lt_of_le_of_lt (by omega : n.toNat ≤ 4294967295) (by decide))]
  unfold Lib.itoa
  rw [if_neg (by omega)]
end Go.Q
