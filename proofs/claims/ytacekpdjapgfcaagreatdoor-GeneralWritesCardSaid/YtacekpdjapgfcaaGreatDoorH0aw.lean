/-
  Merged by program: XR14T XR14K XR15Ky XGwW.
-/
import Derived.Test.YtacekpdjapgfcaaGreatDoorH0ai
import Derived.Test.YtacekpdjapgfcaaGreatDoorH0av
import Derived.Test.YtacekpdjapgfcaaGreatDoorH0ak
import Derived.Test.YtacekpdjapgfcaaGreatDoorH0al
import Derived.Test.YtacekpdjapgfcaaGreatDoorH0at
import Derived.Laws.Cover1
import Derived.Test.YtacekpdjapgfcaaGreatDoorH0au
import Derived.Test.YtacekpdjapgfcaaGreatDoorH0ap
import Derived.Test.YtacekpdjapgfcaaGreatDoorH0ao
import Derived.Test.YtacekpdjapgfcaaGreatDoorH0as
namespace Go.Q
open Go Go.RowKit
theorem textRead_err {l : List UInt8} {e : Int} (h : textReadS l = .error e) : e ≠ 0 := by
  unfold textReadS at h
  split at h
  · rename_i e' he
    cases h
    exact Go.Proofs.YtacekpdjapgfcaaGreatDoor.readS_err he
  · split at h
    · cases h; decide
    · split at h
      · cases h; decide
      · split at h
        · cases h
        · cases h; decide
theorem oid_arcs {o : List Int} (ho : oidOk o = true) : ∀ n ∈ o, 0 ≤ n ∧ n ≤ 2147483647 := by
  intro n hn
  simp only [oidOk, Bool.and_eq_true, decide_eq_true_eq] at ho
  have := List.all_eq_true.1 ho.1.2 n hn
  simp only [arcOk, decide_eq_true_eq] at this
  omega
end Go.Q
namespace Go.Proofs.YtacekpdjapgfcaaGreatDoor
open Go Go.RowKit Go.Q
set_option linter.unusedSimpArgs false
set_option maxRecDepth 20000 in
set_option maxHeartbeats 1000000 in
theorem r14Text_any (v : Value) (b : List UInt8) (w : World) (h : Bytes w v b) (hl : b.length ≤ 16777216) :
    Calls Tryz.prog 184 #[v] w fun e w' => WordsOut w' b e ∧ Fr (fun _ => False) w w' := by
  obtain ⟨a, cap, rfl, -⟩ := h.form
  obtain ⟨z, hz⟩ : ∃ z, z = w.heap.size := ⟨_, rfl⟩
  have BZ := Blk.new w 249 #[.int .i64 0, .slice none 0 0]
  have F0 : Fr (fun _ => False) w (w.alloc (.cells #[.int .i64 0, .slice none 0 0] 249)) := (Fr.refl w).alloc _
  rw [← hz] at BZ
  have hzw : ∀ k, k < w.heap.size → k = z → False := fun k hk e => by omega
  have HZ := Lib.hid hz
  have hT := r06Read_any _ b 0 w _ h F0 (by omega) hl
  unfold RTextOut at hT
  rw [List.drop_zero] at hT
  have HT := Lib.hid hT
  have HF0 := Lib.hid F0
  have HZW := Lib.hid hzw
  clear h hz F0 hzw hT
  go_enter Tryz.func184, Tryz.ntmps184
  go_upto_region 1 with fail
  rw [← HZ.out]
  generalize (w.alloc (.cells #[.int .i64 0, .slice none 0 0] 249)) = w0 at *
  go_wp2_with fail
  refine HT.out.mono ?_
  rintro e w1 ⟨hout, F⟩
  replace BZ := BZ.fr F (fun h => h)
  have HF := Lib.hid (HF0.out.trans F)
  clear F HF0 HT
  cases hr : textReadS b with
  | error x =>
    rw [hr] at hout
    subst hout
    have hx := textRead_err hr
    have hx1 : (x == 0) = false := beq_eq_false_iff_ne.2 hx
    have HRR := Lib.hid hr
    go_upto_region 2 with fail
    have BZ4 := BZ.alloc (.cells #[.int .i64 0, .slice none 0 0] 249)
    have BY4 := Blk.new w1 249 #[.int .i64 0, .slice none 0 0]
    have F4 : Fr (fun _ => False) w1 (w1.alloc (.cells #[.int .i64 0, .slice none 0 0] 249)) := (Fr.refl w1).alloc _
    obtain ⟨y, hy⟩ : ∃ y, y = w1.heap.size := ⟨_, rfl⟩
    rw [← hy] at BY4 ⊢
    clear hy
    generalize (w1.alloc (.cells #[.int .i64 0, .slice none 0 0] 249)) = w4 at *
    have y0 := BY4.cell 0
    have y1 := BY4.cell 1
    simp only [List.getElem?_toArray, List.getElem?_cons_succ, List.getElem?_cons_zero] at y0 y1
    have SZ := BZ4.cell
    have ZZ := BZ4.frozen
    obtain ⟨BZ5, F5⟩ := set2 BZ4 (.int .i64 0) (.slice none 0 0)
    have n0 := BZ5.cell 0
    have n1 := BZ5.cell 1
    simp only [List.getElem?_toArray, List.getElem?_cons_succ, List.getElem?_cons_zero] at n0 n1
    have HF5 := Lib.hid ((HF.out.trans F4).trans' F5 HZW.out)
    clear hr F4 BZ BZ4 BZ5 F5 BY4 hx
    go_wp2_with fail
    refine bodyPost_ret (v := .tuple #[.agg #[.int .i64 0, .slice none 0 0], .bool false]) (by simp [results, Tryz.results184, go_sem, n0, n1]) rfl ⟨?_, HF5.out⟩
    unfold WordsOut
    rw [HRR.out]
  | ok kbn =>
    obtain ⟨k, t, n⟩ := kbn
    rw [hr] at hout
    obtain ⟨u, rfl, hu⟩ := hout
    have HRR := Lib.hid hr
    obtain ⟨au, cu, rfl, -⟩ := hu.form
    go_upto_region 2 with fail
    have BZ4 := BZ.alloc (.cells #[.int .i64 k, .slice au t.length cu] 249)
    have BY4 := Blk.new w1 249 #[.int .i64 k, .slice au t.length cu]
    have F4 : Fr (fun _ => False) w1 (w1.alloc (.cells #[.int .i64 k, .slice au t.length cu] 249)) := (Fr.refl w1).alloc _
    obtain ⟨y, hy⟩ : ∃ y, y = w1.heap.size := ⟨_, rfl⟩
    rw [← hy] at BY4 ⊢
    clear hy
    generalize (w1.alloc (.cells #[.int .i64 k, .slice au t.length cu] 249)) = w4 at *
    have y0 := BY4.cell 0
    have y1 := BY4.cell 1
    simp only [List.getElem?_toArray, List.getElem?_cons_succ, List.getElem?_cons_zero] at y0 y1
    have SZ := BZ4.cell
    have ZZ := BZ4.frozen
    obtain ⟨BZ5, F5⟩ := set2 BZ4 (.int .i64 k) (.slice au t.length cu)
    have n0 := BZ5.cell 0
    have n1 := BZ5.cell 1
    simp only [List.getElem?_toArray, List.getElem?_cons_succ, List.getElem?_cons_zero] at n0 n1
    have HF5 := Lib.hid ((HF.out.trans F4).trans' F5 HZW.out)
    have HB := Lib.hid (hu.old HF5.out)
    clear hr F4 BZ BZ4 BZ5 F5 BY4 hu
    go_wp2_with fail
    refine bodyPost_ret (v := .tuple #[.agg #[.int .i64 k, .slice au t.length cu], .bool true]) (by simp [results, Tryz.results184, go_sem, n0, n1]) rfl ⟨?_, HF5.out⟩
    unfold WordsOut
    rw [HRR.out]
    exact ⟨_, rfl, HB.out⟩
set_option maxRecDepth 20000 in
set_option maxHeartbeats 1000000 in
theorem r14partKey_any (x y : Value) (o : List Int) (b : List UInt8) (w : World) (hx : Ints w x o) (hy : Bytes w y b) (ho : oidOk o = true) (hl : b.length ≤ 10000000) :
    Calls Tryz.prog 143 #[.agg #[x, y]] w fun e w' => e = .returned (str (attrKeyS o b)) ∧ Fr (fun _ => False) w w' := by
  obtain ⟨ax, cx, rfl, -⟩ := Ints.form hx
  obtain ⟨ay, cy, rfl, -⟩ := Vals.form hy
  obtain ⟨z, hz⟩ : ∃ z, z = w.heap.size := ⟨_, rfl⟩
  have BZ := Blk.new w 107 #[.slice ax o.length cx, .slice ay b.length cy]
  have F0 : Fr (fun _ => False) w (w.alloc (.cells #[.slice ax o.length cx, .slice ay b.length cy] 107)) := (Fr.refl w).alloc _
  have HT := Lib.hid (r04Text_any _ o _ (hx.old F0) (oid_arcs ho) (by have := (nums_ok ho).2.1; omega))
  have HY := Lib.hid (hy.old F0)
  rw [← hz] at BZ
  have HF0 := Lib.hid F0
  have HZ := Lib.hid hz
  have hk : attrKeyS o b = oidTextS o ++ (match textReadS b with | .ok (k, t, _) => [61, 116] ++ hexS (foldKeyS k t) | .error _ => [61, 98] ++ hexS b) := rfl
  have HK := Lib.hid hk
  have ho0 := Lib.hid ho
  clear hx hy F0 hz ho hk
  have hol : o.length ≤ 32 := (nums_ok ho0.out).2.1
  have hot : (oidTextS o).length ≤ 1000 := by
    have hall := ho0.out
    simp only [oidOk, Bool.and_eq_true, decide_eq_true_eq] at hall
    have := oidText_len (o := o) (fun n hn => by
      have := List.all_eq_true.1 hall.1.2 n hn
      simp only [arcOk, decide_eq_true_eq] at this
      omega)
    omega
  have hos : (ByteArray.mk (oidTextS o).toArray).size = (oidTextS o).length := by simp [ByteArray.size]
  generalize oidTextS o = ot at *
  go_enter Tryz.func143, Tryz.ntmps143
  go_upto_region 1 with fail
  rw [← HZ.out]
  generalize (w.alloc (.cells #[.slice ax o.length cx, .slice ay b.length cy] 107)) = w0 at *
  have z0 := BZ.cell 0
  simp at z0
  go_wp2_with fail
  refine HT.out.mono ?_
  rintro e w1 ⟨rfl, F1⟩
  have BZ1 := BZ.fr F1 (fun h => h)
  have z1 := BZ1.cell 1
  simp at z1
  have HY1 := Lib.hid (HY.out.old F1)
  have HF1 := Lib.hid (HF0.out.trans F1)
  clear HT HY HF0 F1 z0 BZ
  go_wp2_with fail
  refine (r14Text_any _ b w1 HY1.out (by omega)).mono ?_
  rintro e w2 ⟨hout, F2⟩
  have BZ2 := BZ1.fr F2 (fun h => h)
  have HY2 := Lib.hid (HY1.out.old F2)
  have HF2 := Lib.hid (HF1.out.trans F2)
  unfold WordsOut at hout
  clear HY1 HF1 F2 z1 BZ1
  cases hr : textReadS b with
  | error x =>
    rw [hr] at hout
    subst hout
    have F3 : Fr (fun _ => False) w2 (w2.alloc (.cells #[.int .i64 0, .slice none 0 0] 249)) := (Fr.refl w2).alloc _
    have BZ3 := BZ2.fr F3 (fun h => h)
    have z1 := BZ3.cell 1
    simp only [List.getElem?_toArray, List.getElem?_cons_succ, List.getElem?_cons_zero] at z1
    have HX := Lib.hid (r01Hex_any _ b _ (HY2.out.old F3) (by omega))
    have HF3 := Lib.hid (HF2.out.trans F3)
    have hkk := HK.out
    rw [hr] at hkk
    have HKK := Lib.hid hkk
    have hhl := hexS_len b
    have hhs : (ByteArray.mk (hexS b).toArray).size = (hexS b).length := by simp [ByteArray.size]
    clear hr hkk HY2 HF2 F3 BZ2 BZ3
    generalize hexS b = hb at *
    go_wp2_with fail
    refine HX.out.mono ?_
    rintro e w4 ⟨rfl, F4⟩
    go_wp2_with fail
    go_ret
    refine ⟨congrArg (fun x : ByteArray => Ending.returned (.string x)) ?_, HF3.out.trans F4⟩
    rw [HKK.out, show ot ++ ([61, 98] ++ hb) = ((ot ++ [61]) ++ [98]) ++ hb from by simp, ← ba_cat, ← ba_cat, ← ba_cat]
  | ok kbn =>
    obtain ⟨k, t, n⟩ := kbn
    rw [hr] at hout
    obtain ⟨u, rfl, hu⟩ := hout
    obtain ⟨hrt, htl⟩ := textRead_ok hr
    obtain ⟨au, cu, rfl, -⟩ := hu.form
    have F3 : Fr (fun _ => False) w2 (w2.alloc (.cells #[.int .i64 k, .slice au t.length cu] 249)) := (Fr.refl w2).alloc _
    have HX := Lib.hid (r13Key_any k _ t _ (hu.old F3) hrt (by omega))
    have HF3 := Lib.hid (HF2.out.trans F3)
    have hkk := HK.out
    rw [hr] at hkk
    simp only at hkk
    have HKK := Lib.hid hkk
    have hfl := foldKey_len k t
    clear hr hkk HY2 HF2 F3 BZ2 hu hrt
    generalize foldKeyS k t = fk at *
    go_upto_region 4 with fail
    have BY := Blk.new w2 249 #[.int .i64 k, .slice au t.length cu]
    obtain ⟨y, hy⟩ : ∃ y, y = w2.heap.size := ⟨_, rfl⟩
    rw [← hy] at BY ⊢
    clear hy
    generalize (w2.alloc (.cells #[.int .i64 k, .slice au t.length cu] 249)) = w3 at *
    have y0 := BY.cell 0
    have y1 := BY.cell 1
    simp only [List.getElem?_toArray, List.getElem?_cons_succ, List.getElem?_cons_zero] at y0 y1
    go_wp2_with fail
    refine HX.out.mono ?_
    rintro e w4 ⟨rfl, F4⟩
    obtain ⟨cp, wc, hcv, hbv, FC, -⟩ := bytes_of_str w4 fk (by omega)
    have HXX := Lib.hid (r01Hex_any _ fk wc hbv (by omega))
    have HF4 := Lib.hid ((HF3.out.trans F4).trans FC)
    have hhl := hexS_len fk
    have hhs : (ByteArray.mk (hexS fk).toArray).size = (hexS fk).length := by simp [ByteArray.size]
    clear HX HF3 F4 hbv FC BY y0 y1
    generalize hexS fk = hb at *
    go_wp2_with fail
    refine HXX.out.mono ?_
    rintro e w5 ⟨rfl, F5⟩
    go_wp2_with fail
    go_ret
    refine ⟨congrArg (fun x : ByteArray => Ending.returned (.string x)) ?_, HF4.out.trans F5⟩
    rw [HKK.out, show ot ++ ([61, 116] ++ hb) = ((ot ++ [61]) ++ [116]) ++ hb from by simp, ← ba_cat, ← ba_cat, ← ba_cat]
end Go.Proofs.YtacekpdjapgfcaaGreatDoor

namespace Go.Proofs.YtacekpdjapgfcaaGreatDoor
open Go Go.RowKit Go.Q
set_option linter.unusedSimpArgs false
set_option maxRecDepth 20000 in
set_option maxHeartbeats 4000000 in
theorem r14Key_any (v : Value) (n : List (List Part)) (w : World) (h : NameAt w v n) (hf : ∀ r ∈ n, fewB r) (hok : nameOk n = true) :
    Calls Tryz.prog 96 #[v] w fun e w' => e = .returned (str (nameKeyS n)) ∧ Fr (fun _ => False) w w' := by
  have H := Lib.hid h
  obtain ⟨hn64, hrd⟩ := name_rdns hok
  have HRD := Lib.hid hrd
  obtain ⟨a, cap, rfl, hc, hm, -⟩ := h
  have hkl : ∀ k ∈ n.map rdnKeyS, k.length ≤ 2560017616 := fun k hk => by
    obtain ⟨r, hr, rfl⟩ := List.mem_map.1 hk
    exact rdnKey_len (hf r hr) (hrd r hr)
  have HPL := Lib.hid (joinF_len 47 2560017616 64 hkl (by rw [List.length_map]; exact hn64))
  have hJ : ∀ j, Lib.join ((n.map rdnKeyS).take j) [47] = Lib.join ((n.take j).map rdnKeyS) [47] := fun j => by rw [← List.map_take]
  have HNK := Lib.hid (show nameKeyS n = Lib.join ((n.map rdnKeyS).take n.length) [47] from by unfold nameKeyS; rw [List.take_of_length_le (by rw [List.length_map]; omega)])
  clear hkl hJ hok hrd
  go_enter Tryz.func96, Tryz.ntmps96
  go_wp2_with fail
  go_loopg [3, 4] n.length (fun g o i wr => ∃ j : Nat, g = n.length - j ∧ j ≤ n.length ∧ o = str (Lib.join ((n.map rdnKeyS).take j) [47]) ∧ i = .int .i64 j ∧ Fr (fun _ => False) w wr)
  case atStart => exact ⟨0, rfl, Nat.zero_le _, rfl, rfl, Fr.refl _⟩
  case round =>
    obtain ⟨j, hg, hj, rfl, rfl, F⟩ := hrel
    have HG := Lib.hid hg
    have HF := Lib.hid F
    obtain ⟨J, hJ⟩ : ∃ J, J = Lib.join ((n.map rdnKeyS).take j) [47] := ⟨_, rfl⟩
    have hJl : J.length ≤ 200000000000 := by rw [hJ]; have := HPL.out j; omega
    rw [← hJ]
    by_cases hjl : j < n.length
    · obtain ⟨a0, cap0, he, _, _, hx⟩ := H.out
      simp only [Value.slice.injEq, true_and] at he
      obtain ⟨rfl, rfl⟩ := he
      obtain ⟨b, off, rfl, hy⟩ := hx (by omega)
      obtain ⟨r, hr⟩ : ∃ r, n[j]? = some r := ⟨_, List.getElem?_eq_getElem hjl⟩
      obtain ⟨x, e0, hA⟩ := hy j r hr
      have hmem := List.mem_of_getElem? hr
      obtain ⟨hr16, hro⟩ := rdn_oids (HRD.out r hmem)
      have HRO := Lib.hid hro
      have HRF := Lib.hid (hf r hmem)
      obtain ⟨P, hP⟩ : ∃ P, P = if j = 0 then [] else J ++ [47] := ⟨_, rfl⟩
      have hnext : Lib.join ((n.map rdnKeyS).take (j + 1)) [47] = P ++ rdnKeyS r := by
        have := join_take 47 (ks := n.map rdnKeyS) (j := j) (k := rdnKeyS r) (by rw [List.getElem?_map, hr]; rfl)
        rw [this, hP, hJ]
      have hPl : P.length ≤ 200000000001 := by
        rw [hP]
        split
        · simp
        · rw [List.length_append]; simp; omega
      have HNX := Lib.hid hnext
      have HP := Lib.hid hP
      have HA := Lib.hid hA
      have HE0 := Lib.hid e0
      have HK2 := Lib.hid (show rdnKeyS r = Lib.join (keysS r) [43] from rfl)
      have hKl := keysS_len r
      have HNE := Lib.hid (fun c hc => keysS_next r c hc)
      have hkm : ∀ k ∈ keysS r, k.length ≤ 160001100 := fun k hk => by
        obtain ⟨p, hp, rfl⟩ := keysS_mem hk
        exact attrKey_len (hro p hp) (hf r hmem p hp)
      have HKM := Lib.hid hkm
      have HQL := Lib.hid (joinF_len 43 160001100 16 hkm (by omega))
      have r1 : (0 : Int) ≤ (j : Int) := by omega
      have r2 : (j : Int) < (n.length : Int) := by omega
      have hJ0 : j = 0 → J = [] := fun h => by rw [hJ, h]; simp [Lib.join]
      have HJ0 := Lib.hid hJ0
      clear hx hy hr hA hmem hro hP hnext hkm e0 hJ hg F hJ0
      obtain ⟨K, hK⟩ : ∃ K, K = keysS r := ⟨_, rfl⟩
      rw [← hK] at HK2 hKl HNE HKM HQL
      have hJs : (ByteArray.mk J.toArray).size = J.length := by simp [ByteArray.size]
      clear hK
      go_upto_region 5 with fail
      have hpos : j = 0 ∨ 0 < j := by omega
      rcases hpos with hj0 | hj0
      case' inl =>
        have q1 : decide ((0 : Int) < (j : Int)) = false := decide_eq_false (by omega)
        have q2 : decide (0 < j) = false := decide_eq_false (by omega)
        have hP0 : P = J := by rw [HP.out, if_pos hj0, HJ0.out hj0]
        clear HP HJ0 HPL hj0
        subst hP0
        go_upto_region 7 with fail
        clear q1 q2
      case' inr =>
        have q1 : (0 : Int) < (j : Int) := by omega
        have hP0 := HP.out
        rw [if_neg (by omega)] at hP0
        clear HP HJ0 HPL
        go_upto_region 7 with fail
        rw [show (Value.string ({ data := J.toArray } ++ { data := #[47] })) = str P from by rw [hP0]; exact congrArg Value.string (ba_cat _ _)]
        clear hP0 q1 hj0
      all_goals
        clear hJs hJl
        obtain ⟨wo, hwo⟩ : ∃ wo : World, wo = wr := ⟨_, rfl⟩
        obtain rfl := hwo
        go_wp2_with fail
        go_loopg [3, 5, 6] K.length (fun g o la an wr => ∃ c : Nat, g = K.length - c ∧ c ≤ K.length ∧ o = str (P ++ Lib.join (K.take c) [43]) ∧ la = str ((lastOf K c).getD []) ∧ an = .bool (lastOf K c).isSome ∧ Fr (fun _ => False) w wr)
        case atStart => exact ⟨0, rfl, Nat.zero_le _, by simp [Lib.join], rfl, rfl, HF.out⟩
        case round =>
          obtain ⟨c, hg, hcK, rfl, rfl, rfl, F⟩ := hrel
          have HG2 := Lib.hid hg
          have HF2 := Lib.hid F
          have hls := lastOf_isSome hcK
          have HLS := Lib.hid hls
          obtain ⟨lo, hlo⟩ : ∃ lo, lo = lastOf K c := ⟨_, rfl⟩
          have hN := HNE.out c hcK
          rw [← hlo] at hN HLS ⊢
          have HN2 := Lib.hid hN
          have HLO := Lib.hid hlo
          obtain ⟨Q, hQ⟩ : ∃ Q, Q = P ++ Lib.join (K.take c) [43] := ⟨_, rfl⟩
          have hQl : Q.length ≤ 300000000000 := by rw [hQ, List.length_append]; have := HQL.out c; omega
          rw [← hQ]
          have HQ := Lib.hid hQ
          obtain ⟨la, hla⟩ : ∃ la, la = lo.getD [] := ⟨_, rfl⟩
          obtain ⟨an, han⟩ : ∃ an, an = lo.isSome := ⟨_, rfl⟩
          rw [← hla, ← han]
          have HLA := Lib.hid hla
          have HAN := Lib.hid han
          clear hg F hls hN hlo hQ hla han
          obtain ⟨wo2, hwo⟩ : ∃ wo : World, wo = wr := ⟨_, rfl⟩
          obtain rfl := hwo
          go_wp2_with fail
          go_loopg [7, 8, 9] r.length (fun g nx fo k wr => ∃ i : Nat, g = r.length - i ∧ i ≤ r.length ∧ nx = str ((pickS lo (partKeys (r.take i))).getD []) ∧ fo = .bool (pickS lo (partKeys (r.take i))).isSome ∧ k = .int .i64 i ∧ Fr (fun _ => False) w wr)
          case atStart => exact ⟨0, rfl, Nat.zero_le _, rfl, rfl, rfl, HF2.out⟩
          case round =>
            obtain ⟨i, hg, hir, rfl, rfl, rfl, F⟩ := hrel
            have HG3 := Lib.hid hg
            have HF3 := Lib.hid F
            have e0 := F.cell HE0.out (fun h => h)
            obtain ⟨a1, c1, hxe, _, _, hx⟩ := HA.out.old F
            subst hxe
            obtain ⟨bo, hbo⟩ : ∃ bo, bo = pickS lo (partKeys (r.take i)) := ⟨_, rfl⟩
            rw [← hbo]
            have HBO := Lib.hid hbo
            obtain ⟨nx, hnx⟩ : ∃ nx, nx = bo.getD [] := ⟨_, rfl⟩
            obtain ⟨fo, hfo⟩ : ∃ fo, fo = bo.isSome := ⟨_, rfl⟩
            rw [← hnx, ← hfo]
            have HNX2 := Lib.hid hnx
            have HFO := Lib.hid hfo
            clear hg F hbo hnx hfo
            by_cases hil : i < r.length
            · obtain ⟨b1, o1, rfl, hy⟩ := hx (by omega)
              obtain ⟨p, hp⟩ : ∃ p, r[i]? = some p := ⟨_, List.getElem?_eq_getElem hil⟩
              obtain ⟨x, y, e1, e2, hpx, hpy⟩ := hy i p hp
              have hpm := List.mem_of_getElem? hp
              have HPK := Lib.hid (r14partKey_any x y p.o p.b wr hpx hpy (HRO.out p hpm) (HRF.out p hpm))
              have hst : pickS lo (partKeys (r.take (i + 1))) = pickStep lo bo (attrKeyS p.o p.b) := by rw [partKeys_snoc hp, pickS_snoc, HBO.out]
              have r3 : (0 : Int) ≤ (i : Int) := by omega
              have r4 : (i : Int) < (r.length : Int) := by omega
              obtain ⟨ax, cx, rfl, -⟩ := Ints.form hpx
              obtain ⟨ay, cy, rfl, -⟩ := Vals.form hpy
              have e1' : wr.cell? ⟨b1, o1 + i * 2, none⟩ = some (.slice ax p.o.length cx) := by rw [Nat.mul_comm]; exact e1
              have e2' : wr.cell? ⟨b1, o1 + i * 2 + 1, none⟩ = some (.slice ay p.b.length cy) := by rw [Nat.mul_comm]; exact e2
              obtain ⟨kp, hkp⟩ : ∃ kp, kp = attrKeyS p.o p.b := ⟨_, rfl⟩
              rw [← hkp] at HPK hst
              have HST := Lib.hid hst
              have hB : (an = false ∧ behindB lo kp = true) ∨ (an = true ∧ Op.bytesLess kp la = true ∧ behindB lo kp = false) ∨ (an = true ∧ Op.bytesLess kp la = false ∧ (kp == la) = true ∧ behindB lo kp = false) ∨ (an = true ∧ Op.bytesLess kp la = false ∧ (kp == la) = false ∧ behindB lo kp = true) := by
                rw [behind_eq, ← HLA.out, ← HAN.out, ← greater_of kp la]
                cases an <;> cases Op.bytesLess kp la <;> cases (kp == la) <;> simp
              have hT : (fo = false ∧ betterB bo kp = true) ∨ (fo = true ∧ Op.bytesLess kp nx = true ∧ betterB bo kp = true) ∨ (fo = true ∧ Op.bytesLess kp nx = false ∧ betterB bo kp = false) := by
                rw [better_eq, ← HNX2.out, ← HFO.out, ← less_of (x := kp)]
                cases fo <;> cases Op.bytesLess kp nx <;> simp
              have HB := Lib.hid hB
              have HT := Lib.hid hT
              clear hx hy hp hpx hpy hpm hkp e1 e2 hst hB hT
              go_wp2_with fail
              refine HPK.out.mono ?_
              rintro e w3 ⟨rfl, F3⟩
              have HF4 := Lib.hid (HF3.out.trans F3)
              clear HPK F3 e0 e1' e2'
              rcases HB.out with ⟨rfl, hb⟩ | ⟨rfl, d1, hb⟩ | ⟨rfl, d1, d2, hb⟩ | ⟨rfl, d1, d2, hb⟩ <;> rcases HT.out with ⟨rfl, ht⟩ | ⟨rfl, d3, ht⟩ | ⟨rfl, d3, ht⟩
              all_goals
                have HS2 := Lib.hid (And.intro hb ht)
                clear hb ht HB HT
                go_wp2_with fail
                go_roundg (r.length - (i + 1))
                case measure => rw [HG3.out]; omega
                case rel =>
                  have hst := HST.out
                  unfold pickStep at hst
                  rw [HS2.out.1, HS2.out.2] at hst
                  refine ⟨i + 1, rfl, by omega, ?_, ?_, by go_num, HF4.out⟩
                  · rw [hst]
                    first | rfl | (simp only [Bool.and_true, Bool.and_false, Bool.false_and, Bool.true_and, Bool.false_eq_true, if_true, if_false]; first | rfl | rw [HNX2.out])
                  · rw [hst]
                    first | rfl | (simp only [Bool.and_true, Bool.and_false, Bool.false_and, Bool.true_and, Bool.false_eq_true, if_true, if_false]; first | rfl | rw [HFO.out])
            · obtain rfl : i = r.length := by omega
              have hb := HBO.out
              rw [List.take_length, HN2.out] at hb
              clear hx
              rcases Nat.lt_or_ge c K.length with hcl | hcl
              · obtain ⟨m, hm2⟩ : ∃ m, K[c]? = some m := ⟨_, List.getElem?_eq_getElem hcl⟩
                have hml := HKM.out m (List.mem_of_getElem? hm2)
                have hjt := join_take 43 hm2
                rw [hm2] at hb
                have hn2 := HNX2.out
                have hf2 := HFO.out
                rw [hb] at hn2 hf2
                have hn3 : nx = m := hn2
                have hf3 : fo = true := hf2
                subst hn3; subst hf3
                have hlast : lastOf K (c + 1) = some nx := by rw [lastOf_succ]; exact hm2
                have HLT := Lib.hid hlast
                have hms : (ByteArray.mk nx.toArray).size = nx.length := by simp [ByteArray.size]
                have hQs : (ByteArray.mk Q.toArray).size = Q.length := by simp [ByteArray.size]
                have HJT := Lib.hid hjt
                clear hb hn2 hf2 hm2 hlast hjt
                by_cases hc0 : c = 0
                · have ha0 : an = false := by rw [HAN.out, HLS.out, hc0]; rfl
                  have hjt := HJT.out
                  rw [if_pos hc0] at hjt
                  have hQP : Q = P := by rw [HQ.out, hc0]; simp [Lib.join]
                  have HJ2 := Lib.hid hjt
                  have HQP := Lib.hid hQP
                  subst ha0
                  clear hjt hQP hc0
                  go_wp2_with fail
                  go_roundg (K.length - (c + 1))
                  case measure => rw [HG2.out]; omega
                  case rel => exact ⟨c + 1, rfl, by omega, by rw [HJ2.out, HQP.out]; exact congrArg Value.string (ba_cat _ _), by rw [HLT.out]; rfl, by rw [HLT.out]; rfl, HF3.out⟩
                · have ha0 : an = true := by rw [HAN.out, HLS.out]; exact decide_eq_true hc0
                  have hjt := HJT.out
                  rw [if_neg hc0] at hjt
                  have HJ2 := Lib.hid hjt
                  subst ha0
                  clear hjt hc0
                  go_wp2_with fail
                  go_roundg (K.length - (c + 1))
                  case measure => rw [HG2.out]; omega
                  case rel => exact ⟨c + 1, rfl, by omega, by rw [HJ2.out, ← List.append_assoc, ← List.append_assoc, ← HQ.out]; exact congrArg Value.string (by rw [ba_cat, ba_cat]), by rw [HLT.out]; rfl, by rw [HLT.out]; rfl, HF3.out⟩
              · rw [List.getElem?_eq_none hcl] at hb
                have hf2 := HFO.out
                rw [hb] at hf2
                have hf3 : fo = false := hf2
                subst hf3
                have hc2 : c = K.length := by omega
                have hres : Lib.join ((n.map rdnKeyS).take (j + 1)) [47] = Q := by rw [HNX.out, HK2.out, HQ.out, hc2, List.take_length]
                have HRES := Lib.hid hres
                clear hb hf2 hc2 hres
                go_wp2_with fail
                go_roundg (n.length - (j + 1))
                case measure => rw [HG.out]; omega
                case rel => exact ⟨j + 1, rfl, by omega, by rw [HRES.out], by go_num, HF3.out⟩
    · obtain rfl : j = n.length := by omega
      have hres : nameKeyS n = J := by rw [HNK.out, hJ]
      have HRES := Lib.hid hres
      clear hJ hres
      go_wp2_with fail
      go_ret
      exact ⟨by rw [HRES.out]; rfl, HF.out⟩
end Go.Proofs.YtacekpdjapgfcaaGreatDoor

namespace Go.Proofs.YtacekpdjapgfcaaGreatDoor
open Go Go.RowKit Go.Q
set_option linter.unusedSimpArgs false
theorem digit_itoa {k : Int} (h0 : 0 ≤ k) (h8 : k ≤ 8) {x : UInt8} (hx : (x.toNat : Int) = 48 + k) : Lib.itoa k = [x] := by
  unfold Lib.itoa
  rw [if_neg (by omega), Lib.decDigits_one (i := k.toNat) (by omega)]
  refine congrArg (fun y => [y]) (UInt8.toNat_inj.1 ?_)
  rw [Go.Q.u8 _ (by omega)]
  omega
set_option maxRecDepth 20000 in
set_option maxHeartbeats 4000000 in
theorem r15Key_any (u : Value) (g : Gen) (w : World) (h : GenAt w u g) (hf : fewG g) (hok : genOk g = true) :
    Calls Tryz.prog 45 #[u] w fun e w' => e = .returned (str (genKeyS g)) ∧ Fr (fun _ => False) w w' := by
  obtain ⟨ab, cb, an, cn, rfl, hb, hn⟩ := h.form
  obtain ⟨k0, k8⟩ := gen_kind hok
  have h4 : g.k = 4 → nameOk g.n = true := fun h2 => by
    unfold genOk at hok
    rw [if_pos h2, Bool.and_eq_true] at hok
    exact hok.2
  obtain ⟨x, hx⟩ : ∃ x : UInt8, (x.toNat : Int) = 48 + g.k := ⟨UInt8.ofNat (48 + g.k.toNat), by rw [Go.Q.u8 _ (by omega)]; omega⟩
  have hit := digit_itoa k0 k8 hx
  have hml := genMean_len hf h4
  obtain ⟨k, b, n⟩ := g
  obtain ⟨f1, f2⟩ := hf
  simp only at hb hn f1 f2 h4 hx hit k0 k8 ⊢
  have F0 : Fr (fun _ => False) w (w.alloc (.cells #[.int .i64 k, .slice ab b.length cb, .slice an n.length cn] 46)) := (Fr.refl w).alloc _
  have B := Blk.new w 46 #[.int .i64 k, .slice ab b.length cb, .slice an n.length cn]
  obtain ⟨z, hz⟩ : ∃ z, z = w.heap.size := ⟨_, rfl⟩
  rw [← hz] at B
  have HZ := Lib.hid hz
  have HB := Lib.hid (hb.old F0)
  have HN := Lib.hid (hn.old F0)
  have HF0 := Lib.hid F0
  have HF2 := Lib.hid f2
  have H4 := Lib.hid h4
  have hxn : x.toNat < 256 := x.toNat_lt
  have hg : genKeyS ⟨k, b, n⟩ = [x] ++ (if k = 4 then nameKeyS n else if k = 2 then (match hostS b with | some h => h | none => 35 :: hexS b) else if k = 1 then mailS b else hexS b) := by rw [← hit]; rfl
  have HG := Lib.hid hg
  have hm2 : (if k = 4 then nameKeyS n else if k = 2 then (match hostS b with | some h => h | none => 35 :: hexS b) else if k = 1 then mailS b else hexS b).length ≤ 1000000000000 := hml
  have HML := Lib.hid hm2
  obtain ⟨xn, hxe⟩ : ∃ xn, xn = x.toNat := ⟨_, rfl⟩
  rw [← hxe] at hx hxn
  have hw1 : wrap64 (48 + k) = (xn : Int) := by unfold wrap64; omega
  have hw2 : IntKind.u8.wrap (xn : Int) = (xn : Int) := by simp [IntKind.wrap, IntKind.signed, IntKind.bits]; omega
  have HXE := Lib.hid hxe
  have HCV := Lib.hid (fun W : World => str_of (bytes_marked W #[.int .u8 (48 + k)] (0, 0) [x] (by rw [← hx, hxe]; rfl) 1 rfl (by decide)))
  clear h hb hn hz F0 f2 h4 hg hml hm2 hit hxe hok
  go_enter Tryz.func45, Tryz.ntmps45
  go_upto_region 1 with fail
  rw [← HZ.out]
  generalize (w.alloc (.cells #[.int .i64 k, .slice ab b.length cb, .slice an n.length cn] 46)) = w0 at *
  have e0 := B.cell 0
  have e1 := B.cell 1
  have e2 := B.cell 2
  simp only [List.getElem?_toArray, List.getElem?_cons_succ, List.getElem?_cons_zero] at e0 e1 e2
  have hcv := HCV.out w0
  have F1 : Fr (fun _ => False) w0 (w0.alloc (.cells #[.int .u8 (48 + k)] 5)) := (Fr.refl w0).alloc _
  have B1 := B.fr F1 (fun h => h)
  have HB1 := Lib.hid (HB.out.old F1)
  have HN1 := Lib.hid (HN.out.old F1)
  have HF1 := Lib.hid (HF0.out.trans F1)
  clear F1 HB HN HF0 B
  go_upto_region 2 with fail
  generalize (w0.alloc (.cells #[.int .u8 (48 + k)] 5)) = w1 at *
  clear e0 e1 e2 hcv HCV hw1 hw2 hx hxn HXE
  have e0 := B1.cell 0
  have e1 := B1.cell 1
  have e2 := B1.cell 2
  simp only [List.getElem?_toArray, List.getElem?_cons_succ, List.getElem?_cons_zero] at e0 e1 e2
  have HB2 := Lib.hid B1
  have hk : k = 4 ∨ k = 2 ∨ k = 1 ∨ ((k == 4) = false ∧ (k == 2) = false ∧ (k == 1) = false) := by
    simp only [beq_eq_false_iff_ne]
    omega
  have x1 : (ByteArray.mk [x].toArray).size = 1 := rfl
  rcases hk with rfl | rfl | rfl | ⟨k4, k2, k1⟩
  · rw [if_pos rfl] at HG HML
    have z1 : (ByteArray.mk (nameKeyS n).toArray).size = (nameKeyS n).length := str_size _
    have hl := HML.out
    have z2 : ¬ 9223372036854775807 < 1 + (nameKeyS n).length := by omega
    have HO := Lib.hid (r14Key_any _ n w1 HN1.out HF2.out (H4.out rfl))
    generalize nameKeyS n = me at *
    go_wp2_with fail
    refine HO.out.mono ?_
    rintro e w2 ⟨rfl, F2⟩
    go_wp2_with fail
    go_ret
    exact ⟨by rw [HG.out]; exact congrArg (fun x : ByteArray => Ending.returned (.string x)) (ba_cat [x] me), HF1.out.trans F2⟩
  · rw [if_neg (by decide), if_pos rfl] at HG HML
    have hsr := str_of HB1.out
    have HO := Lib.hid (r13Host_any b w1 (by omega))
    cases hh : hostS b with
    | some ho =>
      rw [hh] at HG HML HO
      have z1 : (ByteArray.mk ho.toArray).size = ho.length := str_size _
      have hl : ho.length ≤ 1000000000000 := HML.out
      have z2 : ¬ 9223372036854775807 < 1 + ho.length := by omega
      have HR := Lib.hid (show rhostV (some ho) = .tuple #[str ho, .bool true] from rfl)
      rw [HR.out] at HO
      go_wp2_with fail
      refine HO.out.mono ?_
      rintro e w2 ⟨rfl, F2⟩
      go_wp2_with fail
      go_ret
      exact ⟨by rw [HG.out]; exact congrArg (fun x : ByteArray => Ending.returned (.string x)) (ba_cat [x] ho), HF1.out.trans F2⟩
    | none =>
      rw [hh] at HG HML HO
      have HR := Lib.hid (show rhostV none = .tuple #[str [], .bool false] from rfl)
      rw [HR.out] at HO
      have hxl := hexS_len b
      have HX := Lib.hid (fun w1 (h : Bytes w1 (.slice ab b.length cb) b) => r01Hex_any _ b w1 h (by omega))
      have z1 : (ByteArray.mk (hexS b).toArray).size = (hexS b).length := str_size _
      generalize hexS b = hb at *
      have z2 : ¬ 9223372036854775807 < 2 + hb.length := by omega
      go_wp2_with fail
      refine HO.out.mono ?_
      rintro e w2 ⟨rfl, F2⟩
      have HX2 := Lib.hid (HX.out w2 (HB1.out.old F2))
      have HF2 := Lib.hid (HF1.out.trans F2)
      have B2 := HB2.out.fr F2 (fun h => h)
      clear e0 e1 e2 hsr F2 HX HO
      have e0 := B2.cell 0
      have e1 := B2.cell 1
      simp only [List.getElem?_toArray, List.getElem?_cons_succ, List.getElem?_cons_zero] at e0 e1
      go_wp2_with fail
      refine HX2.out.mono ?_
      rintro e w3 ⟨rfl, F3⟩
      go_wp2_with fail
      go_ret
      refine ⟨?_, HF2.out.trans F3⟩
      rw [HG.out]
      refine congrArg (fun x : ByteArray => Ending.returned (.string x)) ?_
      exact ba_cat [x, 35] hb
  · rw [if_neg (by decide), if_neg (by decide), if_pos rfl] at HG HML
    obtain ⟨_, _, he, hc1, hm1, hxx⟩ := Vals.form HB1.out
    simp only [Value.slice.injEq] at he
    obtain ⟨rfl, -, rfl⟩ := he
    unfold maxLen at hm1
    have HMM := Lib.hid (show mailS b = if lastS 64 b < 0 then b else b.take (lastS 64 b).toNat ++ lowerS (b.drop (lastS 64 b).toNat) from rfl)
    have HLS := Lib.hid (show lastS 64 b = lastTo 64 b b.length from rfl)
    have HXX := Lib.hid hxx
    clear hxx
    go_wp2_with fail
    go_loopg [6, 7] b.length (fun g u i wr => ∃ j : Nat, g = b.length - j ∧ j ≤ b.length ∧ u = .int .i64 (lastTo 64 b j) ∧ i = .int .i64 j ∧ wr = w1)
    case atStart => exact ⟨0, rfl, Nat.zero_le _, rfl, rfl, rfl⟩
    case round =>
      obtain ⟨j, hg, hj, rfl, rfl, rfl⟩ := hrel
      have HGG := Lib.hid hg
      clear hg
      by_cases hjl : j < b.length
      · obtain ⟨y, hy⟩ : ∃ y, b[j]? = some y := ⟨_, List.getElem?_eq_getElem hjl⟩
        obtain ⟨b1, o1, rfl, hyy⟩ := HXX.out (by omega)
        have ey := hyy j y hy
        have r1 : (0 : Int) ≤ (j : Int) := by omega
        have r2 : (j : Int) < (b.length : Int) := by omega
        have hlt : lastTo 64 b (j + 1) = if b[j]? = some 64 then (j : Int) else lastTo 64 b j := rfl
        rw [hy] at hlt
        by_cases h64 : y = 64
        · subst h64
          rw [if_pos rfl] at hlt
          have HLT := Lib.hid hlt
          clear hlt hyy
          go_wp2_with fail
          go_roundg (b.length - (j + 1))
          case measure => rw [HGG.out]; omega
          case rel => exact ⟨j + 1, rfl, by omega, by rw [HLT.out], by go_num, rfl⟩
        · rw [if_neg (fun e => h64 (Option.some.inj e))] at hlt
          have HLT := Lib.hid hlt
          have q1 : ((y.toNat : Int) == 64) = false := beq_eq_false_iff_ne.2 (fun e => h64 (UInt8.toNat_inj.1 (by show y.toNat = 64; omega)))
          clear hlt hyy h64
          go_wp2_with fail
          go_roundg (b.length - (j + 1))
          case measure => rw [HGG.out]; omega
          case rel => exact ⟨j + 1, rfl, by omega, by rw [HLT.out], by go_num, rfl⟩
      · obtain rfl : j = b.length := by omega
        have hlo := lastTo_lt 64 b b.length
        rw [← HLS.out] at hlo ⊢
        generalize lastS 64 b = i at *
        obtain ⟨i0, i1, i2⟩ := hlo
        have hsr := str_of HB1.out
        have z1 : (ByteArray.mk b.toArray).size = b.length := str_size _
        have z2 : ¬ 9223372036854775807 < 1 + b.length := by omega
        by_cases hi : i < 0
        · rw [if_pos hi] at HMM
          rw [HMM.out] at HG
          go_wp2_with fail
          go_ret
          exact ⟨by rw [HG.out]; exact congrArg (fun x : ByteArray => Ending.returned (.string x)) (ba_cat [x] b), HF1.out⟩
        · rw [if_neg hi] at HMM
          obtain ⟨n1, rfl⟩ : ∃ n1 : Nat, i = n1 := ⟨i.toNat, by omega⟩
          rw [HMM.out, Int.toNat_natCast] at HG
          obtain ⟨A, hrs, hrb⟩ := bytes_rest HB1.out n1 (by omega)
          have FD : Fr (fun _ => False) wr wr.drew := (Fr.refl wr).drew
          have HCA := Lib.hid ((Vals.cut HB1.out n1 n1 (by omega)).old FD)
          have HCB := Lib.hid (hrb _ (HB1.out.old FD))
          have hpl : (b.take n1).length = n1 := by rw [List.length_take]; omega
          have hql : (b.drop n1).length = b.length - n1 := List.length_drop
          have hll : (lowerS (b.drop n1)).length = b.length - n1 := by rw [lower_len, hql]
          have HLO := Lib.hid (fun W => r13Lower_any (b.drop n1) W (by omega))
          have HQL := Lib.hid hql
          generalize b.take n1 = pp at *
          generalize b.drop n1 = qq at *
          generalize lowerS qq = lo at *
          have y1 : (ByteArray.mk pp.toArray).size = n1 := by rw [str_size, hpl]
          have y2 : (ByteArray.mk lo.toArray).size = b.length - n1 := by rw [str_size, hll]
          have y3 : ¬ 9223372036854775807 < 1 + n1 := by omega
          have y4 : ¬ 9223372036854775807 < 1 + n1 + (b.length - n1) := by omega
          have hc1 : ∀ W, Fr (fun _ => False) wr.drew W → (Go.convert 23 9 (.slice ab n1 cb)).run Tryz.prog W = .ok (str pp) W := fun W F => str_of (HCA.out.old F)
          have hc2 : ∀ W, Fr (fun _ => False) wr.drew W → (Go.convert 23 9 (.slice A (b.length - n1) (cb - n1))).run Tryz.prog W = .ok (str qq) W := fun W F => by
            have h := HCB.out.old F
            rw [← HQL.out]
            exact str_of (by rw [HQL.out]; exact h)
          have e1D := FD.cell e1 (fun h => h)
          have G : Fr (fun _ => False) wr.drew wr.drew := Fr.refl _
          have HFD := Lib.hid FD
          have r1 : (0 : Int) ≤ (n1 : Int) := by omega
          have r2 : (n1 : Int) ≤ (cb : Int) := by omega
          have r3 : (n1 : Int) ≤ (b.length : Int) := by omega
          clear hsr z1 z2 hpl hql hll FD hrb HMM HLS
          go_upto_region 19 with fail
          go_region_held3 (fun w' => Fr (fun _ => False) wr.drew w' ∧ w'.cell? ⟨z, 1, none⟩ = some (.slice ab b.length cb)) (exact ⟨G, e1D⟩) (first
            | (go_at_call 99; refine (HLO.out _).mono ?_; rintro e w' ⟨rfl, F⟩; replace e1D := F.cell e1D (fun h => h); replace G := G.trans F; clear F))
          all_goals
            have HG9 := Lib.hid ((HF1.out.trans HFD.out).trans G)
            go_wp2_with fail
            go_ret
            refine ⟨?_, HG9.out⟩
            rw [HG.out]
            refine congrArg (fun x : ByteArray => Ending.returned (.string x)) ?_
            have h1 := ba_cat [x] pp
            have h2 := ba_cat ([x] ++ pp) lo
            rw [← h1, List.append_assoc] at h2
            exact h2
  · rw [if_neg (by simpa using k4), if_neg (by simpa using k2), if_neg (by simpa using k1)] at HG HML
    have z1 : (ByteArray.mk (hexS b).toArray).size = (hexS b).length := str_size _
    have hxl := hexS_len b
    have HO := Lib.hid (r01Hex_any _ b w1 HB1.out (by omega))
    generalize hexS b = hb at *
    have z2 : ¬ 9223372036854775807 < 1 + hb.length := by omega
    go_wp2_with fail
    refine HO.out.mono ?_
    rintro e w2 ⟨rfl, F2⟩
    go_wp2_with fail
    go_ret
    exact ⟨by rw [HG.out]; exact congrArg (fun x : ByteArray => Ending.returned (.string x)) (ba_cat [x] hb), HF1.out.trans F2⟩
end Go.Proofs.YtacekpdjapgfcaaGreatDoor

namespace Go.Q
open Go Go.RowKit
def gwOut (g : Gen) : List UInt8 := if genOk g then genWhole g else []
end Go.Q
namespace Go.Proofs.YtacekpdjapgfcaaGreatDoor
open Go Go.RowKit Go.Q
set_option linter.unusedSimpArgs false
theorem genWrite_any (u : Value) (g : Gen) (w : World) (h : GenAt w u g) (hf : fewG g) (hb : genOk g = true → (genBody g).length ≤ 16777216) :
    Calls Tryz.prog 41 #[u] w fun e w' => (∃ a c, e = .returned (.tuple #[.slice a (gwOut g).length c, .int .i64 (gkErr g)]) ∧ Bytes w' (.slice a (gwOut g).length c) (gwOut g)) ∧ Fr (fun _ => False) w w' := by
  cases hok : genOk g with
  | false =>
    refine (genWrite_bad u g w h hf hok).mono fun e w' ⟨h1, F⟩ => ⟨⟨none, 0, ?_, ?_⟩, F⟩
    · rw [h1]
      simp [gwOut, gkErr, hok]
    · have : gwOut g = [] := by simp [gwOut, hok]
      rw [this]
      exact (bytes_nil (fun _ => True) w').now
  | true =>
    refine (genWrite_ok u g w h hf hok (hb hok)).mono fun e w' ⟨⟨a, c, h1, h2⟩, F⟩ => ⟨⟨a, c, ?_, ?_⟩, F⟩
    · rw [h1]
      simp [gwOut, gkErr, hok]
    · have : gwOut g = genWhole g := by simp [gwOut, hok]
      rw [this]
      exact (Vals.of_own h2).1
set_option maxRecDepth 100000 in
set_option maxHeartbeats 16000000 in
theorem gwWalk_any (u : Value) (g0 : Gen) (w : World) (h : GenAt w u g0) (hE : Env w) :
    Calls Tryz.prog 7 #[u] w fun e w' => e = .returned (.bool true) ∧ Fr (fun _ => False) w w' := by
  obtain ⟨ab0, cb0, an0, cn0, rfl, -, -⟩ := h.form
  have HE := Lib.hid hE
  obtain ⟨g, hg⟩ : ∃ g, g = cutGen g0 := ⟨_, rfl⟩
  have hfw : fewG g := by rw [hg]; exact cutGen_few g0
  have hln := cutGen_len g0
  have hbd : genOk g = true → (genBody g).length ≤ 16777216 := fun e => by
    rw [hg] at e ⊢
    have := cut_body e
    omega
  rw [← hg] at hln
  have HFW := Lib.hid hfw
  have HBD := Lib.hid hbd
  have HSM := Lib.hid (show g.n.length ≤ 1000000 ∧ ∀ r ∈ g.n, r.length ≤ 1000000 from ⟨by have := hln.2.1; omega, fun r hr => by have := hln.2.2.1 r hr; omega⟩)
  obtain ⟨z0, hz0⟩ : ∃ z, z = w.heap.size := ⟨_, rfl⟩
  have F0 : Fr (fun _ => False) w (w.alloc (.cells #[.int .i64 g0.k, .slice ab0 g0.b.length cb0, .slice an0 g0.n.length cn0] 46)) := (Fr.refl w).alloc _
  have B0 := Blk.new w 46 #[.int .i64 g0.k, .slice ab0 g0.b.length cb0, .slice an0 g0.n.length cn0]
  rw [← hz0] at B0
  have HH := Lib.hid (h.old F0)
  have HZ0 := Lib.hid hz0
  have HGE := Lib.hid hg
  clear h hE hfw hbd hln hz0 hg
  go_enter Tryz.func7, Tryz.ntmps7
  go_upto_region 1 with fail
  rw [← HZ0.out]
  generalize w.alloc (.cells #[.int .i64 g0.k, .slice ab0 g0.b.length cb0, .slice an0 g0.n.length cn0] 46) = w0 at *
  have HF0 := Lib.hid F0
  have HO := Lib.hid (lawGTo_any _ g0 w0 w0 HH.out (Fr.refl w0))
  rw [← HGE.out] at HO
  have e0 := B0.cell 0
  have e1 := B0.cell 1
  have e2 := B0.cell 2
  simp only [List.getElem?_toArray, List.getElem?_cons_succ, List.getElem?_cons_zero] at e0 e1 e2
  clear B0 F0 HGE
  go_wp2_with fail
  refine HO.out.mono ?_
  rintro e w1 ⟨⟨ab, cb, an, cn, rfl, hk⟩, F1⟩
  obtain ⟨z1, hz1⟩ : ∃ z, z = w1.heap.size := ⟨_, rfl⟩
  have F2 : Fr (fun _ => False) w1 (w1.alloc (.cells #[.int .i64 g.k, .slice ab g.b.length cb, .slice an g.n.length cn] 42)) := (Fr.refl w1).alloc _
  have B2 := Blk.new w1 42 #[.int .i64 g.k, .slice ab g.b.length cb, .slice an g.n.length cn]
  rw [← hz1] at B2
  have HX2 := Lib.hid (And.intro (hk.now.1.old F2) (hk.now.2.old F2))
  have HF2 := Lib.hid ((HF0.out.trans F1).trans F2)
  have HZ1 := Lib.hid hz1
  clear HO hk F1 F2 hz1 e0 e1 e2 HF0 HH
  go_upto_region 2 with fail
  rw [← HZ1.out]
  generalize w1.alloc (.cells #[.int .i64 g.k, .slice ab g.b.length cb, .slice an g.n.length cn] 42) = w2 at *
  have HO := Lib.hid (lawGOf_any _ g w2 w2 ⟨_, _, rfl, HX2.out.1, HX2.out.2⟩ (Fr.refl w2) HSM.out.1 HSM.out.2)
  have e0 := B2.cell 0
  have e1 := B2.cell 1
  have e2 := B2.cell 2
  simp only [List.getElem?_toArray, List.getElem?_cons_succ, List.getElem?_cons_zero] at e0 e1 e2
  have HB2 := Lib.hid B2
  clear B2
  go_wp2_with fail
  refine HO.out.mono ?_
  rintro e w3 ⟨⟨ab2, cb2, an2, cn2, rfl, hk⟩, F3⟩
  obtain ⟨z2, hz2⟩ : ∃ z, z = w3.heap.size := ⟨_, rfl⟩
  have F4 : Fr (fun _ => False) w3 (w3.alloc (.cells #[.int .i64 g.k, .slice ab2 g.b.length cb2, .slice an2 g.n.length cn2] 46)) := (Fr.refl w3).alloc _
  have D4 := Blk.new w3 46 #[.int .i64 g.k, .slice ab2 g.b.length cb2, .slice an2 g.n.length cn2]
  rw [← hz2] at D4
  have F34 := F3.trans F4
  have HX4 := Lib.hid (And.intro (HX2.out.1.old F34) (HX2.out.2.old F34))
  have HY4 := Lib.hid (And.intro (hk.now.1.old F4) (hk.now.2.old F4))
  have HF4 := Lib.hid (HF2.out.trans F34)
  have HB4 := Lib.hid (HB2.out.fr F34 (fun h => h))
  have hz12 : z1 ≠ z2 := by have := HB2.out.lt; have := F3.size; omega
  have HZ2 := Lib.hid hz2
  clear HO hk F3 F4 F34 hz2 e0 e1 e2 HF2 HX2 HB2
  go_upto_region 3 with fail
  rw [← HZ2.out]
  generalize w3.alloc (.cells #[.int .i64 g.k, .slice ab2 g.b.length cb2, .slice an2 g.n.length cn2] 46) = w4 at *
  have HD4 := Lib.hid D4
  have HO := Lib.hid (genWrite_any _ g w4 ⟨_, _, rfl, HX4.out.1, HX4.out.2⟩ HFW.out HBD.out)
  have e0 := HB4.out.cell 0
  have e1 := HB4.out.cell 1
  have e2 := HB4.out.cell 2
  simp only [List.getElem?_toArray, List.getElem?_cons_succ, List.getElem?_cons_zero] at e0 e1 e2
  clear D4
  go_wp2_with fail
  refine HO.out.mono ?_
  rintro e w5 ⟨⟨a5, c5, rfl, hb5⟩, F5⟩
  have HX5 := Lib.hid (And.intro (HX4.out.1.old F5) (HX4.out.2.old F5))
  have HY5 := Lib.hid (And.intro (HY4.out.1.old F5) (HY4.out.2.old F5))
  have HF5 := Lib.hid (HF4.out.trans F5)
  have HB5 := Lib.hid (HB4.out.fr F5 (fun h => h))
  have HD5 := Lib.hid (HD4.out.fr F5 (fun h => h))
  have HV5 := Lib.hid hb5
  clear HO F5 hb5 HX4 HY4 HF4 HB4 HD4 e0 e1 e2
  have HO := Lib.hid (genKey_any _ g w5 ⟨_, _, rfl, HX5.out.1, HX5.out.2⟩ HFW.out (HE.out.old HF5.out))
  have e0 := HB5.out.cell 0
  have e1 := HB5.out.cell 1
  have e2 := HB5.out.cell 2
  simp only [List.getElem?_toArray, List.getElem?_cons_succ, List.getElem?_cons_zero] at e0 e1 e2
  go_wp2_with fail
  refine HO.out.mono ?_
  rintro e w6 ⟨rfl, F6⟩
  have HX := Lib.hid (And.intro (HX5.out.1.old F6) (HX5.out.2.old F6))
  have HY := Lib.hid (And.intro (HY5.out.1.old F6) (HY5.out.2.old F6))
  have HF6 := Lib.hid (HF5.out.trans F6)
  have B := HB5.out.fr F6 (fun h => h)
  have D := HD5.out.fr F6 (fun h => h)
  have HB := Lib.hid (HV5.out.old F6)
  clear HO F6 HX5 HY5 HF5 HB5 HD5 HV5 e0 e1 e2
  obtain ⟨d, hd⟩ : ∃ d, genOk g = d := ⟨_, rfl⟩
  have HOK := Lib.hid hd
  have hgo : gwOut g = if d then genWhole g else [] := by rw [← hd]; rfl
  have hgk : gkOut g = if d then genKeyS g else [] := by rw [← hd]; rfl
  have hge : gkErr g = if d then 0 else 1 := by rw [← hd]; rfl
  rw [hgo] at HB ⊢
  rw [hgk, hge]
  clear hgo hgk hge hd
  cases d with
  | false =>
    simp only [if_true, if_false, Bool.false_eq_true, List.length_nil] at HB ⊢
    go_upto_region 5 with fail
    replace B := B.drew
    replace D := D.drew
    have G := Lib.hid (HF6.out.drew)
    replace HX := Lib.hid (And.intro (HX.out.1.old (Fr.refl w6).drew) (HX.out.2.old (Fr.refl w6).drew))
    replace HY := Lib.hid (And.intro (HY.out.1.old (Fr.refl w6).drew) (HY.out.2.old (Fr.refl w6).drew))
    replace HB := Lib.hid (HB.out.old (Fr.refl w6).drew)
    clear HF6
    go_region_held3 (fun w' => (∀ j, w'.cell? ⟨z1, j, none⟩ = (#[.int .i64 g.k, .slice ab g.b.length cb, .slice an g.n.length cn] : Array Value)[j]?) ∧ ∀ j, w'.cell? ⟨z2, j, none⟩ = (#[.int .i64 g.k, .slice ab2 g.b.length cb2, .slice an2 g.n.length cn2] : Array Value)[j]?) (first | exact ⟨B.cell, D.cell⟩ | exact ⟨(B.alloc _).cell, (D.alloc _).cell⟩ | exact ⟨((B.alloc _).alloc _).cell, ((D.alloc _).alloc _).cell⟩) (first
      | (go_at_call 25; refine (gnKnown_any _ (HE.out.old G.out)).mono ?_; rintro e w' ⟨rfl, F⟩; replace HX := Lib.hid (And.intro (HX.out.1.old F) (HX.out.2.old F)); replace HY := Lib.hid (And.intro (HY.out.1.old F) (HY.out.2.old F)); replace HB := Lib.hid (HB.out.old F); replace B := B.fr F (fun h => h); replace D := D.fr F (fun h => h); replace G := Lib.hid (G.out.trans F); clear F)
      | (go_at_call 43; refine (genRight_any _ g _ ⟨_, _, rfl, HX.out.1, HX.out.2⟩ HFW.out).mono ?_; rw [HOK.out]; rintro e w' ⟨rfl, F⟩; replace HX := Lib.hid (And.intro (HX.out.1.old F) (HX.out.2.old F)); replace HY := Lib.hid (And.intro (HY.out.1.old F) (HY.out.2.old F)); replace HB := Lib.hid (HB.out.old F); replace B := B.fr F (fun h => h); replace D := D.fr F (fun h => h); replace G := Lib.hid (G.out.trans F); clear F)
      | (go_at_call 37; refine (r15Right_any _ g _ ⟨_, _, rfl, HY.out.1, HY.out.2⟩ HFW.out).mono ?_; rw [HOK.out]; rintro e w' ⟨rfl, F⟩; replace HX := Lib.hid (And.intro (HX.out.1.old F) (HX.out.2.old F)); replace HY := Lib.hid (And.intro (HY.out.1.old F) (HY.out.2.old F)); replace HB := Lib.hid (HB.out.old F); replace B := B.fr F (fun h => h); replace D := D.fr F (fun h => h); replace G := Lib.hid (G.out.trans F); clear F)
      | (go_at_call 27; refine (lawGOf_any _ g _ _ ⟨_, _, rfl, HX.out.1, HX.out.2⟩ (Fr.refl _) HSM.out.1 HSM.out.2).mono ?_; rintro e w' ⟨⟨a7, c7, a8, c8, rfl, hq⟩, F⟩; replace HX := Lib.hid (And.intro (HX.out.1.old F) (HX.out.2.old F)); replace HY := Lib.hid (And.intro (HY.out.1.old F) (HY.out.2.old F)); replace HB := Lib.hid (HB.out.old F); replace B := B.fr F (fun h => h); replace D := D.fr F (fun h => h); replace G := Lib.hid (G.out.trans F); clear F; have HOF := Lib.hid hq.now; clear hq; have HLK := Lib.hid (like_two _ g _ _ _ _ HOF.out.1 HOF.out.2 HY.out.1 HY.out.2); have HLO := Lib.hid (like_owt _ g _ _ _ _ HOF.out.1 HOF.out.2 HY.out.1 HY.out.2); clear HOF)
      | (go_at_call 27; refine (of_late _ _ _ _ g ⟨_, _, rfl, HX.out.1, HX.out.2⟩ HSM.out).mono ?_; rintro e w' ⟨⟨a7, c7, a8, c8, rfl, hq⟩, hbo, F⟩; replace HX := Lib.hid (And.intro (HX.out.1.old F) (HX.out.2.old F)); replace HY := Lib.hid (And.intro (HY.out.1.old F) (HY.out.2.old F)); replace HB := Lib.hid (HB.out.old F); replace B := B.fr F (fun h => h); replace D := D.fr F (fun h => h); replace G := Lib.hid (G.out.trans F); clear F; have HLK := Lib.hid (like_late _ _ g _ _ _ _ hbo hq.1 hq.2 HY.out.1 HY.out.2); have HLO := Lib.hid (True.intro); clear hq hbo)
      | (go_at_call 26; with_reducible refine HLK.out.mono ?_; rintro e w' ⟨rfl, F⟩; replace HX := Lib.hid (And.intro (HX.out.1.old F) (HX.out.2.old F)); replace HY := Lib.hid (And.intro (HY.out.1.old F) (HY.out.2.old F)); replace HB := Lib.hid (HB.out.old F); replace B := B.fr F (fun h => h); replace D := D.fr F (fun h => h); replace G := Lib.hid (G.out.trans F); clear F HLK HLO)
      | (go_at_call 26; with_reducible refine HLO.out.mono ?_; rintro e w' ⟨rfl, F⟩; replace HX := Lib.hid (And.intro (HX.out.1.old F) (HX.out.2.old F)); replace HY := Lib.hid (And.intro (HY.out.1.old F) (HY.out.2.old F)); replace HB := Lib.hid (HB.out.old F); replace B := B.fr F (fun h => h); replace D := D.fr F (fun h => h); replace G := Lib.hid (G.out.trans F); clear F HLK HLO))
    all_goals
      have d0 := D.cell 0
      have d1 := D.cell 1
      have d2 := D.cell 2
      simp only [List.getElem?_toArray, List.getElem?_cons_succ, List.getElem?_cons_zero] at d0 d1 d2
      have HO := Lib.hid (r15Right_any _ g _ ⟨_, _, rfl, HY.out.1, HY.out.2⟩ HFW.out)
      rw [HOK.out] at HO
      go_wp2_with fail
      refine HO.out.mono ?_
      rintro e w8 ⟨rfl, F8⟩
      have HF8 := Lib.hid (G.out.trans F8)
      clear HO F8 G B D d0 d1 d2
      go_wp2_with fail
      go_ret
      exact ⟨rfl, HF8.out⟩
  | true =>
    simp only [if_true, if_false, Bool.false_eq_true, List.length_nil] at HB ⊢
    go_upto_region 5 with fail
    replace B := B.drew
    replace D := D.drew
    have G := Lib.hid (HF6.out.drew)
    replace HX := Lib.hid (And.intro (HX.out.1.old (Fr.refl w6).drew) (HX.out.2.old (Fr.refl w6).drew))
    replace HY := Lib.hid (And.intro (HY.out.1.old (Fr.refl w6).drew) (HY.out.2.old (Fr.refl w6).drew))
    replace HB := Lib.hid (HB.out.old (Fr.refl w6).drew)
    clear HF6
    go_region_held3 (fun w' => (∀ j, w'.cell? ⟨z1, j, none⟩ = (#[.int .i64 g.k, .slice ab g.b.length cb, .slice an g.n.length cn] : Array Value)[j]?) ∧ ∀ j, w'.cell? ⟨z2, j, none⟩ = (#[.int .i64 g.k, .slice ab2 g.b.length cb2, .slice an2 g.n.length cn2] : Array Value)[j]?) (first | exact ⟨B.cell, D.cell⟩ | exact ⟨(B.alloc _).cell, (D.alloc _).cell⟩ | exact ⟨((B.alloc _).alloc _).cell, ((D.alloc _).alloc _).cell⟩) (first
      | (go_at_call 25; refine (gnKnown_any _ (HE.out.old G.out)).mono ?_; rintro e w' ⟨rfl, F⟩; replace HX := Lib.hid (And.intro (HX.out.1.old F) (HX.out.2.old F)); replace HY := Lib.hid (And.intro (HY.out.1.old F) (HY.out.2.old F)); replace HB := Lib.hid (HB.out.old F); replace B := B.fr F (fun h => h); replace D := D.fr F (fun h => h); replace G := Lib.hid (G.out.trans F); clear F)
      | (go_at_call 43; refine (genRight_any _ g _ ⟨_, _, rfl, HX.out.1, HX.out.2⟩ HFW.out).mono ?_; rw [HOK.out]; rintro e w' ⟨rfl, F⟩; replace HX := Lib.hid (And.intro (HX.out.1.old F) (HX.out.2.old F)); replace HY := Lib.hid (And.intro (HY.out.1.old F) (HY.out.2.old F)); replace HB := Lib.hid (HB.out.old F); replace B := B.fr F (fun h => h); replace D := D.fr F (fun h => h); replace G := Lib.hid (G.out.trans F); clear F)
      | (go_at_call 37; refine (r15Right_any _ g _ ⟨_, _, rfl, HY.out.1, HY.out.2⟩ HFW.out).mono ?_; rw [HOK.out]; rintro e w' ⟨rfl, F⟩; replace HX := Lib.hid (And.intro (HX.out.1.old F) (HX.out.2.old F)); replace HY := Lib.hid (And.intro (HY.out.1.old F) (HY.out.2.old F)); replace HB := Lib.hid (HB.out.old F); replace B := B.fr F (fun h => h); replace D := D.fr F (fun h => h); replace G := Lib.hid (G.out.trans F); clear F)
      | (go_at_call 27; refine (lawGOf_any _ g _ _ ⟨_, _, rfl, HX.out.1, HX.out.2⟩ (Fr.refl _) HSM.out.1 HSM.out.2).mono ?_; rintro e w' ⟨⟨a7, c7, a8, c8, rfl, hq⟩, F⟩; replace HX := Lib.hid (And.intro (HX.out.1.old F) (HX.out.2.old F)); replace HY := Lib.hid (And.intro (HY.out.1.old F) (HY.out.2.old F)); replace HB := Lib.hid (HB.out.old F); replace B := B.fr F (fun h => h); replace D := D.fr F (fun h => h); replace G := Lib.hid (G.out.trans F); clear F; have HOF := Lib.hid hq.now; clear hq; have HLK := Lib.hid (like_two _ g _ _ _ _ HOF.out.1 HOF.out.2 HY.out.1 HY.out.2); have HLO := Lib.hid (like_owt _ g _ _ _ _ HOF.out.1 HOF.out.2 HY.out.1 HY.out.2); clear HOF)
      | (go_at_call 27; refine (of_late _ _ _ _ g ⟨_, _, rfl, HX.out.1, HX.out.2⟩ HSM.out).mono ?_; rintro e w' ⟨⟨a7, c7, a8, c8, rfl, hq⟩, hbo, F⟩; replace HX := Lib.hid (And.intro (HX.out.1.old F) (HX.out.2.old F)); replace HY := Lib.hid (And.intro (HY.out.1.old F) (HY.out.2.old F)); replace HB := Lib.hid (HB.out.old F); replace B := B.fr F (fun h => h); replace D := D.fr F (fun h => h); replace G := Lib.hid (G.out.trans F); clear F; have HLK := Lib.hid (like_late _ _ g _ _ _ _ hbo hq.1 hq.2 HY.out.1 HY.out.2); have HLO := Lib.hid (True.intro); clear hq hbo)
      | (go_at_call 26; with_reducible refine HLK.out.mono ?_; rintro e w' ⟨rfl, F⟩; replace HX := Lib.hid (And.intro (HX.out.1.old F) (HX.out.2.old F)); replace HY := Lib.hid (And.intro (HY.out.1.old F) (HY.out.2.old F)); replace HB := Lib.hid (HB.out.old F); replace B := B.fr F (fun h => h); replace D := D.fr F (fun h => h); replace G := Lib.hid (G.out.trans F); clear F HLK HLO)
      | (go_at_call 26; with_reducible refine HLO.out.mono ?_; rintro e w' ⟨rfl, F⟩; replace HX := Lib.hid (And.intro (HX.out.1.old F) (HX.out.2.old F)); replace HY := Lib.hid (And.intro (HY.out.1.old F) (HY.out.2.old F)); replace HB := Lib.hid (HB.out.old F); replace B := B.fr F (fun h => h); replace D := D.fr F (fun h => h); replace G := Lib.hid (G.out.trans F); clear F HLK HLO))
    all_goals
      have HD := Lib.hid D
      have d0 := D.cell 0
      have d1 := D.cell 1
      have d2 := D.cell 2
      simp only [List.getElem?_toArray, List.getElem?_cons_succ, List.getElem?_cons_zero] at d0 d1 d2
      have HO := Lib.hid (r15Right_any _ g _ ⟨_, _, rfl, HY.out.1, HY.out.2⟩ HFW.out)
      rw [HOK.out] at HO
      clear B D
      go_wp2_with fail
      refine HO.out.mono ?_
      rintro e w8 ⟨rfl, F8⟩
      have HY8 := Lib.hid (And.intro (HY.out.1.old F8) (HY.out.2.old F8))
      have HF8 := Lib.hid (G.out.trans F8)
      have HD8 := Lib.hid (HD.out.fr F8 (fun h => h))
      have HV8 := Lib.hid (HB.out.old F8)
      clear HO F8 G HD d0 d1 d2 HX HY HB
      have d0 := HD8.out.cell 0
      have d1 := HD8.out.cell 1
      have d2 := HD8.out.cell 2
      simp only [List.getElem?_toArray, List.getElem?_cons_succ, List.getElem?_cons_zero] at d0 d1 d2
      have HO := Lib.hid (r15Write_any _ g w8 ⟨_, _, rfl, HY8.out.1, HY8.out.2⟩ HFW.out HOK.out (HBD.out HOK.out))
      go_wp2_with fail
      refine HO.out.mono ?_
      rintro e w9 ⟨⟨a9, c9, rfl, ho⟩, F9⟩
      have HS := Lib.hid (r01Same_any _ _ (genWhole g) (genWhole g) w9 (HV8.out.old F9) (Vals.of_own ho).1)
      rw [decide_eq_true rfl] at HS
      have HY9 := Lib.hid (And.intro (HY8.out.1.old F9) (HY8.out.2.old F9))
      have HF9 := Lib.hid (HF8.out.trans F9)
      have HD9 := Lib.hid (HD8.out.fr F9 (fun h => h))
      clear HO F9 ho HY8 HF8 HD8 HV8 d0 d1 d2
      go_wp2_with fail
      refine HS.out.mono ?_
      rintro e w10 ⟨rfl, F10⟩
      have HF10 := Lib.hid (HF9.out.trans F10)
      have HD10 := Lib.hid (HD9.out.fr F10 (fun h => h))
      have HO := Lib.hid (r15Key_any _ g w10 ⟨_, _, rfl, HY9.out.1.old F10, HY9.out.2.old F10⟩ HFW.out HOK.out)
      clear HS F10 HF9 HD9 HY9
      obtain ⟨kg, hkg⟩ : ∃ kg, kg = genKeyS g := ⟨_, rfl⟩
      rw [← hkg] at HO ⊢
      have q1 : (kg == kg) = true := by simp
      have d0 := HD10.out.cell 0
      have d1 := HD10.out.cell 1
      have d2 := HD10.out.cell 2
      simp only [List.getElem?_toArray, List.getElem?_cons_succ, List.getElem?_cons_zero] at d0 d1 d2
      clear hkg
      go_wp2_with fail
      refine HO.out.mono ?_
      rintro e w11 ⟨rfl, F11⟩
      have HF11 := Lib.hid (HF10.out.trans F11)
      clear HO F11 HF10 HD10 d0 d1 d2
      go_wp2_with fail
      go_ret
      exact ⟨rfl, HF11.out⟩
end Go.Proofs.YtacekpdjapgfcaaGreatDoor
