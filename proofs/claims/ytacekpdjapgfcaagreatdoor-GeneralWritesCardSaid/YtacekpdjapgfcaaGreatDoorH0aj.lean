/-
  Merged by program: XR02 XR04D XNLeast XNBld XNOidT XNLibS XNOidN XNOidF XNFold.
-/
import Derived.Test.YtacekpdjapgfcaaGreatDoorH0ac
import Derived.Test.YtacekpdjapgfcaaGreatDoorH0ae
import Derived.Test.YtacekpdjapgfcaaGreatDoorH0ai
import Derived.Test.YtacekpdjapgfcaaGreatDoorH0af
import Derived.Test.YtacekpdjapgfcaaGreatDoorH0aa
import Derived.Lib.Builder
import Derived.Lib.AppendStr
import Derived.Test.YtacekpdjapgfcaaGreatDoorH0ad
import Derived.Test.YtacekpdjapgfcaaGreatDoorH0ah
import Derived.Sort.OwnSorted
import Derived.Lib.Split
import Derived.Lib.RowBridge
namespace Go.Proofs.YtacekpdjapgfcaaGreatDoor
open Go Go.RowKit Go.Q
set_option linter.unusedSimpArgs false
set_option maxRecDepth 20000 in
theorem r02Of_any (n : Int) (w : World) :
    Calls Tryz.prog 51 #[.int .i64 n] w fun e w' => e = .returned (tagV (tagOf n)) ∧ Fr (fun _ => False) w w' := by
  rcases Classical.em (n = 16) with h | h
  case' inl => subst h
  case' inr => have h16 : (n == 16) = false := beq_eq_false_iff_ne.2 h
  case' inl =>
    go_enter Tryz.func51, Tryz.ntmps51
    go_wp2_with fail
    exact bodyPost_ret (v := tagV ⟨0, 16, true⟩) (by simp [results, Tryz.results51, go_sem, tagV]) rfl ⟨rfl, (Fr.refl w).alloc _⟩
  case' inr =>
    go_enter Tryz.func51, Tryz.ntmps51
    go_wp2_with fail
    exact bodyPost_ret (v := tagV ⟨0, n, n == 17⟩) (by simp [results, Tryz.results51, go_sem, tagV]) rfl ⟨by simp [tagOf, tagV, h16], (Fr.refl w).alloc _⟩
set_option maxRecDepth 20000 in
theorem r02Length_any (n : Nat) (hn : n ≤ 16777216) (w : World) :
    Calls Tryz.prog 102 #[.int .i64 n] w fun e w' => ∃ v, e = .returned v ∧ w'.ownsRow w.heap.size 5 1 v (lenBytes n).length (Lib.byteCells (lenBytes n)) ∧ Fr (fun _ => False) w w' := by
  have key : ∀ cs : Array Value, cs = (Lib.byteCells (lenBytes n)).toArray → (lenBytes n).length ≤ 5 → (w.alloc (.cells cs 5)).ownsRow w.heap.size 5 1 (.slice (some ⟨w.heap.size, 0, none⟩) (lenBytes n).length (lenBytes n).length) (lenBytes n).length (Lib.byteCells (lenBytes n)) ∧ Fr (fun _ => False) w (w.alloc (.cells cs 5)) := by
    rintro cs rfl h5
    exact ⟨own_bytes (Blk.new w 5 _) (by omega) _ (Nat.le_refl _), (Fr.refl w).alloc _⟩
  by_cases h1 : n < 128
  · have q1 : (n : Int) < 128 := by omega
    have hL : lenBytes n = [UInt8.ofNat n] := by simp [lenBytes, h1]
    rw [hL] at key ⊢
    have HK := Lib.hid key
    clear key hL
    go_enter Tryz.func102, Tryz.ntmps102
    go_wp2_with fail
    go_ret
    refine ⟨_, rfl, HK.out _ ?_ (by simp)⟩
    simp [Lib.byteCells, IntKind.wrap, IntKind.signed, IntKind.bits]
    try omega
  have q1 : ¬ (n : Int) < 128 := by omega
  by_cases h2 : n < 256
  · have q2 : (n : Int) < 256 := by omega
    have hL : lenBytes n = [129, UInt8.ofNat n] := by simp [lenBytes, h1, h2]
    rw [hL] at key ⊢
    have HK := Lib.hid key
    clear key hL
    go_enter Tryz.func102, Tryz.ntmps102
    go_wp2_with fail
    go_ret
    refine ⟨_, rfl, HK.out _ ?_ (by simp)⟩
    simp [Lib.byteCells, IntKind.wrap, IntKind.signed, IntKind.bits]
    try omega
  have q2 : ¬ (n : Int) < 256 := by omega
  by_cases h3 : n < 65536
  · have q3 : (n : Int) < 65536 := by omega
    have hL : lenBytes n = [130, UInt8.ofNat (n / 256), UInt8.ofNat (n % 256)] := by simp only [lenBytes, h1, h2, h3, if_true, if_false]
    rw [hL] at key ⊢
    have HK := Lib.hid key
    clear key hL
    go_enter Tryz.func102, Tryz.ntmps102
    go_wp2_with fail
    go_ret
    refine ⟨_, rfl, HK.out _ ?_ (by simp)⟩
    simp [Lib.byteCells, IntKind.wrap, IntKind.signed, IntKind.bits]
    try omega
  have q3 : ¬ (n : Int) < 65536 := by omega
  by_cases h4 : n < 16777216
  · have q4 : (n : Int) < 16777216 := by omega
    have hL : lenBytes n = [131, UInt8.ofNat (n / 65536), UInt8.ofNat (n / 256 % 256), UInt8.ofNat (n % 256)] := by simp only [lenBytes, h1, h2, h3, h4, if_true, if_false]
    rw [hL] at key ⊢
    have HK := Lib.hid key
    clear key hL
    go_enter Tryz.func102, Tryz.ntmps102
    go_wp2_with fail
    go_ret
    refine ⟨_, rfl, HK.out _ ?_ (by simp)⟩
    simp [Lib.byteCells, IntKind.wrap, IntKind.signed, IntKind.bits]
    try omega
  have q4 : ¬ (n : Int) < 16777216 := by omega
  · have hL : lenBytes n = [132, UInt8.ofNat (n / 16777216), UInt8.ofNat (n / 65536 % 256), UInt8.ofNat (n / 256 % 256), UInt8.ofNat (n % 256)] := by simp only [lenBytes, h1, h2, h3, h4, if_false]
    rw [hL] at key ⊢
    have HK := Lib.hid key
    clear key hL
    go_enter Tryz.func102, Tryz.ntmps102
    go_wp2_with fail
    go_ret
    refine ⟨_, rfl, HK.out _ ?_ (by simp)⟩
    simp [Lib.byteCells, IntKind.wrap, IntKind.signed, IntKind.bits]
    try omega
set_option maxRecDepth 20000 in
theorem r02Bytes_any (t : Tag) (h : tagGood t) (w : World) :
    Calls Tryz.prog 101 #[tagV t] w fun e w' => ∃ v, e = .returned v ∧ w'.ownsRow w.heap.size 5 1 v 1 (Lib.byteCells [tagByte t]) ∧ Fr (fun _ => False) w w' := by
  have hv := tagByte_val h
  have key : ∀ (w' : World) (cs : Array Value), cs = (Lib.byteCells [tagByte t]).toArray → Fr (fun _ => False) w w' → (w'.alloc (.cells cs 5)).ownsRow w.heap.size 5 1 (.slice (some ⟨w'.heap.size, 0, none⟩) 1 1) 1 (Lib.byteCells [tagByte t]) ∧ Fr (fun _ => False) w (w'.alloc (.cells cs 5)) := by
    rintro w' cs rfl F
    exact ⟨own_bytes (l := [tagByte t]) (Blk.new w' 5 _) (by simp) _ F.size, F.alloc _⟩
  obtain ⟨⟨h1, h2⟩, h3, h4⟩ := h
  obtain ⟨c, n, m⟩ := t
  simp only at h1 h2 h3 h4
  have HV := Lib.hid hv
  have HK := Lib.hid key
  have B := Blk.new w 86 #[.int .i64 c, .int .i64 n, .bool m]
  have F0 : Fr (fun _ => False) w (w.alloc (.cells #[.int .i64 c, .int .i64 n, .bool m] 86)) := (Fr.refl w).alloc _
  have q1 : n < 31 := h4
  clear hv key
  rw [show tagV ⟨c, n, m⟩ = .agg #[.int .i64 c, .int .i64 n, .bool m] from rfl]
  cases m
  all_goals
    go_enter Tryz.func101, Tryz.ntmps101
    go_upto_region 1 with fail
    generalize hz : w.heap.size = z at B ⊢
    have HZ := Lib.hid hz
    generalize (w.alloc (.cells _ 86)) = w0 at *
    clear hz
    have S := B.cell
    go_wp2_with fail
    go_ret
    refine ⟨_, rfl, ?_⟩
    rw [← HZ.out]
    refine HK.out _ _ ?_ F0
    have := HV.out
    simp at this
    simp [Lib.byteCells, IntKind.wrap, IntKind.signed, IntKind.bits, this]
    try omega
set_option maxRecDepth 20000 in
theorem r02Wrap_any (t : Tag) (ht : tagGood t) (v : Value) (l : List UInt8) (w : World) (hv : Bytes w v l) (hl : l.length ≤ 16777216) :
    Calls Tryz.prog 50 #[tagV t, v] w fun e w' => ∃ v', e = .returned v' ∧ w'.ownsRow w.heap.size 5 1 v' (wrapS t l).length (Lib.byteCells (wrapS t l)) ∧ Fr (fun _ => False) w w' := by
  obtain ⟨a, cap, rfl, -⟩ := hv.form
  have HB := Lib.hid hv
  have HT := Lib.hid ht
  obtain ⟨N, hN⟩ : ∃ N, N = l.length := ⟨_, rfl⟩
  have HN := Lib.hid hN
  rw [← hN] at hl ⊢
  obtain ⟨c, n, m⟩ := t
  have B := Blk.new w 86 #[.int .i64 c, .int .i64 n, .bool m]
  have F0 : Fr (fun _ => False) w (w.alloc (.cells #[.int .i64 c, .int .i64 n, .bool m] 86)) := (Fr.refl w).alloc _
  obtain ⟨z, hz⟩ : ∃ z, z = w.heap.size := ⟨_, rfl⟩
  rw [← hz] at B
  have HZ := Lib.hid hz
  clear hz hv ht hN
  rw [show tagV ⟨c, n, m⟩ = .agg #[.int .i64 c, .int .i64 n, .bool m] from rfl]
  go_enter Tryz.func50, Tryz.ntmps50
  go_upto_region 1 with fail
  rw [← HZ.out]
  generalize (w.alloc (.cells #[.int .i64 c, .int .i64 n, .bool m] 86)) = w0 at *
  have S := B.cell
  go_wp2_with fail
  refine (r02Bytes_any ⟨c, n, m⟩ HT.out w0).mono ?_
  rintro e w1 ⟨vb, rfl, hob, F1⟩
  have G1 := F0.trans F1
  have hob' := own_le hob F0.size
  obtain ⟨ab, cb, rfl, -⟩ := (Vals.of_own hob').1.form
  have HOB := Lib.hid hob'
  clear hob hob' F0 F1 B S
  go_wp2_with fail
  refine (r02Length_any N hl w1).mono ?_
  rintro e w2 ⟨vd, rfl, hod, F2⟩
  have G2 := G1.trans F2
  have hb0 : w.heap.size ≤ w2.heap.size := G2.size
  have ho1 := ownsRow_fr HOB.out F2 (fun _ _ h => h)
  have hvd := (Vals.of_own hod).1
  obtain ⟨ad, cd, rfl, -⟩ := hvd.form
  obtain ⟨v3, w3, hr3, ho3, F3, _⟩ := append_bytes ho1 ad _ cd (lenBytes N) hvd (by have := len_small N hl; simp; omega) hb0
  have hvb := (Vals.of_own ho1).2
  have G3 := G2.trans' F3 (fun i hi e => absurd hi (by have := hvb i e; omega))
  have hll : (Lib.byteCells (lenBytes N)).length = (lenBytes N).length := byteCells_len _
  obtain ⟨a3, c3, rfl, -⟩ := (Vals.of_own ho3).1
  have hb3 : w.heap.size ≤ w3.heap.size := G3.size
  obtain ⟨v4, w4, hr4, ho4, F4, _⟩ := append_bytes ho3 a _ cap l (HB.out.old G3) (by have := len_small N hl; have := HN.out; simp; omega) hb3
  have hvb4 := (Vals.of_own ho3).2
  have G4 := G3.trans' F4 (fun i hi e => absurd hi (by have := hvb4 i e; omega))
  rw [← HN.out] at hr4 ho4
  have HO4 := Lib.hid ho4
  have HG4 := Lib.hid G4
  clear hod G2 ho1 hvd ho3 F3 hvb G3 F2 F4 hvb4 G4 ho4
  generalize (Lib.byteCells ([tagByte ⟨c, n, m⟩] ++ lenBytes N)).length = L3 at *
  go_wp2_with (at_builtin; first
    | refine wpList_append_run (by rfl) (.tmp 7) (.tmp 10) 23 (by rfl) _ w3 (by exact hr3) ?_
    | refine wpList_append_run (by rfl) (.tmp 12) (.tmp 13) 23 (by rfl) _ w4 (by exact hr4) ?_)
  go_ret
  refine ⟨_, rfl, ?_, HG4.out⟩
  have := HO4.out
  have e : wrapS ⟨c, n, m⟩ l = [tagByte ⟨c, n, m⟩] ++ lenBytes N ++ l := by rw [wrapS, ← HN.out]; simp
  rw [wrap_len, ← HN.out, e]
  exact this
end Go.Proofs.YtacekpdjapgfcaaGreatDoor

namespace Go.Proofs.YtacekpdjapgfcaaGreatDoor
open Go Go.RowKit Go.Q
set_option linter.unusedSimpArgs false
set_option maxRecDepth 20000 in
set_option maxHeartbeats 2000000 in
theorem r04digits_any : ∀ (n : Nat), n ≤ 2147483647 → ∀ (w : World),
    Calls Tryz.prog 301 #[.int .i64 n] w fun e w' => ∃ v, e = .returned v ∧ w'.ownsRow w.heap.size 5 1 v (base128 n).length (Lib.byteCells (base128 n)) ∧ Fr (fun _ => False) w w' := by
  intro n
  induction n using Nat.strongRecOn with
  | _ n ih =>
  intro hn w
  by_cases h128 : n < 128
  · have q1 : (n : Int) < 128 := by omega
    have hL := base128_small h128
    rw [hL]
    have hw8 : IntKind.u8.wrap (n : Int) = (n : Int) := by simp [IntKind.wrap, IntKind.signed, IntKind.bits]; omega
    have hk : (w.alloc (.cells #[.int .u8 n] 5)).ownsRow w.heap.size 5 1 (.slice (some ⟨w.heap.size, 0, none⟩) 1 1) 1 (Lib.byteCells [UInt8.ofNat n]) := by
      have e8 := u8 n (by omega)
      have BX := Blk.new w 5 #[.int .u8 n]
      have BX' : Blk (w.alloc (.cells #[.int .u8 n] 5)) w.heap.size 5 (Lib.byteCells [UInt8.ofNat n]).toArray := by
        simpa [Lib.byteCells, e8] using BX
      exact own_bytes BX' (by simp) w.heap.size (Nat.le_refl _)
    have HK := Lib.hid hk
    clear hk hL ih
    go_enter Tryz.func301, Tryz.ntmps301
    go_wp2_with fail
    go_ret
    exact ⟨_, rfl, HK.out, (Fr.refl w).alloc _⟩
  · have q1 : ¬ (n : Int) < 128 := by omega
    obtain ⟨front, e1, e2⟩ := base128_step (n := n) (by omega) hn
    have HC := Lib.hid (ih (n / 128) (by omega) (by omega) w)
    have hq : (n : Int) / 128 = ((n / 128 : Nat) : Int) := by omega
    have HE1 := Lib.hid e1
    have HE2 := Lib.hid e2
    obtain ⟨y, hy⟩ : ∃ y, y = n / 128 % 128 := ⟨_, rfl⟩
    have hyl : y < 128 := by omega
    rw [← hy] at HE1 HE2
    obtain ⟨r, hr⟩ : ∃ r, r = n % 128 := ⟨_, rfl⟩
    have hrl : r < 128 := by omega
    rw [← hr] at HE2
    have hri : (n : Int) % 128 = (r : Int) := by omega
    have hw8 : IntKind.u8.wrap (r : Int) = (r : Int) := by simp [IntKind.wrap, IntKind.signed, IntKind.bits]; omega
    have hw9 : IntKind.u8.wrap ((y : Int) + 128) = (y : Int) + 128 := by simp [IntKind.wrap, IntKind.signed, IntKind.bits]; omega
    generalize n / 128 = m at *
    clear ih e1 e2 hy hr
    go_enter Tryz.func301, Tryz.ntmps301
    go_wp2_with fail
    refine HC.out.mono ?_
    rintro e w1 ⟨v, rfl, ho, F1⟩
    obtain ⟨a, l, c, rfl, rfl⟩ := own_shape ho
    rw [HE1.out] at ho
    have hbl : (base128 m).length = front.length + 1 := by rw [HE1.out]; simp
    rw [hbl]
    have hcells : Lib.byteCells (front ++ [UInt8.ofNat y]) = Lib.byteCells front ++ [.int .u8 y] := by
      have := u8 y (by omega)
      simp [Lib.byteCells, this]
    have hlen : (front ++ [UInt8.ofNat y]).length = front.length + 1 := by simp
    rw [hlen, hcells] at ho
    obtain ⟨g, rfl, hg1, hg2, -, hlc, hcm, hfz, hcell, hset, F2⟩ := own_set ho front.length (by omega) (.int .u8 ((y : Int) + 128))
    have hfl : (Lib.byteCells front).length = front.length := byteCells_len front
    rw [List.getElem?_append_right (by omega), hfl, Nat.sub_self] at hcell
    simp only [List.getElem?_cons_zero] at hcell
    have hcells2 : (Lib.byteCells front ++ [Value.int .u8 y]).set front.length (.int .u8 ((y : Int) + 128)) = Lib.byteCells (front ++ [UInt8.ofNat (y + 128)]) := by
      have := u8 (y + 128) (by omega)
      rw [List.set_append_right _ _ (by omega), hfl, Nat.sub_self]
      simp [Lib.byteCells, this]
      try omega
    rw [hcells2] at hset
    have HSET := Lib.hid hset
    have HF2 := Lib.hid (F1.trans' F2 (fun i hi e => by omega))
    have hi1 : ((front.length + 1 : Nat) : Int) - 1 = (front.length : Int) := by omega
    have hln : front.length < 1000 := by
      have : (base128 m).length ≤ 6 := by
        unfold base128
        have h5 := up7_len 5 (m / 128)
        simp only [List.length_reverse, List.length_cons]
        omega
      omega
    clear ho hset F1 F2 HC hcells hcells2 hlen hbl hfl
    go_upto_region 5 with fail
    generalize (w1.setCell ⟨g, front.length, none⟩ (.int .u8 ((y : Int) + 128))) = w2 at *
    have BX := Blk.new w2 5 #[.int .u8 r]
    have F3 : Fr (fun _ => False) w2 (w2.alloc (.cells #[.int .u8 r] 5)) := (Fr.refl w2).alloc _
    have hsrc : Bytes (w2.alloc (.cells #[.int .u8 r] 5)) (.slice (some ⟨w2.heap.size, 0, none⟩) 1 1) [UInt8.ofNat r] := by
      have e8 := u8 r (by omega)
      have BX' : Blk (w2.alloc (.cells #[.int .u8 r] 5)) w2.heap.size 5 (Lib.byteCells [UInt8.ofNat r]).toArray := by
        simpa [Lib.byteCells, e8] using BX
      exact Vals.of_block BX' (by simp [Lib.byteCells]; unfold maxLen; omega)
    have hs2 := HF2.out.size
    obtain ⟨v4, w4, hr4, ho4, F4, _⟩ := append_bytes (ownsRow_fr HSET.out F3 (fun _ _ h => h)) (some ⟨w2.heap.size, 0, none⟩) 1 1 [UInt8.ofNat r] hsrc (by omega) (Nat.le_trans hs2 F3.size)
    have hvb := (Vals.of_own HSET.out).2
    have HF4 := Lib.hid ((HF2.out.trans F3).trans' F4 (fun i hi e => by have := hvb i e; omega))
    obtain ⟨a4, c4, rfl, -⟩ := (Vals.of_own ho4).1
    rw [← HE2.out] at ho4 hr4
    have hbn : (base128 n).length = front.length + 1 + 1 := by rw [HE2.out]; simp
    rw [← hbn] at ho4
    have HO4 := Lib.hid ho4
    have HRUN := Lib.hid hr4
    clear ho4 hr4 F4 F3 hvb BX hsrc hbn HF2 HSET
    go_wp2_with (at_builtin; refine wpList_append_run (by rfl) (.tmp 24) (.tmp 28) 23 (by rfl) _ w4 (by exact HRUN.out) ?_)
    exact bodyPost_ret (v := .slice a4 (Lib.byteCells (base128 n)).length c4) (by simp [results, Tryz.results301, go_sem]) rfl ⟨_, rfl, HO4.out, HF4.out⟩
set_option maxRecDepth 20000 in
set_option maxHeartbeats 2000000 in
theorem r04Contents_any (v : Value) (o : List Int) (w : World) (h : Ints w v o) (ho : oidOk o = true) :
    Calls Tryz.prog 258 #[v] w fun e w' => ∃ v', e = .returned v' ∧ w'.ownsRow w.heap.size 5 1 v' (oidBytes o).length (Lib.byteCells (oidBytes o)) ∧ Fr (fun _ => False) w w' := by
  obtain ⟨hnm, hol, hol2, hno⟩ := nums_ok ho
  obtain ⟨a, cap, rfl, -, -, hx⟩ := Ints.form h
  obtain ⟨b, off, rfl, hy⟩ := hx (by omega)
  obtain ⟨x0, hx0⟩ : ∃ x, o[0]? = some x := ⟨_, List.getElem?_eq_getElem (by omega)⟩
  obtain ⟨x1, hx1⟩ : ∃ x, o[1]? = some x := ⟨_, List.getElem?_eq_getElem (by omega)⟩
  have e0 := hy 0 x0 hx0
  have e1 := hy 1 x1 hx1
  obtain ⟨N, hN⟩ : ∃ N, N = numsS o := ⟨_, rfl⟩
  have hN0 : N[0]? = some (40 * x0 + x1) := by rw [hN]; simp [numsS, List.getD, hx0, hx1]
  have hNs : ∀ i, N[i + 1]? = o[i + 2]? := fun i => by
    rw [hN]
    simp only [numsS, List.getElem?_cons_succ, List.getElem?_drop]
    congr 1
    omega
  have hob : oidBytes o = N.flatMap fun n => base128 n.toNat := by rw [hN]; rfl
  rw [← hN] at hnm hno
  rw [hob]
  have h0 := hno _ (List.mem_of_getElem? hN0)
  obtain ⟨m, hm⟩ : ∃ m : Nat, 40 * x0 + x1 = (m : Int) := ⟨(40 * x0 + x1).toNat, by omega⟩
  have hml : m ≤ 2147483647 := by omega
  have hft1 : ((N.take 1).flatMap fun n => base128 n.toNat) = base128 m := by
    have : N.take 1 = [(m : Int)] := by
      rw [show (1 : Nat) = 0 + 1 from rfl, List.take_add_one, hN0, hm]
      rfl
    rw [this]
    simp
  have hwm : 40 * x0 ≤ 4611686018427387904 ∧ -4611686018427387904 ≤ 40 * x0 := by
    have g : ∀ i, i < o.length → arcOk (o.getD i 0) = true := fun i hi => by
      simp only [oidOk, Bool.and_eq_true, decide_eq_true_eq] at ho
      rw [List.getD_eq_getElem?_getD, List.getElem?_eq_getElem hi]
      exact List.all_eq_true.1 ho.1.2 _ (List.getElem_mem hi)
    have g0 := g 0 (by omega)
    simp only [arcOk, List.getD, hx0, Option.getD_some, decide_eq_true_eq] at g0
    omega
  obtain ⟨M, hM⟩ : ∃ M, M = (N.flatMap fun n => base128 n.toNat).length := ⟨_, rfl⟩
  rw [← hM]
  have HM := Lib.hid hM
  clear hM
  have HY := Lib.hid hy
  have HNO := Lib.hid hno
  have HNS := Lib.hid hNs
  have HFT1 := Lib.hid hft1
  have r2 : ¬ (o.length : Int) < 2 := by omega
  have r0 : (0 : Int) < (o.length : Int) := by omega
  have r1 : (1 : Int) < (o.length : Int) := by omega
  have r0N : 0 < o.length := by omega
  have r1N : 1 < o.length := by omega
  have hw1 : IntKind.i64.wrap (40 * x0) = 40 * x0 := by simp [IntKind.wrap, IntKind.signed, IntKind.bits]; omega
  have hw2 : IntKind.i64.wrap (m : Int) = (m : Int) := by simp [IntKind.wrap, IntKind.signed, IntKind.bits]; omega
  simp only [Nat.add_zero] at e0
  have G : Fr (fun _ => False) w w.drew := (Fr.refl w).drew
  clear h hx hy hx0 hx1 hN0 hNs hN hob h0 hno hft1 ho
  go_enter Tryz.func258, Tryz.ntmps258
  go_upto_region 3 with fail
  have E0 : w.drew.cell? ⟨b, off, none⟩ = some (.int .i64 x0) := e0
  have E1 : w.drew.cell? ⟨b, off + 1, none⟩ = some (.int .i64 x1) := e1
  go_region_held3 (fun w' => w'.cell? ⟨b, off, none⟩ = some (.int .i64 x0) ∧ w'.cell? ⟨b, off + 1, none⟩ = some (.int .i64 x1)) (exact ⟨E0, E1⟩) (first | (go_at_call 301; (try rw [hw2]); refine (r04digits_any m hml _).mono ?_; rintro e w' ⟨v, rfl, hv, F⟩; obtain ⟨av, mv, cv, rfl, rfl⟩ := own_shape hv; replace E0 := F.cell E0 (fun h => h); replace E1 := F.cell E1 (fun h => h); replace G := G.trans F))
  all_goals
    rw [World.size_drew] at hv
    have HV := Lib.hid hv
    have HG0 := Lib.hid G
    obtain ⟨L0, hL0⟩ : ∃ L0, L0 = (base128 m).length := ⟨_, rfl⟩
    rw [← hL0] at HV ⊢
    have HL0 := Lib.hid hL0
    clear hv G F E0 E1 e0 e1 hL0
    go_wp2_with fail
    go_loopg [3, 4] (o.length - 1) (fun g u i wr => ∃ (j : Nat) (L : Nat) (a1 : Option Addr) (c1 : Nat), g = o.length - j ∧ 1 ≤ j ∧ j + 1 ≤ o.length ∧ u = .slice a1 L c1 ∧ i = .int .i64 ((j : Int) + 1) ∧ L = ((N.take j).flatMap fun n => base128 n.toNat).length ∧ wr.ownsRow w.heap.size 5 1 (.slice a1 L c1) L (Lib.byteCells ((N.take j).flatMap fun n => base128 n.toNat)) ∧ Fr (fun _ => False) w wr)
    case atStart => exact ⟨1, L0, av, cv, rfl, Nat.le_refl _, by omega, rfl, rfl, by rw [HFT1.out, HL0.out], by rw [HFT1.out]; exact HV.out, HG0.out⟩
    case round =>
      obtain ⟨j, L, a1, c1, hg, hj1, hj2, rfl, rfl, hL, ho1, F1⟩ := hrel
      have HG := Lib.hid hg
      have HO1 := Lib.hid ho1
      have HF1 := Lib.hid F1
      have HL := Lib.hid hL
      have hLl : L ≤ 2000 := by
        have h1 := flat128_len (N.take j)
        rw [← hL, List.length_take] at h1
        omega
      clear hg ho1 hL
      by_cases hjl : j + 1 < o.length
      · obtain ⟨x, hxj⟩ : ∃ x, o[j + 1]? = some x := ⟨_, List.getElem?_eq_getElem hjl⟩
        have ex := F1.cell (HY.out (j + 1) x hxj) (fun h => h)
        have hNj : N[j]? = some x := by
          have := HNS.out (j - 1)
          rw [show j - 1 + 1 = j from by omega, show j - 1 + 2 = j + 1 from by omega, hxj] at this
          exact this
        have hxb := HNO.out x (List.mem_of_getElem? hNj)
        obtain ⟨y, hyx⟩ : ∃ y : Nat, x = (y : Int) := ⟨x.toNat, by omega⟩
        subst hyx
        have hft : ((N.take (j + 1)).flatMap fun n => base128 n.toNat) = ((N.take j).flatMap fun n => base128 n.toNat) ++ base128 y := by
          rw [List.take_add_one, hNj]
          simp
        have HFT := Lib.hid hft
        have q1 : (0 : Int) ≤ (j : Int) + 1 := by omega
        have q2 : (j : Int) + 1 < (o.length : Int) := by omega
        have hin : ((j : Int) + 1).toNat = j + 1 := by omega
        have HD := Lib.hid (r04digits_any y (by omega) wr)
        clear hxj hNj hft F1
        go_wp2_with fail
        refine HD.out.mono ?_
        rintro e w3 ⟨v3, rfl, ho3, F3⟩
        obtain ⟨a3, l3, c3, rfl, rfl⟩ := own_shape ho3
        have hs1 := HF1.out.size
        have hv3 := (Vals.of_own ho3).1
        have hbl := (base128_len y).1
        obtain ⟨v4, w4, hr4, ho4, F4, _⟩ := append_bytes (ownsRow_fr HO1.out F3 (fun _ _ h => h)) a3 (base128 y).length c3 (base128 y) hv3 (by omega) (Nat.le_trans hs1 F3.size)
        have hvb := (Vals.of_own HO1.out).2
        have HF4 := Lib.hid ((HF1.out.trans F3).trans' F4 (fun i hi e => by have := hvb i e; omega))
        obtain ⟨a4, m4, c4, rfl, rfl⟩ := own_shape ho4
        rw [← HFT.out] at ho4
        have HO4 := Lib.hid ho4
        have HRUN := Lib.hid hr4
        clear ho4 hr4 F4 F3 hvb ho3 hv3 HO1 HF1
        go_wp2_with (at_builtin; refine wpList_append_run (by rfl) (.tmp 23) (.tmp 28) 23 (by rfl) _ w4 (by exact HRUN.out) ?_)
        go_roundg (o.length - (j + 1))
        case measure => rw [HG.out]; omega
        case rel => exact ⟨j + 1, L + (base128 y).length, a4, c4, rfl, by omega, by omega, rfl, by go_num, by rw [HFT.out, List.length_append, ← HL.out], HO4.out, HF4.out⟩
      · have q2 : ¬ (j : Int) + 1 < (o.length : Int) := by omega
        have hall : N.take j = N := List.take_of_length_le (by omega)
        have hlo := HL.out
        have ho1 := HO1.out
        rw [hall] at hlo ho1
        have HO2 := Lib.hid ho1
        have HLO := Lib.hid hlo
        clear hall hlo ho1 HO1 HL
        go_wp2_with fail
        exact bodyPost_ret (v := .slice a1 L c1) (by simp [results, Tryz.results258, go_sem]) rfl ⟨_, rfl, by rw [HM.out, ← HLO.out]; exact HO2.out, HF1.out⟩
set_option maxRecDepth 20000 in
set_option maxHeartbeats 2000000 in
theorem r04Whole_any (v : Value) (o : List Int) (w : World) (h : Ints w v o) (ho : oidOk o = true) :
    Calls Tryz.prog 219 #[v] w fun e w' => ∃ v', e = .returned v' ∧ w'.ownsRow w.heap.size 5 1 v' (oidWhole o).length (Lib.byteCells (oidWhole o)) ∧ Fr (fun _ => False) w w' := by
  have hol := oidBytes_len (nums_ok ho).2.1
  have HB := Lib.hid h
  have HO := Lib.hid ho
  clear h ho
  go_enter Tryz.func219, Tryz.ntmps219
  go_wp2_with fail
  refine (r02Of_any 6 w).mono ?_
  rintro e w1 ⟨rfl, F1⟩
  have HF1 := Lib.hid F1
  rw [show tagV (tagOf 6) = .agg #[.int .i64 0, .int .i64 6, .bool false] from rfl]
  clear F1
  go_wp2_with fail
  refine (r04Contents_any v o w1 (HB.out.old HF1.out) HO.out).mono ?_
  rintro e w2 ⟨v2, rfl, ho2, F2⟩
  have hB2 := (Vals.of_own ho2).1
  obtain ⟨a2, c2, rfl, -⟩ := hB2.form
  have HB2 := Lib.hid hB2
  have HF2 := Lib.hid (HF1.out.trans F2)
  clear ho2 hB2 F2
  go_wp2_with fail
  refine (r02Wrap_any (tagOf 6) (good_of (by omega) (by omega)) _ (oidBytes o) w2 HB2.out (by omega)).mono ?_
  rintro e w3 ⟨v3, rfl, ho3, F3⟩
  obtain ⟨a3, m3, c3, rfl, rfl⟩ := own_shape ho3
  have HO3 := Lib.hid (own_le ho3 HF2.out.size)
  have HF3 := Lib.hid (HF2.out.trans F3)
  clear ho3 F3
  go_wp2_with fail
  exact bodyPost_ret (v := .slice a3 _ c3) (by simp [results, Tryz.results219, go_sem]) rfl ⟨_, rfl, HO3.out, HF3.out⟩
end Go.Proofs.YtacekpdjapgfcaaGreatDoor

namespace Go.Q
open Go Go.RowKit
def leastK (l : List UInt8) : Int := if rightS 19 l = true then 19 else if rightS 12 l = true then 12 else 20
end Go.Q
namespace Go.Proofs.YtacekpdjapgfcaaGreatDoor
open Go Go.RowKit Go.Q
end Go.Proofs.YtacekpdjapgfcaaGreatDoor

namespace Go.Q
open Go Go.RowKit
abbrev BldAt (w : World) (base b : Nat) (l : List UInt8) : Prop := Lib.IsBuilder 276 5 base b (Lib.byteCells l) w
theorem BldAt.old {w w' : World} {base b : Nat} {l : List UInt8} (h : BldAt w base b l) (f : Fr (fun _ => False) w w') : BldAt w' base b l := by
  have g : ∀ p, Lib.BuilderAt 276 5 base b p (Lib.byteCells l) w → Lib.BuilderAt 276 5 base b p (Lib.byteCells l) w' := by
    rintro p ⟨hB, v, hb, hown, hne⟩
    exact ⟨hB, v, (f.block b (Array.getElem?_eq_some_iff.1 hb).1 (fun h => h)).trans hb, Go.Proofs.YtacekpdjapgfcaaGreatDoor.ownsRow_fr hown f (fun _ _ h => h), hne⟩
  rcases h with h | h
  · exact .inl (g _ h)
  · exact .inr (g _ h)
theorem BldAt.new (w : World) : BldAt (w.alloc (.cells #[.pointer none, .slice none 0 0] 276)) w.heap.size w.heap.size [] :=
  .inl ⟨Nat.le_refl _, .slice none 0 0, Blk.new w _ _, ⟨rfl, .inl ⟨rfl, rfl⟩⟩, by simp [Value.ownBlock]⟩
theorem Fr.of_below_at {B : Nat} {w w' : World} (h : Below B w w') : Fr (fun k => B ≤ k) w w' := ⟨h.os, h.tape, h.output, h.size, fun k _ hk => h.block k (by omega)⟩
end Go.Q
namespace Go.Proofs.YtacekpdjapgfcaaGreatDoor
open Go Go.RowKit Go.Q
abbrev Pows (w : World) : Prop := Lib.TabIs Tryz.prog w "internal/strconv.uint64pow10" .u64 Lib.pow10Tab
theorem Pows.fr {S : Nat → Prop} {w w' : World} (h : Pows w) (f : Fr S w w') (hS : ¬ S 0) : Pows w' := by
  have hg : Tryz.prog.globalNamed "internal/strconv.uint64pow10" = some 0 := by kernel_rfl
  unfold Pows Lib.TabIs at *
  rw [← h]
  unfold World.var? at *
  rw [hg] at h ⊢
  simp only [Option.bind_some] at h ⊢
  have hlt : 0 < w.heap.size := by
    rcases Nat.lt_or_ge 0 w.heap.size with h1 | h1
    · exact h1
    · rw [Array.getElem?_eq_none h1] at h; cases h
  rw [f.block _ hlt hS]
theorem Pows.old {w w' : World} (h : Pows w) (f : Fr (fun _ => False) w w') : Pows w' := h.fr f (fun h => h)
set_option maxRecDepth 100000 in
theorem bldCheck_any {w : World} {base b : Nat} {l : List UInt8} (h : BldAt w base b l) :
    Calls Tryz.prog 255 #[pt b] w fun e w' => e = .returned (.tuple #[]) ∧ Lib.BuilderAt 276 5 base b (pt b) (Lib.byteCells l) w' ∧ Below base w w' := by
  have hsz : (Tryz.prog.info? 276).map (·.size) = some 2 := by kernel_rfl
  obtain ⟨j, hj, hjs⟩ := Option.map_eq_some_iff.1 hsz
  rcases h with h | h
  · have h0 := h.cell0
    have hsh := h.shape
    have hfz := h.frozen0
    have H := Lib.hid h
    clear h hsz
    have hl : liesAt Tryz.prog Tryz.prog.depth 276 (2 / Tryz.prog.cellsOf 276) 0 276 1 = true := by kernel_rfl
    have r1 := Lib.run_to_unsafe (P := Tryz.prog) w ⟨b, 0, none⟩ Tryz.underlying274 Tryz.underlying338 hj (by rw [hjs]; decide) hsh (Nat.zero_lt_succ 1)
    have r3 := Lib.run_from_unsafe (P := Tryz.prog) w ⟨b, 0, none⟩ Tryz.underlying338 Tryz.underlying274 hj hsh hl
    have r2 : (callFunc 299 #[.pointer (some ⟨b, 0, none⟩)]).run Tryz.prog w = .ok (.value (.pointer (some ⟨b, 0, none⟩))) w := by
      rw [run_callFunc_extern Tryz.func299 (by kernel_rfl) (by kernel_rfl) (by kernel_rfl) (e := Extern.AbiNoEscape.same) (by kernel_rfl), Lib.run_noEscape]
      rfl
    go_enter Tryz.func255, Tryz.ntmps255
    go_wp2
    go_end0
    exact ⟨rfl, H.out.used _, (Below.refl base w).setCell (p := ⟨b, 0, none⟩) H.out.1 _⟩
  · have h0 := h.cell0
    have H := Lib.hid h
    have r1 := Lib.run_neq_ptr_same (P := Tryz.prog) w (tp := 274) ⟨b, 0, none⟩ Tryz.underlying274 hj
    clear h hsz
    go_enter Tryz.func255, Tryz.ntmps255
    go_wp2
    go_end0
    exact ⟨rfl, H.out, Below.refl base w⟩
theorem info_u8 : (Tryz.prog.info? 5).map (fun i => (i.zero, i.size, i.bytes)) = some (some (.int .u8 0), 1, 1) := by kernel_rfl
theorem bld_put {w w2 : World} {base b : Nat} {l m : List UInt8} {v v' : Value} (hB : base ≤ b) (hbk : w.heap[b]? = some (.cells #[pt b, v] 276 (0, 0))) (hne : v.ownBlock ≠ some b) (F : Fr (fun k => v.ownBlock = some k) w w2) (hown : w2.ownsRow base 5 1 v' (l ++ m).length (Lib.byteCells (l ++ m))) :
    w2.heap[b]? = some (.cells #[pt b, v] 276 (0, 0)) ∧ BldAt (w2.setCell ⟨b, 1, none⟩ v') base b (l ++ m) := by
  have hb2 : w2.heap[b]? = some (.cells #[pt b, v] 276 (0, 0)) := (F.block b (Array.getElem?_eq_some_iff.1 hbk).1 hne).trans hbk
  exact ⟨hb2, .inr (Lib.BuilderAt.put (T := 276) (e := 5) hB hb2 (bs' := Lib.byteCells (l ++ m)) (by rw [byteCells_len]; exact hown) (by decide))⟩
set_option maxRecDepth 100000 in
theorem bldByte_any {w : World} {base b : Nat} {l : List UInt8} (c : UInt8) (h : BldAt w base b l) (hl : l.length ≤ 109951162777) (hbw : base ≤ w.heap.size) :
    Calls Tryz.prog 287 #[pt b, .int .u8 c.toNat] w fun e w' => e = .returned .nilIface ∧ BldAt w' base b (l ++ [c]) ∧ Below base w w' := by
  have HC := Lib.hid (bldCheck_any h)
  clear h
  go_enter Tryz.func287, Tryz.ntmps287
  go_wp2_with fail
  refine HC.out.mono ?_
  rintro e w1 ⟨rfl, ⟨hB, v, hbk, hown, hne⟩, hb1⟩
  rw [byteCells_len] at hown
  have c1 : w1.cell? ⟨b, 1, none⟩ = some v := by rw [Lib.cell_of_heap hbk]; rfl
  have F1 : Fr (fun _ => False) w1 (w1.alloc (.cells #[.int .u8 c.toNat] 5)) := (Fr.refl w1).alloc _
  have hs1 := hb1.size
  obtain ⟨a', c', w2, hrun, hown2, F2, hk2⟩ := add_gen Tryz.underlying23 info_u8 rfl (by decide) (by decide) hown (by omega) F1 w1.heap.size [.int .u8 c.toNat] rfl (Blk.new w1 5 #[.int .u8 c.toNat]) (by simp [Value.oneCell']) (by omega)
  have hown2' : w2.ownsRow base 5 1 (.slice a' (l.length + 1) c') (l ++ [c]).length (Lib.byteCells (l ++ [c])) := by
    rw [byteCells_append, List.length_append]
    exact hown2
  obtain ⟨hb2, hat⟩ := bld_put hB hbk hne F2 hown2'
  have HRUN := Lib.hid hrun
  have HAT := Lib.hid hat
  have d1 : w2.cell? ⟨b, 1, none⟩ = some v := by rw [Lib.cell_of_heap hb2]; rfl
  have f1 : w2.frozen? ⟨b, 1, none⟩ = false := Lib.frozen_of_heap hb2 1
  have hvb := (Vals.of_own hown).2
  have HBL := Lib.hid ((hb1.trans (Fr.below (B := base) F2 (by omega) (fun i hi e => by have := (hvb i e).1; omega))).setCell (p := ⟨b, 1, none⟩) hB (.slice a' (l.length + 1) c'))
  clear HC hbk hown F1 F2 hrun hown2 hown2' hb2 hat hk2 hb1 hne hvb
  go_wp2_with (at_builtin; refine wpList_append_run (by rfl) (.tmp 11) (.tmp 13) 23 (by rfl) _ w2 (by exact HRUN.out) ?_)
  go_ret
  exact ⟨rfl, HAT.out, HBL.out⟩
set_option maxRecDepth 100000 in
theorem bldString_any {w : World} {base b : Nat} {l : List UInt8} (m : List UInt8) (h : BldAt w base b l) (hl : l.length + m.length ≤ 1099511627776) (hbw : base ≤ w.heap.size) :
    Calls Tryz.prog 208 #[pt b, str m] w fun e w' => e = .returned (.tuple #[.int .i64 m.length, .nilIface]) ∧ BldAt w' base b (l ++ m) ∧ Below base w w' := by
  have HC := Lib.hid (bldCheck_any h)
  obtain ⟨i0, hi, hz0, hz1, hz2⟩ := info_parts info_u8
  have hms : (ByteArray.mk m.toArray).size = m.length := by simp [ByteArray.size]
  clear h
  go_enter Tryz.func208, Tryz.ntmps208
  go_wp2_with fail
  refine HC.out.mono ?_
  rintro e w1 ⟨rfl, ⟨hB, v, hbk, hown, hne⟩, hb1⟩
  rw [byteCells_len] at hown
  have c1 : w1.cell? ⟨b, 1, none⟩ = some v := by rw [Lib.cell_of_heap hbk]; rfl
  have hs1 := hb1.size
  go_wp2_with (at_builtin; refine Lib.wpList_append_own_string _ (by rfl) (.tmp 12) (.tmp 13) 23 9 (by rfl) base 5 i0 Tryz.underlying23 Tryz.underlying9 hi hz0 hz1 hz2 _ _ _ (by rfl) hown ⟨m.toArray⟩ (by rfl) ?c3 ?c4 ?c5 ?_)
  case c3 => rw [hms]; unfold maxLen; omega
  case c4 => rw [hms]; omega
  case c5 => omega
  intro v' w2 hown2 hgrow _
  have F2 := Fr.of_grown hgrow
  have hsc : Lib.strCells ⟨m.toArray⟩ = Lib.byteCells m := rfl
  have hown2' : w2.ownsRow base 5 1 v' (l ++ m).length (Lib.byteCells (l ++ m)) := by
    rw [byteCells_append, List.length_append, ← hsc, ← hms]
    exact hown2
  obtain ⟨hb2, hat⟩ := bld_put hB hbk hne F2 hown2'
  have HAT := Lib.hid hat
  have d1 : w2.cell? ⟨b, 1, none⟩ = some v := by rw [Lib.cell_of_heap hb2]; rfl
  have f1 : w2.frozen? ⟨b, 1, none⟩ = false := Lib.frozen_of_heap hb2 1
  have hvb := (Vals.of_own hown).2
  have HBL := Lib.hid ((hb1.trans (Fr.below (B := base) F2 (by omega) (fun i hi e => by have := (hvb i e).1; omega))).setCell (p := ⟨b, 1, none⟩) hB v')
  have HMS := Lib.hid hms
  obtain ⟨ao, n', cap, rfl, hnn⟩ := own_shape hown2
  have HNN := Lib.hid hnn
  clear HC hbk hown F2 hown2 hown2' hb2 hat hb1 hne hvb hgrow hsc hms hnn hi hz0 hz1 hz2
  go_wp2_with fail
  go_ret2
  exact ⟨by rw [← HMS.out]; rfl, HAT.out, HBL.out⟩
theorem bldOut_any {w : World} {base b : Nat} {l : List UInt8} (h : BldAt w base b l) (hbw : base ≤ w.heap.size) :
    Calls Tryz.prog 209 #[pt b] w fun e w' => e = .returned (str l) ∧ Below base w w' :=
  Go.Proofs.Tryz.Builder_String_any base b l w h hbw
theorem itoa_any (n : Int) (h0 : -9223372036854775808 ≤ n) (h1 : n ≤ 9223372036854775807) (w : World) (hP : Pows w) :
    Calls Tryz.prog 91 #[.int .i64 n] w fun e w' => e = .returned (str (Lib.itoa n)) ∧ Fr (fun _ => False) w w' := by
  refine (Go.Proofs.Tryz.strconv_Itoa n h0 h1 w hP).mono ?_
  rintro e w' ⟨rfl, k, os, rfl⟩
  exact ⟨rfl, rfl, rfl, rfl, by simp [Sort.grow], fun i hi _ => by simp [Sort.grow, Array.getElem?_append_left hi]⟩
end Go.Proofs.YtacekpdjapgfcaaGreatDoor

namespace Go.Q
open Go Go.RowKit
def gLim : Nat := max (max 4 5) (max 0 1) + 1
structure Env (w : World) : Prop where
  tabs : Tabs w
  pows : Go.Proofs.YtacekpdjapgfcaaGreatDoor.Pows w
  top : ∃ m, w.cell? ⟨1, 0, none⟩ = some (.int .i64 m)
  size : gLim ≤ w.heap.size
theorem Env.fr {S : Nat → Prop} {w w' : World} (h : Env w) (f : Fr S w w') (hS : ∀ k, k < gLim → ¬ S k) : Env w' :=
  ⟨h.tabs.fr f (hS _ (by decide)) (hS _ (by decide)), h.pows.fr f (hS _ (by decide)), by
    obtain ⟨m, hm⟩ := h.top
    exact ⟨m, f.cell hm (hS 1 (by decide))⟩, Nat.le_trans h.size f.size⟩
theorem Env.old {w w' : World} (h : Env w) (f : Fr (fun _ => False) w w') : Env w' := h.fr f (fun _ _ h => h)
theorem Env.below {w w' : World} {B : Nat} (h : Env w) (f : Below B w w') (hB : gLim ≤ B) : Env w' := h.fr (Fr.of_below_at f) (fun k hk e => by omega)
def oidTextS : List Int → List UInt8
  | [] => []
  | n :: t => Lib.itoa n ++ t.flatMap (fun m => 46 :: Lib.itoa m)
theorem oidText_first {o : List Int} {n : Int} (h : o[0]? = some n) : oidTextS (o.take 1) = Lib.itoa n := by
  cases o with
  | nil => cases h
  | cons x t => simp at h; subst h; simp [oidTextS]
theorem oidText_next {o : List Int} {j : Nat} {n : Int} (h : o[j + 1]? = some n) : oidTextS (o.take (j + 1 + 1)) = oidTextS (o.take (j + 1)) ++ [46] ++ Lib.itoa n := by
  cases o with
  | nil => cases h
  | cons x t =>
    rw [List.getElem?_cons_succ] at h
    have e : t.take (j + 1) = t.take j ++ [n] := by rw [List.take_add_one, h]; rfl
    rw [List.take_succ_cons, List.take_succ_cons, e]
    simp [oidTextS]
theorem nDigits_le : ∀ (k u : Nat), u < 10 ^ (k + 1) → Lib.nDigits u ≤ k + 1
  | 0, u, h => by rw [Lib.nDigits_small (by simpa using h)]; exact Nat.le_refl _
  | k + 1, u, h => by
    by_cases hu : u < 10
    · rw [Lib.nDigits_small hu]; omega
    · rw [Lib.nDigits_big hu]
      have := nDigits_le k (u / 10) (by rw [Nat.pow_succ] at h; omega)
      omega
theorem itoa_len {n : Int} (h0 : 0 ≤ n) (h1 : n ≤ 9223372036854775807) : (Lib.itoa n).length ≤ 20 := by
  unfold Lib.itoa
  rw [if_neg (by omega), Lib.decDigits_length]
  exact nDigits_le 19 n.toNat (by
    have e : (10 : Nat) ^ (19 + 1) = 100000000000000000000 := by decide
    rw [e]
    omega)
theorem oidText_len {o : List Int} (h : ∀ n ∈ o, 0 ≤ n ∧ n ≤ 9223372036854775807) : (oidTextS o).length ≤ 21 * o.length := by
  have g : ∀ t : List Int, (∀ n ∈ t, 0 ≤ n ∧ n ≤ 9223372036854775807) → (t.flatMap (fun m => 46 :: Lib.itoa m)).length ≤ 21 * t.length := by
    intro t
    induction t with
    | nil => intro _; simp
    | cons x t ih =>
      intro h
      have h1 := itoa_len (h x (by simp)).1 (h x (by simp)).2
      have h2 := ih (fun n hn => h n (by simp [hn]))
      simp only [List.flatMap_cons, List.length_append, List.length_cons] at h2 ⊢
      omega
  cases o with
  | nil => simp [oidTextS]
  | cons x t =>
    have h1 := itoa_len (h x (by simp)).1 (h x (by simp)).2
    have h2 := g t (fun n hn => h n (by simp [hn]))
    simp only [oidTextS, List.length_append, List.length_cons]
    omega
end Go.Q
namespace Go.Proofs.YtacekpdjapgfcaaGreatDoor
open Go Go.RowKit Go.Q
set_option maxRecDepth 20000 in
set_option maxHeartbeats 1000000 in
theorem oidText_any (v : Value) (o : List Int) (w : World) (h : Ints w v o) (ho : oidOk o = true) (hE : Env w) :
    Calls Tryz.prog 251 #[v] w fun e w' => e = .returned (.tuple #[str (oidTextS o), .int .i64 0]) ∧ Fr (fun _ => False) w w' := by
  have H := Lib.hid h
  have HE := Lib.hid hE
  have hR := Lib.hid (oidRight_any v o w h)
  rw [ho] at hR
  obtain ⟨a, cap, rfl, -⟩ := Ints.form h
  have hok := ho
  simp only [oidOk, Bool.and_eq_true, decide_eq_true_eq] at hok
  obtain ⟨⟨⟨hl1, hl2⟩, hall⟩, -⟩ := hok
  have harc : ∀ n ∈ o, 0 ≤ n ∧ n ≤ 9223372036854775807 := fun n hn => by
    have := List.all_eq_true.1 hall n hn
    simp only [arcOk, decide_eq_true_eq] at this
    omega
  have HA := Lib.hid harc
  have HBN := Lib.hid (BldAt.new w)
  obtain ⟨z, hz⟩ : ∃ z, z = w.heap.size := ⟨_, rfl⟩
  have F0 : Fr (fun _ => False) w (w.alloc (.cells #[.pointer none, .slice none 0 0] 276)) := (Fr.refl w).alloc _
  rw [← hz] at HBN
  have HZ := Lib.hid hz
  have HF0 := Lib.hid (F0.below (B := z) (by omega) (fun _ _ h => h))
  have hs0 := F0.size
  have hgl : gLim ≤ z := by rw [hz]; exact hE.size
  clear h hE ho hall harc hz F0
  go_enter Tryz.func251, Tryz.ntmps251
  go_wp2_with fail
  refine hR.out.mono ?_
  rintro e w' ⟨rfl, rfl⟩
  go_upto_region 4 with fail
  rw [← HZ.out]
  generalize (w.alloc (.cells #[.pointer none, .slice none 0 0] 276)) = w1 at *
  have HS0 := Lib.hid hs0
  rw [← HZ.out] at hs0
  go_wp2_with fail
  go_loopg [12] o.length (fun g i wr => ∃ j : Nat, g = o.length - j ∧ j ≤ o.length ∧ i = .int .i64 j ∧ BldAt wr z z (oidTextS (o.take j)) ∧ Below z w wr ∧ z ≤ wr.heap.size)
  case atStart => exact ⟨0, rfl, Nat.zero_le _, rfl, HBN.out, HF0.out, hs0⟩
  case round =>
    obtain ⟨j, hg, hj, rfl, hB, hBl, hsz⟩ := hrel
    have HG := Lib.hid hg
    have HB := Lib.hid hB
    have HBL := Lib.hid hBl
    clear hg hB hBl
    by_cases hjl : j < o.length
    · have hFr : Fr (fun k => z ≤ k) w wr := Fr.of_below_at HBL.out
      have hoff : Off (.slice a o.length cap) (intCells o).length (fun k => z ≤ k) := fun h0 k hk e => by
        have := H.out.lt h0 k hk
        have := HZ.out
        omega
      obtain ⟨a0, cap0, he, _, _, hx⟩ := Ints.form (H.out.fr hFr hoff)
      simp only [Value.slice.injEq, true_and] at he
      obtain ⟨rfl, rfl⟩ := he
      obtain ⟨b, off, rfl, hy⟩ := hx (by omega)
      obtain ⟨n, hn⟩ : ∃ n, o[j]? = some n := ⟨_, List.getElem?_eq_getElem hjl⟩
      have e1 := hy j n hn
      have hn0 := HA.out n (List.mem_of_getElem? hn)
      have hE1 := HE.out.below HBL.out hgl
      have hlen := oidText_len (o := o.take j) (fun m hm => HA.out m (List.mem_of_mem_take hm))
      rw [List.length_take] at hlen
      have r1 : (0 : Int) ≤ (j : Int) := by omega
      have r2 : (j : Int) < (o.length : Int) := by omega
      have HEN := Lib.hid hE1
      have HN := Lib.hid hn
      have hil := itoa_len hn0.1 hn0.2
      clear hx hy hn hFr hoff hE1
      cases j with
      | zero =>
        have hj0 : ¬ (0 : Int) < ((0 : Nat) : Int) := by omega
        have hft := Lib.hid (oidText_first HN.out)
        simp only [Nat.add_zero] at e1
        go_wp2_with fail
        refine (itoa_any n (by omega) hn0.2 wr HEN.out.pows).mono ?_
        rintro e w2 ⟨rfl, F2⟩
        have HB2 := Lib.hid (HB.out.old F2)
        have HBL2 := Lib.hid (HBL.out.trans (F2.below (B := z) hsz (fun _ _ h => h)))
        have hs2 := F2.size
        clear F2
        go_wp2_with fail
        refine (bldString_any _ HB2.out (by omega) (by omega)).mono ?_
        rintro e w3 ⟨rfl, hB3, hb3⟩
        have HB3 := Lib.hid hB3
        have hs3 := hb3.size
        have HBL3 := Lib.hid (HBL2.out.trans hb3)
        clear hB3 hb3
        go_wp2_with fail
        go_roundg (o.length - (0 + 1))
        case measure => rw [HG.out]; omega
        case rel => exact ⟨0 + 1, rfl, by omega, by go_num, by rw [show 0 + 1 = 1 from rfl, hft.out]; simpa [oidTextS] using HB3.out, HBL3.out, by omega⟩
      | succ k =>
        have hj0 : (0 : Int) < ((k + 1 : Nat) : Int) := by omega
        have hft := Lib.hid (oidText_next HN.out)
        go_wp2_with fail
        have hc46 : (46 : Int) = ((46 : UInt8).toNat : Int) := rfl
        refine (bldByte_any 46 HB.out (by omega) hsz).mono ?_
        rintro e w2 ⟨rfl, hB2, hb2⟩
        have HB2 := Lib.hid hB2
        have hs2 := hb2.size
        have HBL2 := Lib.hid (HBL.out.trans hb2)
        clear hB2 hb2
        go_wp2_with fail
        refine (itoa_any n (by omega) hn0.2 _ (HE.out.below HBL2.out hgl).pows).mono ?_
        rintro e w3 ⟨rfl, F3⟩
        have HB3 := Lib.hid (HB2.out.old F3)
        have HBL3 := Lib.hid (HBL2.out.trans (F3.below (B := z) (by omega) (fun _ _ h => h)))
        have hs3 := F3.size
        clear F3
        go_wp2_with fail
        refine (bldString_any _ HB3.out (by rw [List.length_append]; simp only [List.length_singleton]; omega) (by omega)).mono ?_
        rintro e w4 ⟨rfl, hB4, hb4⟩
        have HB4 := Lib.hid hB4
        have hs4 := hb4.size
        have HBL4 := Lib.hid (HBL3.out.trans hb4)
        clear hB4 hb4
        go_wp2_with fail
        go_roundg (o.length - (k + 1 + 1))
        case measure => rw [HG.out]; omega
        case rel => exact ⟨k + 1 + 1, rfl, by omega, by go_num, by rw [hft.out]; exact HB4.out, HBL4.out, by omega⟩
    · have hall : o.take j = o := List.take_of_length_le (by omega)
      have hB := HB.out
      rw [hall] at hB
      have HO := Lib.hid (bldOut_any hB hsz)
      clear hB hall
      go_wp2_with fail
      refine HO.out.mono ?_
      rintro e w2 ⟨rfl, hb2⟩
      have HF := Lib.hid (HBL.out.trans hb2)
      clear hb2
      go_wp2_with fail
      have hf := HF.out
      rw [HZ.out] at hf
      exact bodyPost_ret (v := .tuple #[str (oidTextS o), .int .i64 0]) (by simp [results, Tryz.results251, go_sem]) rfl ⟨rfl, Fr.of_below hf⟩
end Go.Proofs.YtacekpdjapgfcaaGreatDoor

namespace Go.Q
open Go Go.RowKit
abbrev Strs (w : World) (v : Value) (ks : List (List UInt8)) : Prop := Vals w v (ks.map str)
def cutAt (c : UInt8) : List UInt8 → List (List UInt8)
  | [] => [[]]
  | x :: t => if x = c then [] :: cutAt c t else match cutAt c t with
    | [] => [[x]]
    | h :: r => (x :: h) :: r
def cut1 (c : UInt8) : List UInt8 → List UInt8 × List UInt8 × Bool
  | [] => ([], [], false)
  | x :: t => if x = c then ([], t, true) else (x :: (cut1 c t).1, (cut1 c t).2)
theorem index1_nil (c : UInt8) : Lib.index [] [c] = -1 := rfl
theorem index1_eq (c : UInt8) (t : List UInt8) : Lib.index (c :: t) [c] = 0 := by simp [Lib.index]
theorem index1_ne {c x : UInt8} (h : x ≠ c) (t : List UInt8) : Lib.index (x :: t) [c] = if Lib.index t [c] = -1 then -1 else Lib.index t [c] + 1 := by
  have h' : ¬ c = x := fun e => h e.symm
  simp [Lib.index, h']
theorem split_cutAt (c : UInt8) : ∀ l : List UInt8, Lib.splitK [c] 0 (Lib.count l [c]) l = cutAt c l ∧ Lib.count l [c] + 1 = (cutAt c l).length
  | [] => ⟨by rw [Lib.count_miss (index1_nil c)]; rfl, by rw [Lib.count_miss (index1_nil c)]; rfl⟩
  | x :: t => by
    obtain ⟨ih1, ih2⟩ := split_cutAt c t
    have hne : ([c] : List UInt8) ≠ [] := by simp
    by_cases h : x = c
    · subst h
      rw [Lib.count_hit (i := 0) hne (index1_eq x t)]
      have e : (x :: t).drop (0 + [x].length) = t := rfl
      rw [e, show 1 + Lib.count t [x] = Lib.count t [x] + 1 from by omega]
      unfold cutAt
      rw [if_pos rfl]
      refine ⟨?_, by simp [ih2]⟩
      unfold Lib.splitK
      rw [index1_eq, if_neg (by decide)]
      simp [ih1]
    · have hi := index1_ne h t
      have hg := Lib.index_ge t [c]
      unfold cutAt
      rw [if_neg h]
      by_cases hm : Lib.index t [c] = -1
      · rw [if_pos hm] at hi
        rw [Lib.count_miss hi]
        rw [Lib.count_miss hm] at ih1 ih2
        simp only [Lib.splitK] at ih1 ⊢
        rw [← ih1]
        exact ⟨rfl, rfl⟩
      · rw [if_neg hm] at hi
        obtain ⟨i, hii⟩ : ∃ i : Nat, Lib.index t [c] = i := ⟨(Lib.index t [c]).toNat, by omega⟩
        rw [hii] at hi
        have hc1 := Lib.count_hit (i := i + 1) hne (show Lib.index (x :: t) [c] = ((i + 1 : Nat) : Int) by rw [hi]; omega)
        have hc2 := Lib.count_hit (i := i) hne hii
        have e : (x :: t).drop (i + 1 + [c].length) = t.drop (i + [c].length) := by simp only [List.length_singleton]; rfl
        rw [e, ← hc2] at hc1
        rw [hc1]
        rw [hc2, Nat.add_comm 1] at ih1 ih2 ⊢
        unfold Lib.splitK at ih1 ⊢
        rw [hii, if_neg (by simp)] at ih1
        rw [hi, if_neg (by simp; omega)]
        rw [← ih1] at ih2 ⊢
        have e2 : ((i : Int) + 1).toNat = i + 1 := by omega
        refine ⟨?_, by simpa using ih2⟩
        simp [e2]
theorem Strs.form {w : World} {v : Value} {ks : List (List UInt8)} (h : Strs w v ks) : ∃ a cap, v = .slice a ks.length cap ∧ ks.length ≤ cap ∧ cap ≤ maxLen ∧ (0 < ks.length → ∃ b o, a = some ⟨b, o, none⟩ ∧ ∀ i x, ks[i]? = some x → w.cell? ⟨b, o + i, none⟩ = some (str x)) := by
  obtain ⟨a, cap, rfl, hc, hm, h⟩ := h
  rw [List.length_map] at hc h ⊢
  refine ⟨a, cap, rfl, hc, hm, fun h0 => ?_⟩
  obtain ⟨b, o, rfl, hx⟩ := h h0
  exact ⟨b, o, rfl, fun i x hxx => hx i _ (by rw [List.getElem?_map, hxx]; rfl)⟩
def sortS (ks : List (List UInt8)) : List (List UInt8) := ks.mergeSort fun x y => decide (x ≤ y)
end Go.Q
namespace Go.Proofs.YtacekpdjapgfcaaGreatDoor
open Go Go.RowKit Go.Q
theorem strSplit_any (l : List UInt8) (c : UInt8) (w : World) (hE : Env w) (hl : l.length < 4294967281) :
    Calls Tryz.prog 174 #[str l, str [c]] w fun e w' => e = .returned (.slice (some ⟨w.heap.size, 0, none⟩) (cutAt c l).length (cutAt c l).length) ∧ Strs w' (.slice (some ⟨w.heap.size, 0, none⟩) (cutAt c l).length (cutAt c l).length) (cutAt c l) ∧ Fr (fun _ => False) w w' := by
  obtain ⟨m, hm⟩ := hE.top
  refine (Go.Proofs.Tryz.strings_Split ⟨l.toArray⟩ ⟨[c].toArray⟩ m w (by simpa [ByteArray.size] using hl) hm (by simp [ByteArray.size])).mono ?_
  rintro e w' ⟨rfl, rfl⟩
  obtain ⟨h1, h2⟩ := split_cutAt c l
  have hcb : Lib.countB ⟨l.toArray⟩ ⟨[c].toArray⟩ = Lib.count l [c] := rfl
  have hd := Lib.splitB_data ⟨[c].toArray⟩ 0 (Lib.count l [c]) ⟨l.toArray⟩
  rw [show (ByteArray.mk [c].toArray).data.toList = [c] from rfl, show (ByteArray.mk l.toArray).data.toList = l from rfl, h1] at hd
  rw [hcb, h2]
  have hs : ((Lib.splitB ⟨[c].toArray⟩ 0 (Lib.count l [c]) ⟨l.toArray⟩).map Value.string) = (cutAt c l).map str := by
    rw [← hd, List.map_map]
    refine List.map_congr_left (fun x _ => ?_)
    rfl
  rw [hs]
  have hln : (cutAt c l).length ≤ 4294967290 := by
    have := Lib.countB_le ⟨[c].toArray⟩ (by simp [ByteArray.size]) l.length ⟨l.toArray⟩ (by simp [ByteArray.size])
    rw [hcb] at this
    have hz : (ByteArray.mk l.toArray).size = l.length := by simp [ByteArray.size]
    omega
  refine ⟨rfl, ?_, (Fr.refl w).alloc _⟩
  have B := Vals.of_block (Blk.new w 9 ((cutAt c l).map str).toArray) (by simp; unfold maxLen; omega)
  simpa using B
theorem strJoin_any (ks : List (List UInt8)) (c : UInt8) (v : Value) (w : World) (h : Strs w v ks) (hn : ks.length ≤ 109951162777) (hl : (Lib.join ks [c]).length ≤ 100000000000000) :
    Calls Tryz.prog 161 #[v, str [c]] w fun e w' => e = .returned (str (Lib.join ks [c])) ∧ Fr (fun _ => False) w w' := by
  obtain ⟨a, cap, rfl, hc, hm, hx⟩ := Strs.form h
  rcases Nat.eq_zero_or_pos ks.length with h0 | h0
  · obtain rfl : ks = [] := List.length_eq_zero_iff.1 h0
    refine (Go.Proofs.Tryz.strings_Join_none a cap ⟨[c].toArray⟩ w).mono ?_
    rintro e w' ⟨rfl, rfl⟩
    exact ⟨rfl, Fr.refl _⟩
  · obtain ⟨b, o, rfl, hy⟩ := hx h0
    have hmm : (ks.map (fun k => (⟨k.toArray⟩ : ByteArray))).map (·.data.toList) = ks := by
      rw [List.map_map]
      exact (List.map_congr_left (fun x _ => rfl)).trans (List.map_id ks)
    have H := Go.Proofs.Tryz.strings_Join b o cap (ks.map (fun k => ⟨k.toArray⟩)) ⟨[c].toArray⟩ w (fun j x hj => by
      rw [List.getElem?_map] at hj
      cases hk : ks[j]? with
      | none => rw [hk] at hj; cases hj
      | some y =>
        rw [hk] at hj
        simp only [Option.map_some, Option.some.injEq] at hj
        subst hj
        exact hy j y hk) (World.block_lt_of_cell? w _ (hy 0 _ (List.getElem?_eq_getElem h0))) (by simpa using Nat.le_trans hn (by decide)) (by simpa using hc) (by rw [hmm]; exact Nat.le_trans hl (by decide))
    rw [hmm, List.length_map] at H
    refine H.mono ?_
    rintro e w' ⟨rfl, hb⟩
    exact ⟨rfl, Fr.of_below hb⟩
theorem strSort_any {w : World} {base : Nat} {v : Value} (ks : List (List UInt8)) (hown : w.ownsRow base 9 1 v ks.length (ks.map str)) (hn : ks.length ≤ 109951162777) :
    Calls Tryz.prog 205 #[v] w fun e w' => e = .returned (.tuple #[]) ∧ w'.ownsRow base 9 1 v (sortS ks).length ((sortS ks).map str) ∧ Fr (fun k => v.ownBlock = some k) w w' := by
  have hsl : (sortS ks).length = ks.length := by simp [sortS]
  rcases hown.2 with ⟨rfl, h0⟩ | ⟨g, cap, cur, rfl, hg, hh, hnc, hcm, hcs, htk⟩
  · refine (Go.Proofs.Tryz.slices_Sort_string_none none 0 w).mono ?_
    rintro e w' ⟨rfl, rfl⟩
    obtain rfl : ks = [] := List.length_eq_zero_iff.1 h0
    exact ⟨rfl, by simpa [sortS] using hown, Fr.refl _⟩
  · have hH := Go.holds_of_block (ss := ks) hh (by rw [Nat.mul_one] at htk; exact htk)
    refine (Go.Proofs.Tryz.slices_Sort_string g 0 cap ks w hH (Array.getElem?_eq_some_iff.1 hh).1 (by omega)).mono ?_
    rintro e w' ⟨rfl, n, os, rfl⟩
    refine ⟨rfl, ?_, ?_⟩
    · rw [hsl]
      exact Go.ownsRow_sorted (ts := sortS ks) hsl hg hh hnc hcm hcs
    · have f := Fr.of_grown (Go.grownBy_sorted (w := w) (g := g) (n := n) (os := os) (sortS ks).toArray)
      exact f
theorem strCompact_any {w : World} {base : Nat} {v : Value} (ks : List (List UInt8)) (hown : w.ownsRow base 9 1 v ks.length (ks.map str)) (hn : ks.length ≤ 109951162777) :
    Calls Tryz.prog 206 #[v] w fun e w' => (∃ v', e = .returned v' ∧ w'.ownsRow base 9 1 v' (Lib.compact ks).length ((Lib.compact ks).map str)) ∧ Fr (fun k => v.ownBlock = some k) w w' := by
  rcases hown.2 with ⟨rfl, h0⟩ | ⟨g, cap, cur, rfl, hg, hh, hnc, hcm, hcs, htk⟩
  · refine (Go.Proofs.Tryz.slices_Compact_string_empty none 0 w).mono ?_
    rintro e w' ⟨rfl, rfl⟩
    obtain rfl : ks = [] := List.length_eq_zero_iff.1 h0
    exact ⟨⟨_, rfl, hown⟩, Fr.refl _⟩
  · rw [Nat.mul_one] at htk hcs
    have hH := Go.holds_of_block (ss := ks) hh htk
    refine (Go.Proofs.Tryz.slices_Compact_string g 0 cap ks w hH (by omega) hnc).mono ?_
    rintro e w' ⟨rfl, q, rfl⟩
    have hcl := Lib.compact_length_le ks
    have hl2 : (Lib.compact ks ++ List.replicate (ks.length - (Lib.compact ks).length) ([] : List UInt8)).length = ks.length := by
      rw [List.length_append, List.length_replicate]; omega
    have hb := Go.heap_sorted (n := q) (os := #[]) (Lib.compact ks ++ List.replicate (ks.length - (Lib.compact ks).length) ([] : List UInt8)).toArray hh
    have f := Fr.of_grown (Go.grownBy_sorted (w := w) (g := g) (n := q) (os := #[]) (Lib.compact ks ++ List.replicate (ks.length - (Lib.compact ks).length) ([] : List UInt8)).toArray)
    rw [Sort.grow_empty] at hb f
    have ht := Go.take_putCells cur (Lib.compact ks ++ List.replicate (ks.length - (Lib.compact ks).length) ([] : List UInt8)) (by omega)
    refine ⟨⟨_, rfl, by simp, .inr ⟨g, cap, _, rfl, hg, hb, by omega, hcm, by simp [Sort.putCells, hcs], ?_⟩⟩, f⟩
    rw [Nat.mul_one]
    have h3 := congrArg (List.take (Lib.compact ks).length) ht
    rw [List.take_take, hl2, Nat.min_eq_left hcl, ← List.map_take, List.take_left] at h3
    exact h3
end Go.Proofs.YtacekpdjapgfcaaGreatDoor

namespace Go.Q
open Go Go.RowKit
def digB (x : UInt8) : Bool := decide (48 ≤ x.toNat ∧ x.toNat ≤ 57)
def numVal (l : List UInt8) : Nat := l.foldl (fun n x => 10 * n + (x.toNat - 48)) 0
def numTextS (l : List UInt8) : Option Nat :=
  if l.length = 0 ∨ 10 < l.length ∨ (l.head? = some 48 ∧ 1 < l.length) then none else if l.all digB = true then some (numVal l) else none
def numOut : Option Nat → Value
  | none => .tuple #[.int .i64 0, .bool false]
  | some n => .tuple #[.int .i64 n, .bool true]
end Go.Q
namespace Go.Proofs.YtacekpdjapgfcaaGreatDoor
open Go Go.RowKit Go.Q
end Go.Proofs.YtacekpdjapgfcaaGreatDoor

namespace Go.Q
open Go Go.RowKit
def numsOf : List (List UInt8) → Option (List Int)
  | [] => some []
  | p :: t => match numTextS p with
    | none => none
    | some n => (numsOf t).map ((n : Int) :: ·)
def fromTextS (l : List UInt8) : Except Int (List Int) :=
  match numsOf (cutAt 46 l) with
  | none => .error 6
  | some o => if oidOk o = true then .ok o else .error 1
theorem cutAt_len (c : UInt8) : ∀ l : List UInt8, (cutAt c l).length ≤ l.length + 1 ∧ ∀ p ∈ cutAt c l, p.length ≤ l.length
  | [] => by simp [cutAt]
  | x :: t => by
    obtain ⟨h1, h2⟩ := cutAt_len c t
    unfold cutAt
    split
    · refine ⟨by simp; omega, fun p hp => ?_⟩
      rcases List.mem_cons.1 hp with rfl | h
      · simp
      · have := h2 p h; simp; omega
    · split
      · refine ⟨by simp, fun p hp => ?_⟩
        rw [List.mem_singleton.1 hp]
        simp
      · rename_i h r he
        rw [he] at h1 h2
        refine ⟨by simp at h1 ⊢; omega, fun p hp => ?_⟩
        rcases List.mem_cons.1 hp with rfl | h
        · have := h2 h (by simp); simp; omega
        · have := h2 p (by simp [h]); simp; omega
end Go.Q
namespace Go.Proofs.YtacekpdjapgfcaaGreatDoor
open Go Go.RowKit Go.Q
def fromTextOut (w w' : World) (l : List UInt8) (e : Ending) : Prop :=
  match fromTextS l with
  | .error x => e = .returned (.tuple #[.slice none 0 0, .int .i64 x]) ∧ x ≠ 0
  | .ok o => ∃ u, e = .returned (.tuple #[u, .int .i64 0]) ∧ w'.ownsRow w.heap.size 3 1 u o.length (intCells o)
end Go.Proofs.YtacekpdjapgfcaaGreatDoor

namespace Go.Q
open Go Go.RowKit
def blankB (n : Int) : Bool := decide (n = 32 ∨ (9 ≤ n ∧ n ≤ 13))
def smallS (n : Int) : Int := if 65 ≤ n ∧ n ≤ 90 then n + 32 else n
def foldStep (s : List Int × Bool) (n : Int) : List Int × Bool :=
  if blankB n = true then (s.1, decide (0 < s.1.length)) else ((if s.2 = true then s.1 ++ [32] else s.1) ++ [smallS n], false)
def foldS (l : List Int) : List Int := (l.foldl foldStep ([], false)).1
def FoldAt (w : World) (g d base : Nat) (s : List Int × Bool) : Prop :=
  ∃ v, Blk w g 105 #[v] ∧ Blk w d 4 #[.bool s.2] ∧ w.ownsRow base 3 1 v s.1.length (intCells s.1) ∧ (∀ k, v.ownBlock = some k → k ≠ g ∧ k ≠ d)
end Go.Q
namespace Go.Proofs.YtacekpdjapgfcaaGreatDoor
open Go Go.RowKit Go.Q
theorem blank_any (n : Int) (w : World) :
    Calls Tryz.prog 313 #[.int .i64 n] w fun e w' => e = .returned (.bool (blankB n)) ∧ w = w' := by
  have hc : n = 32 ∨ (n ≠ 32 ∧ n < 9) ∨ (9 ≤ n ∧ n ≤ 13) ∨ (n ≠ 32 ∧ 13 < n) := by omega
  rcases hc with rfl | ⟨h1, h2⟩ | ⟨h1, h2⟩ | ⟨h1, h2⟩
  · go_enter Tryz.func313, Tryz.ntmps313
    go_wp2_with fail
    go_ret
    exact ⟨rfl, rfl⟩
  · have hb : blankB n = false := decide_eq_false (by omega)
    have HB := Lib.hid hb
    have q1 : (n == 32) = false := beq_eq_false_iff_ne.2 h1
    have q2 : ¬ (9 : Int) ≤ n := by omega
    clear hb
    go_enter Tryz.func313, Tryz.ntmps313
    go_wp2_with fail
    go_ret
    exact ⟨by rw [HB.out]; rfl, rfl⟩
  · have hb : blankB n = true := decide_eq_true (by omega)
    have HB := Lib.hid hb
    have q1 : (n == 32) = false := beq_eq_false_iff_ne.2 (by omega)
    clear hb
    go_enter Tryz.func313, Tryz.ntmps313
    go_wp2_with fail
    go_ret
    exact ⟨by rw [HB.out]; rfl, rfl⟩
  · have hb : blankB n = false := decide_eq_false (by omega)
    have HB := Lib.hid hb
    have q1 : (n == 32) = false := beq_eq_false_iff_ne.2 h1
    have q2 : (9 : Int) ≤ n := by omega
    have q3 : ¬ n ≤ (13 : Int) := by omega
    clear hb
    go_enter Tryz.func313, Tryz.ntmps313
    go_wp2_with fail
    go_ret
    exact ⟨by rw [HB.out]; rfl, rfl⟩
theorem small_any (n : Int) (w : World) :
    Calls Tryz.prog 228 #[.int .i64 n] w fun e w' => e = .returned (.int .i64 (smallS n)) ∧ w = w' := by
  by_cases h1 : (65 : Int) ≤ n
  · by_cases h2 : n ≤ (90 : Int)
    · have hb : smallS n = n + 32 := if_pos ⟨h1, h2⟩
      have HB := Lib.hid hb
      clear hb
      go_enter Tryz.func228, Tryz.ntmps228
      go_wp2_with fail
      go_ret
      exact ⟨by rw [HB.out]; rfl, rfl⟩
    · have hb : smallS n = n := if_neg (by omega)
      have HB := Lib.hid hb
      clear hb
      go_enter Tryz.func228, Tryz.ntmps228
      go_wp2_with fail
      go_ret
      exact ⟨by rw [HB.out]; rfl, rfl⟩
  · have hb : smallS n = n := if_neg (by omega)
    have HB := Lib.hid hb
    clear hb
    go_enter Tryz.func228, Tryz.ntmps228
    go_wp2_with fail
    go_ret
    exact ⟨by rw [HB.out]; rfl, rfl⟩
set_option maxRecDepth 20000 in
set_option maxHeartbeats 1000000 in
theorem foldPut_any {w : World} {base : Nat} (n : Int) (g d : Nat) (s : List Int × Bool) (hgd : g ≠ d) (h : FoldAt w g d base s) (hb : base ≤ w.heap.size) (hm : s.1.length ≤ 10995116277) :
    Calls Tryz.prog 312 #[.int .i64 n, pt g, pt d] w fun e w' => e = .returned (.tuple #[]) ∧ FoldAt w' g d base (foldStep s n) ∧ Fr (fun k => k = g ∨ k = d ∨ base ≤ k) w w' := by
  obtain ⟨xs, due⟩ := s
  obtain ⟨v, BG, BD, hown, ho⟩ := h
  simp only at BG BD hown hm
  obtain ⟨a, m, c, rfl, rfl⟩ := own_shape hown
  have HOWN := Lib.hid hown
  have hbase := (Vals.of_own hown).2
  have HBA := Lib.hid hbase
  have g0 := BG.cell 0
  have g1 := BG.frozen 0
  have d0 := BD.cell 0
  have d1 := BD.frozen 0
  simp at g0 d0
  cases hbl : blankB n with
  | true =>
    have HB := Lib.hid (blank_any n w)
    rw [hbl] at HB
    have hst : foldStep (xs, due) n = (xs, decide (0 < xs.length)) := by unfold foldStep; rw [hbl]; rfl
    have HST := Lib.hid hst
    clear hst hown hbase hbl
    have hd : ∀ z : Bool, decide (0 < xs.length) = z → FoldAt (w.setCell ⟨d, 0, none⟩ (.bool z)) g d base (foldStep (xs, due) n) ∧ Fr (fun k => k = g ∨ k = d ∨ base ≤ k) w (w.setCell ⟨d, 0, none⟩ (.bool z)) := by
      intro z hz
      have F : Fr (fun k => k = d) w (w.setCell ⟨d, 0, none⟩ (.bool z)) := Fr.setCell (S := fun k => k = d) (p := ⟨d, 0, none⟩) (Fr.refl w) (fun _ => rfl) _
      have BD2 := BD.set 0 (.bool z)
      simp at BD2
      rw [HST.out, hz]
      exact ⟨⟨_, BG.fr F hgd, BD2, ownsRow_fr HOWN.out F (fun k hk e => (ho k hk).2 e), ho⟩, F.mono (fun _ _ h => .inr (.inl h))⟩
    have HD := Lib.hid hd
    clear hd
    go_enter Tryz.func312, Tryz.ntmps312
    go_wp2_with fail
    refine HB.out.mono ?_
    rintro e w' ⟨rfl, rfl⟩
    go_wp2_with fail
    refine bodyPost_ret (results_none rfl _ _ _) rfl ?_
    exact ⟨rfl, HD.out _ rfl⟩
  | false =>
    have HB := Lib.hid (blank_any n w)
    rw [hbl] at HB
    have last : ∀ (w3 : World) (v3 : Value) (m3 : Nat) (ys : List Int), Blk w3 g 105 #[v3] → Blk w3 d 4 #[.bool false] → w3.ownsRow base 3 1 v3 m3 (intCells ys) → (∀ k, v3.ownBlock = some k → k ≠ g ∧ k ≠ d) → base ≤ w3.heap.size → m3 ≤ 10995116278 → Fr (fun k => k = g ∨ k = d ∨ base ≤ k) w w3 → foldStep (xs, due) n = (ys ++ [smallS n], false) →
        ∃ a c w', (Builtin.append_ #[105, 105] 105 #[v3, .slice (some ⟨w3.heap.size, 0, none⟩) 1 1]).run Tryz.prog ((w3.alloc (.cells #[.int .i64 (smallS n)] 3)).drew) = .ok (.slice a (m3 + 1) c) w' ∧ Blk w' g 105 #[v3] ∧ FoldAt (w'.setCell ⟨g, 0, none⟩ (.slice a (m3 + 1) c)) g d base (foldStep (xs, due) n) ∧ Fr (fun k => k = g ∨ k = d ∨ base ≤ k) w (w'.setCell ⟨g, 0, none⟩ (.slice a (m3 + 1) c)) := by
      intro w3 v3 m3 ys BG3 BD3 own3 ho3 hb3 hm3 F3 hst
      have F4 : Fr (fun _ => False) w3 ((w3.alloc (.cells #[.int .i64 (smallS n)] 3)).drew) := ((Fr.refl w3).alloc _).drew
      obtain ⟨a, c, w', hrun, own', F5, hk5⟩ := add_int own3 hb3 (by omega) (smallS n) w3.heap.size F4 (Blk.new w3 3 #[.int .i64 (smallS n)]).drew
      have BG5 := BG3.fr F5 (fun e => (ho3 g e).1 rfl)
      have BD5 := BD3.fr F5 (fun e => (ho3 d e).2 rfl)
      have lg := BG3.lt
      have ld := BD3.lt
      have hne : ∀ k, (Value.slice a (m3 + 1) c).ownBlock = some k → k ≠ g ∧ k ≠ d := fun k hk => by
        rcases hk5 k hk with h | h
        · exact ho3 k h
        · exact ⟨by omega, by omega⟩
      have F6 : Fr (fun k => k = g) w' (w'.setCell ⟨g, 0, none⟩ (.slice a (m3 + 1) c)) := Fr.setCell (S := fun k => k = g) (p := ⟨g, 0, none⟩) (Fr.refl w') (fun _ => rfl) _
      have BG6 := BG5.set 0 (.slice a (m3 + 1) c)
      simp at BG6
      have hlen : m3 + 1 = (ys ++ [smallS n]).length := by
        have := own3.1
        rw [intCells_len, Nat.mul_one] at this
        simp [this]
      refine ⟨a, c, w', hrun, BG5, ?_, (F3.trans (F5.mono (fun k hk e => ?_))).trans (F6.mono (fun _ _ h => .inl h))⟩
      · rw [hst]
        refine ⟨_, BG6, BD5.fr F6 (fun e => hgd e.symm), ?_, hne⟩
        simp only
        rw [← hlen]
        exact ownsRow_fr own' F6 (fun k hk e => (hne k hk).1 e)
      · exact .inr (.inr ((Vals.of_own own3).2 k e).1)
    have HL := Lib.hid last
    clear last
    cases due with
    | false =>
      have hst : foldStep (xs, false) n = (xs ++ [smallS n], false) := by unfold foldStep; rw [hbl]; rfl
      obtain ⟨a7, c7, w7, hrun, BG7, hfin, hF7⟩ := HL.out w _ xs.length xs BG BD HOWN.out ho hb (by omega) (Fr.refl w) hst
      have HRUN := Lib.hid hrun
      have HFIN := Lib.hid hfin
      have HF7 := Lib.hid hF7
      have g7 := BG7.cell 0
      have f7 := BG7.frozen 0
      have hal := alloc_old
      have lg := BG.lt
      simp at g7
      clear hst hrun hfin hF7 hown hbase hbl
      go_enter Tryz.func312, Tryz.ntmps312
      go_wp2_with fail
      refine HB.out.mono ?_
      rintro e w' ⟨rfl, rfl⟩
      go_wp2_with fail
      go_region_law (first | (refine step_append_run (by rfl) (.tmp 13) (.tmp 16) 105 (by rfl) _ w7 (by exact HRUN.out) ?_) | (go_simp; go_at_call 228; refine (small_any n _).mono ?_; rintro e w' ⟨rfl, rfl⟩))
      all_goals
        go_wp2_with fail
        go_end0
        exact ⟨rfl, HFIN.out, HF7.out⟩
    | true =>
      have hst : foldStep (xs, true) n = ((xs ++ [32]) ++ [smallS n], false) := by unfold foldStep; rw [hbl]; rfl
      have F1 : Fr (fun _ => False) w (w.alloc (.cells #[.int .i64 32] 3)) := (Fr.refl w).alloc _
      obtain ⟨a1, c1, w1, hrun1, own1, F2, hk1⟩ := add_int HOWN.out hb (by omega) 32 w.heap.size F1 (Blk.new w 3 #[.int .i64 32])
      have lg := BG.lt
      have ld := BD.lt
      have BG1 := BG.fr F2 (fun e => (ho g e).1 rfl)
      have BD1 := BD.fr F2 (fun e => (ho d e).2 rfl)
      have hne : ∀ k, (Value.slice a1 (xs.length + 1) c1).ownBlock = some k → k ≠ g ∧ k ≠ d := fun k hk => by
        rcases hk1 k hk with h | h
        · exact ho k h
        · exact ⟨by omega, by omega⟩
      have F3 : Fr (fun k => k = g ∨ k = d) w1 ((w1.setCell ⟨g, 0, none⟩ (.slice a1 (xs.length + 1) c1)).setCell ⟨d, 0, none⟩ (.bool false)) := ((Fr.refl w1).setCell (p := ⟨g, 0, none⟩) (fun _ => .inl rfl) _).setCell (p := ⟨d, 0, none⟩) (fun _ => .inr rfl) _
      have BG3 := (BG1.set 0 (.slice a1 (xs.length + 1) c1)).set_other (a := ⟨d, 0, none⟩) hgd (.bool false)
      have BD3 := (BD1.set_other (a := ⟨g, 0, none⟩) (fun e => hgd e.symm) (.slice a1 (xs.length + 1) c1)).set 0 (.bool false)
      simp at BG3 BD3
      have own3 := ownsRow_fr own1 F3 (fun k hk e => by have := hne k hk; omega)
      have G3 : Fr (fun k => k = g ∨ k = d ∨ base ≤ k) w ((w1.setCell ⟨g, 0, none⟩ (.slice a1 (xs.length + 1) c1)).setCell ⟨d, 0, none⟩ (.bool false)) := (F2.mono (fun k hk e => .inr (.inr (HBA.out k e).1))).trans (F3.mono (fun k _ h => h.elim .inl (fun h => .inr (.inl h))))
      obtain ⟨a7, c7, w7, hrun, BG7, hfin, hF7⟩ := HL.out _ _ (xs.length + 1) (xs ++ [32]) BG3 BD3 own3 hne (Nat.le_trans hb G3.size) (by omega) G3 hst
      have HRUN1 := Lib.hid hrun1
      have HRUN := Lib.hid hrun
      have HFIN := Lib.hid hfin
      have HF7 := Lib.hid hF7
      have HBG3 := Lib.hid BG3
      have p0 := BG1.cell 0
      have p1 := BG1.frozen 0
      have r0 := BD1.cell 0
      have r1 := BD1.frozen 0
      have g7 := BG7.cell 0
      have f7 := BG7.frozen 0
      simp at g7 p0 r0
      clear hst hrun hrun1 hfin hF7 hown hbase hbl own1 own3 BG3 BD3 F3 G3 F2 F1 BG1 BD1 hk1 hne
      go_enter Tryz.func312, Tryz.ntmps312
      go_wp2_with fail
      refine HB.out.mono ?_
      rintro e w' ⟨rfl, rfl⟩
      have hgd' : d ≠ g := fun e => hgd e.symm
      go_upto_region 5 with (at_builtin; refine wpList_append_run (by rfl) (.tmp 10) (.tmp 11) 105 (by rfl) _ w1 (by exact HRUN1.out) ?_)
      generalize ((w1.setCell ⟨g, 0, none⟩ (.slice a1 (xs.length + 1) c1)).setCell ⟨d, 0, none⟩ (.bool false)) = w3 at *
      have g3 := HBG3.out.cell 0
      have hal := alloc_old
      have lg3 := HBG3.out.lt
      simp at g3
      go_region_law (first | (refine step_append_run (by rfl) (.tmp 13) (.tmp 16) 105 (by rfl) _ w7 (by exact HRUN.out) ?_) | (go_simp; go_at_call 228; refine (small_any n _).mono ?_; rintro e w' ⟨rfl, rfl⟩))
      all_goals
        go_wp2_with fail
        go_end0
        exact ⟨rfl, HFIN.out, HF7.out⟩
end Go.Proofs.YtacekpdjapgfcaaGreatDoor
