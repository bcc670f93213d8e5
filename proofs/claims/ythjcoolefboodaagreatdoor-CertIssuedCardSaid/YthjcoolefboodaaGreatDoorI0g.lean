/-
  Merged by program: XR06g XR06h XR06s XR06T XNText1 XNText2 XNSeq XNIter1 XNIter2 XShelf2 XNDec.
-/
import Derived.Test.YthjcoolefboodaaGreatDoorI0f
import Derived.Test.YthjcoolefboodaaGreatDoorI0c
import Derived.Test.YthjcoolefboodaaGreatDoorI0a
import Derived.RangeFuncNested
import Derived.RangeFuncBound
import Derived.RangeFuncCalls
import Derived.RangeFuncLeaves
import Derived.Shelf.Abstract
import Derived.Shelf.RegionOpen
import Derived.OwnWalkIn
import Derived.TacticsInMore
import Derived.LoopNIn
import Derived.LoopIn
import Derived.Shelf.Spec.DecodeRune
import Derived.Shelf.Spec.NilArms
import Derived.Test.YthjcoolefboodaaGreatDoorProg
namespace Go.Proofs.YthjcoolefboodaaGreatDoor
open Go Go.RowKit Go.Q
set_option maxRecDepth 20000 in
set_option maxHeartbeats 4000000 in
theorem r06Signs_30 (v : Value) (b : List UInt8) (w : World) (h : Bytes w v b) (hlim : b.length ≤ 16777216) :
    Calls Tryz.prog 113 #[.agg #[.int .i64 30, v]] w fun e w' => RSigOut w w' 30 b e := by
  obtain ⟨a, cap, rfl, -, -, hx⟩ := h.form
  have HB := Lib.hid h
  have HX := Lib.hid hx
  obtain ⟨z, hz⟩ : ∃ z, z = w.heap.size := ⟨_, rfl⟩
  have B := Blk.new w 143 #[.int .i64 30, .slice a b.length cap]
  have F0 : Fr (fun _ => False) w (w.alloc (.cells #[.int .i64 30, .slice a b.length cap] 143)) := (Fr.refl w).alloc _
  rw [← hz] at B
  have HZ := Lib.hid hz
  have HF0 := Lib.hid F0
  clear h hx hz F0
  go_enter Tryz.func113, Tryz.ntmps113
  go_upto_region 1 with fail
  rw [← HZ.out]
  generalize (w.alloc (.cells #[.int .i64 30, .slice a b.length cap] 143)) = w0 at *
  have t0 := B.cell 0
  have t1 := B.cell 1
  simp only [List.getElem?_toArray, List.getElem?_cons_succ, List.getElem?_cons_zero] at t0 t1
  have hk : Go.Q.kindOk 30 = true := rfl
  have HC := Lib.hid (r06Kind_any 30)
  have p12 : ((30 : Int) == 12) = false := rfl
  have HKK := Lib.hid hk
  have hP : signsS 30 b = pairsS b := rfl
  by_cases hodd : b.length % 2 = 1
  · have z1 : ((b.length : Int) % 2 == 1) = true := beq_iff_eq.2 (by omega)
    have z2 : (b.length % 2 == 1) = true := beq_iff_eq.2 hodd
    have hn : sigR 30 b = none := by unfold sigR; rw [if_pos hk, if_neg (by decide), if_pos ⟨rfl, hodd⟩]
    have HN := Lib.hid hn
    clear hn hk hP
    go_wp2_with (first | (go_at_call 147; refine (HC.out _).mono ?_; rintro e w' ⟨rfl, rfl⟩; rw [HKK.out]))
    exact bodyPost_ret (v := .tuple #[.slice none 0 0, .bool false]) (by simp [results, Tryz.results113, go_sem]) rfl (sigOut_no HN.out HF0.out)
  · have z1 : ((b.length : Int) % 2 == 1) = false := beq_eq_false_iff_ne.2 (by omega)
    have z2 : (b.length % 2 == 1) = false := beq_eq_false_iff_ne.2 hodd
    have HP := Lib.hid hP
    have HB0 := Lib.hid B
    clear hk hP
    go_wp2_with (first | (go_at_call 147; refine (HC.out _).mono ?_; rintro e w' ⟨rfl, rfl⟩; rw [HKK.out]))
    clear t0 t1
    go_loopg [4, 5] b.length (fun g l i wr => ∃ (j : Nat) (a6 : Option Addr) (n6 c6 : Nat), g = b.length - j ∧ j ≤ b.length ∧ j % 2 = 0 ∧ l = .slice a6 n6 c6 ∧ i = .int .i64 j ∧ wr.ownsRow (z + 1) 3 1 (.slice a6 n6 c6) n6 (intCells (pairsS (b.take j))) ∧ Fr (fun _ => False) w wr ∧ Blk wr z 143 #[.int .i64 30, .slice a b.length cap] ∧ 2 * n6 = j)
    case atStart => exact ⟨0, none, 0, 0, rfl, Nat.zero_le _, rfl, rfl, rfl, ⟨rfl, .inl ⟨rfl, rfl⟩⟩, HF0.out, HB0.out, rfl⟩
    case round =>
      obtain ⟨j, a6, N6, c6, hg, hj, hj2, rfl, rfl, ho6, G6, B, hN6⟩ := hrel
      have HG := Lib.hid hg
      have HO6 := Lib.hid ho6
      have HG6 := Lib.hid G6
      have t0 := B.cell 0
      have t1 := B.cell 1
      simp only [List.getElem?_toArray, List.getElem?_cons_succ, List.getElem?_cons_zero] at t0 t1
      clear hg ho6 G6
      by_cases hjl : j < b.length
      · obtain ⟨bb, oo, rfl, hy⟩ := HX.out (by omega)
        obtain ⟨x, hxj⟩ : ∃ x, b[j]? = some x := ⟨_, List.getElem?_eq_getElem hjl⟩
        obtain ⟨y, hyj⟩ : ∃ y, b[j + 1]? = some y := ⟨_, List.getElem?_eq_getElem (by omega)⟩
        have e1 := HG6.out.cell (hy j x hxj) (fun h => h)
        have e2 := HG6.out.cell (hy (j + 1) y hyj) (fun h => h)
        have hT : pairsS (b.take (j + 2)) = pairsS (b.take j) ++ [256 * (x.toNat : Int) + (y.toNat : Int)] := by
          obtain ⟨m, rfl⟩ : ∃ m, j = 2 * m := ⟨j / 2, by omega⟩
          have := pairs_take hxj hyj
          rw [show 2 * (m + 1) = 2 * m + 2 from by omega] at this
          rw [this]
          congr 2
          omega
        have hx1 := x.toNat_lt
        have hx2 := y.toNat_lt
        generalize x.toNat = xx at *
        generalize y.toNat = yy at *
        have w1 : wrap64 (xx : Int) = (xx : Int) := by unfold wrap64; omega
        have w2 : wrap64 (yy : Int) = (yy : Int) := by unfold wrap64; omega
        have HT := Lib.hid hT
        have r1 : (0 : Int) ≤ (j : Int) := by omega
        have r2 : (j : Int) < (b.length : Int) := by omega
        have r3 : (j : Int) + 1 < (b.length : Int) := by omega
        have r4 : (0 : Int) ≤ (j : Int) + 1 := by omega
        have r5 : ((j : Int) + 1).toNat = j + 1 := by omega
        have v1 : IntKind.i64.wrap ((j : Int) + 1) = (j : Int) + 1 := by rw [IntKind.wrap_i64]; omega
        have v2 : IntKind.i64.wrap (256 * (xx : Int)) = 256 * (xx : Int) := by rw [IntKind.wrap_i64]; omega
        have v3 : IntKind.i64.wrap (256 * (xx : Int) + (yy : Int)) = 256 * (xx : Int) + (yy : Int) := by rw [IntKind.wrap_i64]; omega
        have v4 : IntKind.i64.wrap (xx : Int) = (xx : Int) := by rw [IntKind.wrap_i64]; omega
        have v5 : IntKind.i64.wrap (yy : Int) = (yy : Int) := by rw [IntKind.wrap_i64]; omega
        have hb0 : z + 1 ≤ wr.heap.size := B.lt
        have hvb := (Vals.of_own HO6.out).2
        obtain ⟨a7, c7, w7, hr7, ho7, F7, -⟩ := add_int HO6.out hb0 (by omega) (256 * (xx : Int) + (yy : Int)) wr.heap.size (((Fr.refl (S := fun _ => False) wr).drew).alloc (.cells #[.int .i64 (256 * (xx : Int) + (yy : Int))] 3)) (Blk.new wr.drew 3 #[.int .i64 (256 * (xx : Int) + (yy : Int))])
        have G7 := HG6.out.trans' F7 (fun i hi e => absurd hi (by have := hvb i e; have := HZ.out; omega))
        have B7 := B.fr F7 (fun e => by have := hvb z e; omega)
        rw [← HT.out] at ho7
        have HO7 := Lib.hid ho7
        have HG7 := Lib.hid G7
        have HB7 := Lib.hid B7
        have HRUN := Lib.hid hr7
        clear ho7 G7 B7 hr7 F7 hvb hT hxj hyj hy B
        go_wp2_with fail
        go_region_law (first | (refine step_append_run (by rfl) (.tmp 35) (.tmp 51) 26 (by rfl) _ w7 (by exact HRUN.out) ?_) | fail)
        all_goals
          go_wp2_with fail
          go_roundg (b.length - (j + 2))
          case measure => rw [HG.out]; omega
          case rel => exact ⟨j + 2, a7, N6 + 1, c7, rfl, by omega, by omega, rfl, by go_num, HO7.out, HG7.out, HB7.out, by omega⟩
      · obtain rfl : j = b.length := by omega
        rw [List.take_length] at HO6
        have r2 : ¬ (b.length : Int) < (b.length : Int) := by omega
        obtain ⟨L, hL⟩ : ∃ L, L = signsS 30 b := ⟨_, rfl⟩
        have hsig : sigR 30 b = if L.all (mayS 30) = true then some L else none := by rw [hL]; unfold sigR; rw [if_pos HKK.out, if_neg (by decide), if_neg (fun h => hodd h.2)]
        have hoL := HO6.out
        rw [← HP.out, ← hL] at hoL
        have h2N := hN6
        clear hL hN6
        have hN6 : N6 = L.length := by have := hoL.1; rw [intCells_len] at this; omega
        subst hN6
        have hv6 := (Vals.of_own hoL).1
        obtain ⟨a', cap', he, -, -, hz6⟩ := Ints.form hv6
        simp only [Value.slice.injEq, true_and] at he
        obtain ⟨rfl, rfl⟩ := he
        have HSIG := Lib.hid hsig
        have HV6 := Lib.hid hv6
        have HZ6 := Lib.hid hz6
        have HBK := Lib.hid B
        clear hsig hv6 hz6 hoL HX HG HO6 HB
        go_wp2_with fail
        obtain ⟨wo, hwo⟩ : ∃ wo : World, wo = wr := ⟨_, rfl⟩
        obtain rfl := hwo
        go_loopg [7] L.length (fun g q wi => ∃ k1 : Nat, g = L.length - k1 ∧ k1 ≤ L.length ∧ q = .int .i64 k1 ∧ (L.take k1).all (mayS 30) = true ∧ Fr (fun _ => False) wo wi)
        case atStart => exact ⟨0, rfl, Nat.zero_le _, rfl, rfl, Fr.refl _⟩
        case round =>
          obtain ⟨k1, hg, hk1, rfl, hall, F8⟩ := hrel
          have HG2 := Lib.hid hg
          have HALL := Lib.hid hall
          have B8 := HBK.out.fr F8 (fun h => h)
          have HF8 := Lib.hid F8
          have t0 := B8.cell 0
          have t1 := B8.cell 1
          simp only [List.getElem?_toArray, List.getElem?_cons_succ, List.getElem?_cons_zero] at t0 t1
          clear hg hall
          by_cases hkl : k1 < L.length
          · obtain ⟨b8, o8, rfl, hy8⟩ := HZ6.out (by omega)
            obtain ⟨n, hn⟩ : ∃ n, L[k1]? = some n := ⟨_, List.getElem?_eq_getElem hkl⟩
            have en := F8.cell (hy8 k1 n hn) (fun h => h)
            have hat : (L.take (k1 + 1)).all (mayS 30) = ((L.take k1).all (mayS 30) && mayS 30 n) := by
              rw [List.take_add_one, hn]
              simp
            have hno : mayS 30 n = false → L.all (mayS 30) = false := fun h => by
              rw [List.all_eq_false]
              exact ⟨n, List.mem_of_getElem? hn, by simp [h]⟩
            have HAT := Lib.hid hat
            have HNO := Lib.hid hno
            have r1 : (0 : Int) ≤ (k1 : Int) := by omega
            have r2 : (k1 : Int) < (L.length : Int) := by omega
            clear hy8 hn hat hno F8
            rcases Bool.eq_false_or_eq_true (mayS 30 n) with hm | hm
            · have hC : ∀ w, Calls Tryz.prog 149 #[.int .i64 30, .int .i64 n] w fun e w' => e = .returned (.bool true) ∧ w' = w := fun w => (r06May_any 30 n w).mono (by rintro e w' ⟨rfl, rfl⟩; exact ⟨by rw [hm], rfl⟩)
              have HC := Lib.hid hC
              have HM := Lib.hid hm
              clear hm hC
              go_wp2_with fail
              go_quiet ((go_at_call 149; exact Calls.quiet_of_same (HC.out _)))
              go_wp2_with fail
              go_roundg (L.length - (k1 + 1))
              case measure => rw [HG2.out]; omega
              case rel => exact ⟨k1 + 1, rfl, by omega, by go_num, by rw [HAT.out, HALL.out, HM.out]; rfl, HF8.out.drewN _⟩
            · have hC : ∀ w, Calls Tryz.prog 149 #[.int .i64 30, .int .i64 n] w fun e w' => e = .returned (.bool false) ∧ w' = w := fun w => (r06May_any 30 n w).mono (by rintro e w' ⟨rfl, rfl⟩; exact ⟨by rw [hm], rfl⟩)
              have HC := Lib.hid hC
              have hnone : sigR 30 b = none := by rw [HSIG.out, if_neg]; intro h; rw [HNO.out hm] at h; exact absurd h (by decide)
              have HNONE := Lib.hid hnone
              clear hm hnone hC
              go_wp2_with fail
              go_quiet ((go_at_call 149; exact Calls.quiet_of_same (HC.out _)))
              go_wp2_with fail
              exact bodyPost_ret (v := .tuple #[.slice none 0 0, .bool false]) (by simp [results, Tryz.results113, go_sem]) rfl (sigOut_no HNONE.out ((HG6.out.trans HF8.out).drewN _))
          · have r2 : ¬ (k1 : Int) < (L.length : Int) := by omega
            have hsome : sigR 30 b = some L := by
              have := HALL.out
              rw [List.take_of_length_le (by omega)] at this
              rw [HSIG.out, if_pos this]
            have HSOME := Lib.hid hsome
            have hvv : Ints wr (.slice a6 L.length c6) L := HV6.out.old F8
            have HVV := Lib.hid hvv
            clear hsome hvv F8
            go_wp2_with fail
            exact bodyPost_ret (v := .tuple #[.slice a6 L.length c6, .bool true]) (by simp [results, Tryz.results113, go_sem]) rfl ⟨_, by rw [HSOME.out]; rfl, by rw [HSOME.out]; exact HVV.out, HG6.out.trans HF8.out⟩
end Go.Proofs.YthjcoolefboodaaGreatDoor

namespace Go.Proofs.YthjcoolefboodaaGreatDoor
open Go Go.RowKit Go.Q
set_option maxRecDepth 20000 in
set_option maxHeartbeats 4000000 in
theorem r06Signs_one (k : Int) (hk : Go.Q.kindOk k = true) (h12 : k ≠ 12) (h30 : k ≠ 30) (v : Value) (b : List UInt8) (w : World) (h : Bytes w v b) (hlim : b.length ≤ 16777216) :
    Calls Tryz.prog 113 #[.agg #[.int .i64 k, v]] w fun e w' => RSigOut w w' k b e := by
  obtain ⟨a, cap, rfl, -, -, hx⟩ := h.form
  have HB := Lib.hid h
  have HX := Lib.hid hx
  obtain ⟨z, hz⟩ : ∃ z, z = w.heap.size := ⟨_, rfl⟩
  have B := Blk.new w 143 #[.int .i64 k, .slice a b.length cap]
  have F0 : Fr (fun _ => False) w (w.alloc (.cells #[.int .i64 k, .slice a b.length cap] 143)) := (Fr.refl w).alloc _
  rw [← hz] at B
  have HZ := Lib.hid hz
  have HF0 := Lib.hid F0
  clear h hx hz F0
  go_enter Tryz.func113, Tryz.ntmps113
  go_upto_region 1 with fail
  rw [← HZ.out]
  generalize (w.alloc (.cells #[.int .i64 k, .slice a b.length cap] 143)) = w0 at *
  have t0 := B.cell 0
  have t1 := B.cell 1
  simp only [List.getElem?_toArray, List.getElem?_cons_succ, List.getElem?_cons_zero] at t0 t1
  have HC := Lib.hid (r06Kind_any k)
  have p12 : (k == 12) = false := beq_eq_false_iff_ne.2 h12
  have HKK := Lib.hid hk
  have p30 : (k == 30) = false := beq_eq_false_iff_ne.2 h30
  have HB0 := Lib.hid B
  have hP : signsS k b = b.map (fun x => (x.toNat : Int)) := by unfold signsS; rw [if_neg h12, if_neg h30]
  have HP := Lib.hid hP
  clear hk hP
  go_wp2_with (first | (go_at_call 147; refine (HC.out _).mono ?_; rintro e w' ⟨rfl, rfl⟩; rw [HKK.out]))
  clear t0 t1
  go_loopg [4, 6] b.length (fun g l i wr => ∃ (j : Nat) (a6 : Option Addr) (c6 : Nat), g = b.length - j ∧ j ≤ b.length ∧ l = .slice a6 j c6 ∧ i = .int .i64 j ∧ wr.ownsRow (z + 1) 3 1 (.slice a6 j c6) j (intCells ((b.take j).map (fun x => (x.toNat : Int)))) ∧ Fr (fun _ => False) w wr ∧ Blk wr z 143 #[.int .i64 k, .slice a b.length cap])
  case atStart => exact ⟨0, none, 0, rfl, Nat.zero_le _, rfl, rfl, ⟨rfl, .inl ⟨rfl, rfl⟩⟩, HF0.out, HB0.out⟩
  case round =>
    obtain ⟨j, a6, c6, hg, hj, rfl, rfl, ho6, G6, B⟩ := hrel
    have HG := Lib.hid hg
    have HO6 := Lib.hid ho6
    have HG6 := Lib.hid G6
    have t0 := B.cell 0
    have t1 := B.cell 1
    simp only [List.getElem?_toArray, List.getElem?_cons_succ, List.getElem?_cons_zero] at t0 t1
    clear hg ho6 G6
    by_cases hjl : j < b.length
    · obtain ⟨bb, oo, rfl, hy⟩ := HX.out (by omega)
      obtain ⟨x, hxj⟩ : ∃ x, b[j]? = some x := ⟨_, List.getElem?_eq_getElem hjl⟩
      have e1 := HG6.out.cell (hy j x hxj) (fun h => h)
      have hT : (b.take (j + 1)).map (fun x => (x.toNat : Int)) = (b.take j).map (fun x => (x.toNat : Int)) ++ [(x.toNat : Int)] := by
        rw [List.take_add_one, hxj]
        simp
      have hx1 := x.toNat_lt
      generalize x.toNat = xx at *
      have w1 : wrap64 (xx : Int) = (xx : Int) := by unfold wrap64; omega
      have HT := Lib.hid hT
      have r1 : (0 : Int) ≤ (j : Int) := by omega
      have r2 : (j : Int) < (b.length : Int) := by omega
      have hb0 : z + 1 ≤ wr.heap.size := B.lt
      have hvb := (Vals.of_own HO6.out).2
      obtain ⟨a7, c7, w7, hr7, ho7, F7, -⟩ := add_int HO6.out hb0 (by omega) (xx : Int) wr.heap.size ((Fr.refl (S := fun _ => False) wr).alloc (.cells #[.int .i64 (xx : Int)] 3)) (Blk.new wr 3 #[.int .i64 (xx : Int)])
      have G7 := HG6.out.trans' F7 (fun i hi e => absurd hi (by have := hvb i e; have := HZ.out; omega))
      have B7 := B.fr F7 (fun e => by have := hvb z e; omega)
      rw [← HT.out] at ho7
      have HO7 := Lib.hid ho7
      have HG7 := Lib.hid G7
      have HB7 := Lib.hid B7
      have HRUN := Lib.hid hr7
      clear ho7 G7 B7 hr7 F7 hvb hT hxj hy B
      go_wp2_with (at_builtin; refine wpList_append_run (by rfl) (.tmp 60) (.tmp 67) 26 (by rfl) _ w7 (by exact HRUN.out) ?_)
      go_roundg (b.length - (j + 1))
      case measure => rw [HG.out]; omega
      case rel => exact ⟨j + 1, a7, c7, rfl, by omega, rfl, by go_num, HO7.out, HG7.out, HB7.out⟩
    · obtain rfl : j = b.length := by omega
      have r2 : ¬ (b.length : Int) < (b.length : Int) := by omega
      obtain ⟨L, hL⟩ : ∃ L, L = signsS k b := ⟨_, rfl⟩
      have hsig : sigR k b = if L.all (mayS k) = true then some L else none := by rw [hL]; unfold sigR; rw [if_pos HKK.out, if_neg h12, if_neg (fun h => h30 h.1)]
      have hoL := HO6.out
      rw [List.take_length, ← HP.out, ← hL] at hoL
      obtain ⟨N6, hNN⟩ : ∃ N6, N6 = b.length := ⟨_, rfl⟩
      have hoL2 : wr.ownsRow (z + 1) 3 1 (.slice a6 N6 c6) N6 (intCells L) := by rw [hNN]; exact hoL
      have hNL : b.length = L.length := by have := hoL.1; rw [intCells_len] at this; omega
      have HBB := Lib.hid hNL
      clear hL hNN hoL
      rw [hNL] at r2 ⊢
      replace hoL := hoL2
      clear hoL2
      have hN6 : N6 = L.length := by have := hoL.1; rw [intCells_len] at this; omega
      subst hN6
      have hv6 := (Vals.of_own hoL).1
      obtain ⟨a', cap', he, -, -, hz6⟩ := Ints.form hv6
      simp only [Value.slice.injEq, true_and] at he
      obtain ⟨rfl, rfl⟩ := he
      have HSIG := Lib.hid hsig
      have HV6 := Lib.hid hv6
      have HZ6 := Lib.hid hz6
      have HBK := Lib.hid B
      clear hsig hv6 hz6 hoL HX HG HO6 HB
      go_wp2_with fail
      obtain ⟨wo, hwo⟩ : ∃ wo : World, wo = wr := ⟨_, rfl⟩
      obtain rfl := hwo
      go_loopg [7] L.length (fun g q wi => ∃ k1 : Nat, g = L.length - k1 ∧ k1 ≤ L.length ∧ q = .int .i64 k1 ∧ (L.take k1).all (mayS k) = true ∧ Fr (fun _ => False) wo wi)
      case atStart => exact ⟨0, rfl, Nat.zero_le _, rfl, rfl, Fr.refl _⟩
      case round =>
        obtain ⟨k1, hg, hk1, rfl, hall, F8⟩ := hrel
        have HG2 := Lib.hid hg
        have HALL := Lib.hid hall
        have B8 := HBK.out.fr F8 (fun h => h)
        have HF8 := Lib.hid F8
        have t0 := B8.cell 0
        have t1 := B8.cell 1
        simp only [List.getElem?_toArray, List.getElem?_cons_succ, List.getElem?_cons_zero] at t0 t1
        clear hg hall
        by_cases hkl : k1 < L.length
        · obtain ⟨b8, o8, rfl, hy8⟩ := HZ6.out (by omega)
          obtain ⟨n, hn⟩ : ∃ n, L[k1]? = some n := ⟨_, List.getElem?_eq_getElem hkl⟩
          have en := F8.cell (hy8 k1 n hn) (fun h => h)
          have hat : (L.take (k1 + 1)).all (mayS k) = ((L.take k1).all (mayS k) && mayS k n) := by
            rw [List.take_add_one, hn]
            simp
          have hno : mayS k n = false → L.all (mayS k) = false := fun h => by
            rw [List.all_eq_false]
            exact ⟨n, List.mem_of_getElem? hn, by simp [h]⟩
          have HAT := Lib.hid hat
          have HNO := Lib.hid hno
          have r1 : (0 : Int) ≤ (k1 : Int) := by omega
          have r2 : (k1 : Int) < (L.length : Int) := by omega
          clear hy8 hn hat hno F8
          rcases Bool.eq_false_or_eq_true (mayS k n) with hm | hm
          · have hC : ∀ w, Calls Tryz.prog 149 #[.int .i64 k, .int .i64 n] w fun e w' => e = .returned (.bool true) ∧ w' = w := fun w => (r06May_any k n w).mono (by rintro e w' ⟨rfl, rfl⟩; exact ⟨by rw [hm], rfl⟩)
            have HC := Lib.hid hC
            have HM := Lib.hid hm
            clear hm hC
            go_wp2_with fail
            go_quiet ((go_at_call 149; exact Calls.quiet_of_same (HC.out _)))
            go_wp2_with fail
            go_roundg (L.length - (k1 + 1))
            case measure => rw [HG2.out]; omega
            case rel => exact ⟨k1 + 1, rfl, by omega, by go_num, by rw [HAT.out, HALL.out, HM.out]; rfl, HF8.out.drewN _⟩
          · have hC : ∀ w, Calls Tryz.prog 149 #[.int .i64 k, .int .i64 n] w fun e w' => e = .returned (.bool false) ∧ w' = w := fun w => (r06May_any k n w).mono (by rintro e w' ⟨rfl, rfl⟩; exact ⟨by rw [hm], rfl⟩)
            have HC := Lib.hid hC
            have hnone : sigR k b = none := by rw [HSIG.out, if_neg]; intro h; rw [HNO.out hm] at h; exact absurd h (by decide)
            have HNONE := Lib.hid hnone
            clear hm hnone hC
            go_wp2_with fail
            go_quiet ((go_at_call 149; exact Calls.quiet_of_same (HC.out _)))
            go_wp2_with fail
            exact bodyPost_ret (v := .tuple #[.slice none 0 0, .bool false]) (by simp [results, Tryz.results113, go_sem]) rfl (sigOut_no HNONE.out ((HG6.out.trans HF8.out).drewN _))
        · have r2 : ¬ (k1 : Int) < (L.length : Int) := by omega
          have hsome : sigR k b = some L := by
            have := HALL.out
            rw [List.take_of_length_le (by omega)] at this
            rw [HSIG.out, if_pos this]
          have HSOME := Lib.hid hsome
          have hvv : Ints wr (.slice a6 L.length c6) L := HV6.out.old F8
          have HVV := Lib.hid hvv
          clear hsome hvv F8
          go_wp2_with fail
          exact bodyPost_ret (v := .tuple #[.slice a6 L.length c6, .bool true]) (by simp [results, Tryz.results113, go_sem]) rfl ⟨_, by rw [HSOME.out]; rfl, by rw [HSOME.out]; exact HVV.out, HG6.out.trans HF8.out⟩
end Go.Proofs.YthjcoolefboodaaGreatDoor

namespace Go.Proofs.YthjcoolefboodaaGreatDoor
open Go Go.RowKit Go.Q
theorem r06Signs_any (k : Int) (v : Value) (b : List UInt8) (w : World) (h : Bytes w v b) (hlim : b.length ≤ 16777216) :
    Calls Tryz.prog 113 #[.agg #[.int .i64 k, v]] w fun e w' => RSigOut w w' k b e := by
  rcases Bool.eq_false_or_eq_true (Go.Q.kindOk k) with hk | hk
  · by_cases h12 : k = 12
    · subst h12
      exact r06Signs_12 v b w h hlim
    · by_cases h30 : k = 30
      · subst h30
        exact r06Signs_30 v b w h hlim
      · exact r06Signs_one k hk h12 h30 v b w h hlim
  · exact r06Signs_none k hk v b w h hlim
end Go.Proofs.YthjcoolefboodaaGreatDoor

namespace Go.Q
open Go Go.RowKit
theorem decN_cases {n b0 b1 b2 b3 v m : Nat} (h : Lib.decodeN n b0 b1 b2 b3 = (v, m)) (hs : ¬ (v = 65533 ∧ m ≤ 1)) (h0 : b0 < 256) (h1 : b1 < 256) (_ : b2 < 256) (_ : b3 < 256) :
    (m = 1 ∧ v = b0 ∧ v < 128) ∨ (m = 2 ∧ 1 < n ∧ 128 ≤ v ∧ v < 2048 ∧ b0 = 192 + v / 64 ∧ b1 = 128 + v % 64) ∨
    (m = 3 ∧ 2 < n ∧ 2048 ≤ v ∧ v < 65536 ∧ ¬ (55296 ≤ v ∧ v ≤ 57343) ∧ b0 = 224 + v / 4096 ∧ b1 = 128 + v / 64 % 64 ∧ b2 = 128 + v % 64) ∨
    (m = 4 ∧ 3 < n ∧ 65536 ≤ v ∧ v ≤ 1114111 ∧ b0 = 240 + v / 262144 ∧ b1 = 128 + v / 4096 % 64 ∧ b2 = 128 + v / 64 % 64 ∧ b3 = 128 + v % 64) := by
  unfold Lib.decodeN at h
  split at h
  · simp only [Prod.mk.injEq] at h
    exact .inl ⟨by omega, by omega, by omega⟩
  split at h
  · split at h
    · simp only [Prod.mk.injEq] at h
      exact .inr (.inl ⟨by omega, by omega, by omega, by omega, by omega, by omega⟩)
    · simp only [Prod.mk.injEq] at h
      exact absurd ⟨h.1.symm, by omega⟩ hs
  split at h
  · split at h
    · simp only [Prod.mk.injEq] at h
      exact .inr (.inr (.inl ⟨by omega, by omega, by omega, by omega, by omega, by omega, by omega, by omega⟩))
    · simp only [Prod.mk.injEq] at h
      exact absurd ⟨h.1.symm, by omega⟩ hs
  split at h
  · split at h
    · simp only [Prod.mk.injEq] at h
      exact .inr (.inr (.inr ⟨by omega, by omega, by omega, by omega, by omega, by omega, by omega, by omega⟩))
    · simp only [Prod.mk.injEq] at h
      exact absurd ⟨h.1.symm, by omega⟩ hs
  · simp only [Prod.mk.injEq] at h
    exact absurd ⟨h.1.symm, by omega⟩ hs
theorem u8_of {x : UInt8} {n : Nat} (h : x.toNat = n) : x = UInt8.ofNat n := by
  subst h
  exact (UInt8.ofNat_toNat).symm
theorem dec_strict {l : List UInt8} (hl : l ≠ []) (hs : ¬ ((decS l).1 = 65533 ∧ (decS l).2 ≤ 1)) : ∃ n rest, okSign n ∧ l = enc n ++ rest ∧ (decS l).1 = n ∧ (decS l).2 = (enc n).length := by
  obtain ⟨v, m, hvm⟩ : ∃ v m, decS l = (v, m) := ⟨_, _, rfl⟩
  have g : ∀ x : UInt8, x.toNat < 256 := fun x => x.toNat_lt
  have hc := decN_cases (by exact hvm) (by rw [hvm] at hs; exact hs) (g _) (g _) (g _) (g _)
  rw [hvm]
  rcases hc with ⟨rfl, h1, h2⟩ | ⟨rfl, h1, h2, h3, h4, h5⟩ | ⟨rfl, h1, h2, h3, h4, h5, h6, h7⟩ | ⟨rfl, h1, h2, h3, h4, h5, h6, h7⟩
  · have he : enc v = [UInt8.ofNat v] := by unfold enc; rw [if_pos h2]
    match l, hl with
    | x :: t, _ =>
      simp only [List.getD_cons_zero] at h1
      exact ⟨v, t, ⟨by omega, by omega⟩, by rw [he, u8_of h1.symm]; rfl, rfl, by rw [he]; rfl⟩
  · have he : enc v = [UInt8.ofNat (192 + v / 64), UInt8.ofNat (128 + v % 64)] := by unfold enc; rw [if_neg (by omega), if_pos h3]
    match l, h1 with
    | x :: y :: t, _ =>
      simp only [List.getD_cons_zero, List.getD_cons_succ] at h4 h5
      exact ⟨v, t, ⟨by omega, by omega⟩, by rw [he, u8_of h4, u8_of h5]; rfl, rfl, by rw [he]; rfl⟩
  · have he : enc v = [UInt8.ofNat (224 + v / 4096), UInt8.ofNat (128 + v / 64 % 64), UInt8.ofNat (128 + v % 64)] := by unfold enc; rw [if_neg (by omega), if_neg (by omega), if_pos h3]
    match l, h1 with
    | x :: y :: z :: t, _ =>
      simp only [List.getD_cons_zero, List.getD_cons_succ] at h5 h6 h7
      exact ⟨v, t, ⟨by omega, h4⟩, by rw [he, u8_of h5, u8_of h6, u8_of h7]; rfl, rfl, by rw [he]; rfl⟩
  · have he : enc v = [UInt8.ofNat (240 + v / 262144), UInt8.ofNat (128 + v / 4096 % 64), UInt8.ofNat (128 + v / 64 % 64), UInt8.ofNat (128 + v % 64)] := by unfold enc; rw [if_neg (by omega), if_neg (by omega), if_neg (by omega)]
    match l, h1 with
    | x :: y :: z :: u :: t, _ =>
      simp only [List.getD_cons_zero, List.getD_cons_succ] at h4 h5 h6 h7
      exact ⟨v, t, ⟨by omega, by omega⟩, by rw [he, u8_of h4, u8_of h5, u8_of h6, u8_of h7]; rfl, rfl, by rw [he]; rfl⟩
theorem loose_enc {n : Nat} (h : okSign n) (rest : List UInt8) : looseL (enc n ++ rest) = (looseL rest).map (n :: ·) := by
  obtain ⟨h1, h2⟩ := h
  have key : ∀ (x : UInt8) (t : List UInt8) (n0 more : Nat), looseHead x.toNat = (n0, more) → t.length = more → looseAcc n0 t = n → enc n = x :: t → looseL (enc n ++ rest) = (looseL rest).map (n :: ·) := by
    intro x t n0 more hh ht ha he
    rw [he, List.cons_append, looseL_cons hh, ← ht, List.take_left, List.drop_left, ha, if_neg (by omega)]
  by_cases c1 : n < 128
  · have e1 := u8 n (by omega)
    exact key (UInt8.ofNat n) [] n 0 (by rw [e1]; unfold looseHead; rw [if_neg (by omega), if_neg (by omega), if_neg (by omega)]) rfl rfl (by unfold enc; rw [if_pos c1])
  by_cases c2 : n < 2048
  · have e1 := u8 (192 + n / 64) (by omega)
    have e2 := u8 (128 + n % 64) (by omega)
    exact key _ [UInt8.ofNat (128 + n % 64)] (n / 64) 1 (by rw [e1]; unfold looseHead; rw [if_neg (by omega), if_neg (by omega), if_pos (by omega)]; simp) rfl (by simp only [looseAcc, List.foldl_cons, List.foldl_nil, e2]; omega) (by unfold enc; rw [if_neg c1, if_pos c2])
  by_cases c3 : n < 65536
  · have e1 := u8 (224 + n / 4096) (by omega)
    have e2 := u8 (128 + n / 64 % 64) (by omega)
    have e3 := u8 (128 + n % 64) (by omega)
    exact key _ [UInt8.ofNat (128 + n / 64 % 64), UInt8.ofNat (128 + n % 64)] (n / 4096) 2 (by rw [e1]; unfold looseHead; rw [if_neg (by omega), if_pos (by omega)]; simp) rfl (by simp only [looseAcc, List.foldl_cons, List.foldl_nil, e2, e3]; omega) (by unfold enc; rw [if_neg c1, if_neg c2, if_pos c3])
  · have e1 := u8 (240 + n / 262144) (by omega)
    have e2 := u8 (128 + n / 4096 % 64) (by omega)
    have e3 := u8 (128 + n / 64 % 64) (by omega)
    have e4 := u8 (128 + n % 64) (by omega)
    exact key _ [UInt8.ofNat (128 + n / 4096 % 64), UInt8.ofNat (128 + n / 64 % 64), UInt8.ofNat (128 + n % 64)] (n / 262144) 3 (by rw [e1]; unfold looseHead; rw [if_pos (by omega)]; simp) rfl (by simp only [looseAcc, List.foldl_cons, List.foldl_nil, e2, e3, e4]; omega) (by unfold enc; rw [if_neg c1, if_neg c2, if_neg c3])
theorem loose_all : ∀ ns : List Nat, (∀ n ∈ ns, okSign n) → looseL (encAll ns) = some ns
  | [], _ => rfl
  | n :: t, h => by
    have e : encAll (n :: t) = enc n ++ encAll t := by simp [encAll]
    rw [e, loose_enc (h n (by simp)), loose_all t (fun m hm => h m (by simp [hm]))]
    rfl
theorem wide_strict : ∀ (f : Nat) (b : List UInt8), b.length ≤ f → (wideS f b).all (mayS 12) = true → ∃ ns : List Nat, (∀ n ∈ ns, okSign n) ∧ b = encAll ns ∧ wideS f b = natInts ns
  | f, [], _, _ => ⟨[], fun n hn => absurd hn List.not_mem_nil, rfl, by cases f <;> rfl⟩
  | 0, x :: t, h, _ => by simp at h
  | f + 1, x :: t, h, ha => by
    simp only [wideS, List.all_cons, Bool.and_eq_true] at ha
    obtain ⟨h1, h2⟩ := ha
    have hs : ¬ ((decS (x :: t)).1 = 65533 ∧ (decS (x :: t)).2 ≤ 1) := fun hc => by
      rw [if_pos hc] at h1
      simp [mayS] at h1
    obtain ⟨n, rest, hn, he, hd1, hd2⟩ := dec_strict (List.cons_ne_nil x t) hs
    have hp := enc_pos n
    have hlen : (enc n).length + rest.length = t.length + 1 := by
      have := congrArg List.length he
      simpa [List.length_append] using this.symm
    have hdrop : (x :: t).drop (decS (x :: t)).2 = rest := by rw [hd2, he, List.drop_left]
    rw [hdrop] at h2
    obtain ⟨ns, g1, g2, g3⟩ := wide_strict f rest (by simp at h; omega) h2
    refine ⟨n :: ns, fun m hm => ?_, ?_, ?_⟩
    · rcases List.mem_cons.1 hm with rfl | hm
      · exact hn
      · exact g1 m hm
    · rw [he, g2]; simp [encAll]
    · simp only [wideS]
      rw [if_neg hs, hdrop, hd1, g3]
      rfl
theorem sigR_right {k : Int} {b : List UInt8} (h : rightS k b = true) : sigR k b = some (signsS k b) := by
  have hr := h
  unfold rightS at h
  rw [Bool.and_eq_true] at h
  obtain ⟨hk, ha⟩ := h
  unfold sigR
  rw [if_pos hk]
  by_cases h12 : k = 12
  · subst h12
    rw [if_pos rfl]
    have ha2 : (wideS b.length b).all (mayS 12) = true := ha
    obtain ⟨ns, g1, g2, g3⟩ := wide_strict b.length b (Nat.le_refl _) ha2
    have hs : signsS 12 b = natInts ns := g3
    have hw : wideR b = some ns := by
      rw [wideR_some (ns := ns) (by rw [g2]; exact loose_all ns g1), if_pos ⟨by rw [← hs]; exact ha, g2.symm⟩]
    rw [hw, hs]
    rfl
  · rw [if_neg h12]
    by_cases h30 : k = 30 ∧ b.length % 2 = 1
    · exfalso
      obtain ⟨rfl, ho⟩ := h30
      have : ∀ l : List UInt8, l.length % 2 = 1 → (-1 : Int) ∈ pairsS l := by
        intro l
        induction hn : l.length using Nat.strongRecOn generalizing l with
        | _ n ih =>
          intro hl
          match l, hl with
          | [x], _ => simp [pairsS]
          | x :: y :: t, hl =>
            simp only [pairsS, List.mem_cons]
            have hl2 : n % 2 = 1 := hl
            have hn2 : t.length + 1 + 1 = n := hn
            exact .inr (ih t.length (by omega) t rfl (by omega))
      have hm := this b ho
      have hs : signsS 30 b = pairsS b := rfl
      rw [hs] at ha
      have := List.all_eq_true.1 ha _ hm
      exact absurd this (by decide)
    · rw [if_neg h30, if_pos ha]
theorem sigR_iff (k : Int) (b : List UInt8) : sigR k b = if rightS k b = true then some (signsS k b) else none := by
  by_cases h : rightS k b = true
  · rw [if_pos h, sigR_right h]
  · rw [if_neg h]
    cases hs : sigR k b with
    | none => rfl
    | some l => exact absurd (sigR_ok hs).1 h
end Go.Q

namespace Go.Q
open Go Go.RowKit
theorem kind_contains (k : Int) : ([12, 19, 20, 22, 26, 30] : List Int).contains k = kindOk k := by
  unfold kindOk
  rw [Bool.eq_iff_iff]
  simp
def printB (n : Int) : Bool := (decide (97 ≤ n ∧ n ≤ 122) || decide (65 ≤ n ∧ n ≤ 90) || decide (48 ≤ n ∧ n ≤ 57)) || (decide (0 < n ∧ n < 128) && decide (0 ≤ Lib.indexByte [32, 39, 40, 41, 43, 44, 45, 46, 47, 58, 61, 63] (UInt8.ofNat n.toNat)))
set_option maxRecDepth 100000 in
theorem printB_small : ∀ m : Fin 256, printB (m.val : Int) = printables.contains (UInt8.ofNat m.val) := by decide +kernel
theorem printB_eq (n : Int) : printB n = mayS 19 n := by
  simp only [mayS, show ¬ ((19 : Int) = 12) from by decide, if_false, if_true]
  by_cases h : 0 ≤ n ∧ n < 256
  · obtain ⟨m, rfl⟩ : ∃ m : Nat, n = m := ⟨n.toNat, by omega⟩
    have := printB_small ⟨m, by omega⟩
    simp only at this
    rw [this, decide_eq_true h, Bool.true_and, Int.toNat_natCast]
  · rw [decide_eq_false h, Bool.false_and]
    unfold printB
    rw [decide_eq_false (by omega), decide_eq_false (by omega), decide_eq_false (by omega), decide_eq_false (by omega)]
    rfl
end Go.Q
namespace Go.Proofs.YthjcoolefboodaaGreatDoor
open Go Go.RowKit Go.Q
set_option maxRecDepth 20000 in
theorem known_any (k : Int) (w : World) :
    Calls Tryz.prog 201 #[.int .i64 k] w fun e w' => e = .returned (.bool (Go.Q.kindOk k)) ∧ Fr (fun _ => False) w w' := by
  have F : Fr (fun _ => False) w (w.alloc (.cells #[.int .i64 12, .int .i64 19, .int .i64 20, .int .i64 22, .int .i64 26, .int .i64 30] 3)) := (Fr.refl w).alloc _
  have B := Blk.new w 3 #[.int .i64 12, .int .i64 19, .int .i64 20, .int .i64 22, .int .i64 26, .int .i64 30]
  have H := Go.Proofs.Tryz.slices_Contains_int w.heap.size 0 6 6 [12, 19, 20, 22, 26, 30] k _ (by simp) (by omega) (fun j hj => by
    rw [Nat.zero_add, B.cell]
    match j, hj with
    | 0, _ => rfl
    | 1, _ => rfl
    | 2, _ => rfl
    | 3, _ => rfl
    | 4, _ => rfl
    | 5, _ => rfl
    | j + 6, hj => simp at hj; omega)
  rw [show ([12, 19, 20, 22, 26, 30] : List Int).take 6 = [12, 19, 20, 22, 26, 30] from rfl, kind_contains] at H
  have HH := Lib.hid H
  have HF := Lib.hid F
  clear H F B
  go_enter Tryz.func201, Tryz.ntmps201
  go_wp2_with (first | (go_at_call 196; go_in))
  refine HH.out.mono ?_
  rintro e w' ⟨rfl, rfl⟩
  go_wp2_with fail
  go_ret
  exact ⟨rfl, HF.out⟩
theorem surr_any (n : Int) (w : World) :
    Calls Tryz.prog 228 #[.int .i64 n] w fun e w' => e = .returned (.bool (surr n)) ∧ w = w' := by
  have hs : surr n = if 55296 ≤ n then (if n ≤ 57343 then true else false) else false := by
    unfold surr
    split
    · split
      · exact decide_eq_true (by omega)
      · exact decide_eq_false (by omega)
    · exact decide_eq_false (by omega)
  have HS := Lib.hid hs
  clear hs
  rcases Int.lt_or_le n 55296 with h1 | h1
  · have q1 : ¬ (55296 : Int) ≤ n := by omega
    go_enter Tryz.func228, Tryz.ntmps228
    go_wp2_with fail
    go_ret
    exact ⟨by rw [HS.out, if_neg (by omega)]; rfl, rfl⟩
  · rcases Int.lt_or_le 57343 n with h2 | h2
    · have q2 : ¬ n ≤ (57343 : Int) := by omega
      go_enter Tryz.func228, Tryz.ntmps228
      go_wp2_with fail
      go_ret
      exact ⟨by rw [HS.out, if_pos h1, if_neg (by omega)]; rfl, rfl⟩
    · go_enter Tryz.func228, Tryz.ntmps228
      go_wp2_with fail
      go_ret
      exact ⟨by rw [HS.out, if_pos h1, if_pos h2]; rfl, rfl⟩
end Go.Proofs.YthjcoolefboodaaGreatDoor

namespace Go.Proofs.YthjcoolefboodaaGreatDoor
open Go Go.RowKit Go.Q
set_option maxRecDepth 20000 in
theorem printable_any (n : Int) (w : World) :
    Calls Tryz.prog 229 #[.int .i64 n] w fun e w' => e = .returned (.bool (mayS 19 n)) ∧ w = w' := by
  go_enter Tryz.func229, Tryz.ntmps229
  go_wp2_with (first | (go_at_call 247; refine (Go.Proofs.Tryz.strings_IndexByte _ _ w).mono ?_; rintro e w' ⟨rfl, rfl⟩))
  all_goals
    go_ret
    refine ⟨?_, rfl⟩
    rw [← printB_eq]
    first
    | (have e : printB n = true := by unfold printB; rw [Bool.or_eq_true]; left; simp only [Bool.or_eq_true, decide_eq_true_eq]; omega
       rw [e]; rfl)
    | (have e : printB n = false := by unfold printB; rw [decide_eq_false (by omega), decide_eq_false (by omega), decide_eq_false (by omega), decide_eq_false (by omega)]; rfl
       rw [e]; rfl)
    | (have e : printB n = decide (0 ≤ Lib.indexByte [32, 39, 40, 41, 43, 44, 45, 46, 47, 58, 61, 63] (UInt8.ofNat n.toNat)) := by
         unfold printB; rw [decide_eq_false (by omega), decide_eq_false (by omega), decide_eq_false (by omega), decide_eq_true (by omega)]; rfl
       have hw : IntKind.u8.wrap n = n := by simp [IntKind.wrap, IntKind.signed, IntKind.bits]; omega
       have e2 : UInt8.ofNat n.toNat = (IntKind.u8.wrap n).toNat.toUInt8 := by rw [hw]
       rw [e, e2]
       rfl)
set_option maxRecDepth 20000 in
set_option maxHeartbeats 1000000 in
theorem may_any (k n : Int) (w : World) :
    Calls Tryz.prog 202 #[.int .i64 k, .int .i64 n] w fun e w' => e = .returned (.bool (mayS k n)) ∧ w = w' := by
  have hk : k = 12 ∨ k = 19 ∨ k = 20 ∨ k = 22 ∨ k = 26 ∨ k = 30 ∨ (k ≠ 12 ∧ k ≠ 19 ∧ k ≠ 20 ∧ k ≠ 22 ∧ k ≠ 26 ∧ k ≠ 30) := by omega
  rcases hk with rfl | rfl | rfl | rfl | rfl | rfl | ⟨h1, h2, h3, h4, h5, h6⟩
  case' inr.inr.inr.inr.inr.inr =>
    have q1 : (k == 12) = false := beq_eq_false_iff_ne.2 h1
    have q2 : (k == 19) = false := beq_eq_false_iff_ne.2 h2
    have q3 : (k == 20) = false := beq_eq_false_iff_ne.2 h3
    have q4 : (k == 22) = false := beq_eq_false_iff_ne.2 h4
    have q5 : (k == 26) = false := beq_eq_false_iff_ne.2 h5
    have q6 : (k == 30) = false := beq_eq_false_iff_ne.2 h6
  all_goals
    go_enter Tryz.func202, Tryz.ntmps202
    go_wp2_with (first | (go_at_call 228; refine (surr_any _ w).mono ?_; rintro e w' ⟨rfl, rfl⟩) | (go_at_call 229; refine (printable_any _ w).mono ?_; rintro e w' ⟨rfl, rfl⟩))
    all_goals
      go_ret
      refine ⟨?_, rfl⟩
      refine congrArg (fun z => Ending.returned (Value.bool z)) ?_
      first
      | rfl
      | (unfold mayS; simp only [*, Int.reduceEq, if_false, if_true]; done)
      | (simp [mayS, *]; done)
      | (simp [mayS]; omega)
end Go.Proofs.YthjcoolefboodaaGreatDoor

namespace Go.Q
open Go Go.RowKit
theorem Fr.putObj {S : Nat → Prop} {a w : World} (h : Fr S a w) (l : Nat) (hl : l < a.heap.size → S l) (o : Obj) : Fr S a (w.putObj l o) :=
  ⟨h.os, h.tape, h.output, by rw [World.putObj_size]; exact h.size, fun k hk hS => by
    rw [World.putObj_heap_other (fun e => hS (by subst e; exact hl hk))]
    exact h.block k hk hS⟩
def Iter (P : Program) (gf : Nat) (lb : Array Value) (xs : List Int) (cb base : Nat) (w : World) : Prop :=
  ∀ (l : Nat) (J Jx : List Int → World → Prop) (W : World), Fr (fun _ => False) w W →
    (∀ s A B, J s A → Fr (fun k => k = cb) A B → J s B) → (∀ s A B, Jx s A → Fr (fun k => k = cb) A B → Jx s B) →
    (∀ pre x rest W1, xs = pre ++ x :: rest → J pre W1 → YieldAt Fence.wide 1 P l #[.int .i64 x] W1 fun e W' =>
      (e = .returned (.bool true) ∧ J (pre ++ [x]) W' ∧ Fr (fun k => base ≤ k ∧ k ≠ cb) W1 W') ∨ (e = .returned (.bool false) ∧ Jx (pre ++ [x]) W')) →
    J [] W →
    CallsIn Fence.wide 2 P gf (#[.func (.yield l) #[] #[]] ++ lb) W fun e W' => (∃ v, e = .returned v) ∧ (J xs W' ∨ ∃ pre, pre <+: xs ∧ Jx pre W')
def seqPost (I : List Int → World → Prop) (Ix : Code → List Int → World → Prop) (base cb : Nat) (E : Nat) (xs : List Int) (W : World) : Exit → Act → World → Prop
  | .normal, _, W' => Fr (fun k => base ≤ k ∧ k ≠ cb ∧ k ≠ E ∧ k ≠ E + 1) W W' ∧ I xs W'
  | .ret, _, W' => Fr (fun k => base ≤ k ∧ k ≠ cb ∧ k ≠ E ∧ k ≠ E + 1) W W' ∧ Ix .ret xs W'
  | .exit id, _, W' => Fr (fun k => base ≤ k ∧ k ≠ cb ∧ k ≠ E ∧ k ≠ E + 1) W W' ∧ Ix (.exit id) xs W'
  | .goto t, _, W' => Fr (fun k => base ≤ k ∧ k ≠ cb ∧ k ≠ E ∧ k ≠ E + 1) W W' ∧ Ix (.goto t) xs W'
  | .panic _, _, _ => False
  | .outgrown, _, _ => False
variable {P : Program}
theorem range_law {g : Operand} {ps : Array Tmp} {assign body : Code} {Q : Exit → Act → World → Prop} {a : Act} {w : World}
    {gf : Nat} {lb : Array Value} (hg : a.eval g = .func (.func gf) #[] lb) (eg : ∀ args w, (callFunc gf args).run P w = .ok (.enter gf args) w)
    {xs : List Int} {cb base : Nat} (hcb : cb < w.heap.size) (hbase : base ≤ w.heap.size) (hseq : Iter P gf lb xs cb base w) (hps : ps.size = 1)
    (I : List Int → World → Prop) (Ix : Code → List Int → World → Prop)
    (hI : ∀ s A B, I s A → Fr (fun k => k = cb ∨ k = w.heap.size ∨ k = w.heap.size + 1) A B → I s B)
    (hIx : ∀ c s A B, Ix c s A → Fr (fun k => k = cb ∨ k = w.heap.size ∨ k = w.heap.size + 1) A B → Ix c s B) (h0 : I [] w) (a₁ : Int → Act)
    (hassign : ∀ (l : Nat) (x : Int) (W : World) (K : Act → World → Prop), K (a₁ x) W →
      assign.wpIn (Fence.wide.inRound l) 1 P (Exit.then K (fun _ _ _ => False)) { tmps := (ps.zip #[.int .i64 x]).foldl (fun t (p, v) => t.setIfInBounds p v) a.tmps, defers := [] } W)
    (hbody : ∀ (l : Nat) (pre : List Int) (x : Int) (rest : List Int) (W : World), xs = pre ++ x :: rest → I pre W → w.heap.size + 2 ≤ W.heap.size → body.wpIn (Fence.wide.inRound l) 1 P (seqPost I Ix base cb w.heap.size (pre ++ [x]) W) (a₁ x) W)
    (hdone : ∀ (D : Nat) (W : World), D = w.heap.size → I xs W → W.heap[D]? = some (.deferred (some [])) → Q .normal { a with defers := { target := .collected D, args := #[] } :: a.defers } W)
    (hstop : ∀ (D : Nat) (c : Code) (pre : List Int) (W : World), D = w.heap.size → pre <+: xs → Ix c pre W → W.heap[D]? = some (.deferred (some [])) → c.wpIn Fence.wide 3 P Q { a with defers := { target := .collected D, args := #[] } :: a.defers } W) :
    (Code.rangeFunc g ps assign body).wpIn Fence.wide 3 P Q a w := by
  refine wpIn_rangeFunc ?_
  intro fn hfn
  obtain ⟨E, hE⟩ : ∃ E, E = w.heap.size := ⟨_, rfl⟩
  obtain ⟨rec, hrec⟩ : ∃ rec : LoopState → Option Code → Loop, rec = fun st pe => { state := st, pending := pe, fn, tmps := a.tmps, params := ps, assign, body, defers := E } := ⟨_, rfl⟩
  obtain ⟨W1, hW1⟩ : ∃ W1, W1 = (w.alloc (.deferred (some []))).alloc (.loop (rec .ready none)) := ⟨_, rfl⟩
  have F1 : Fr (fun _ => False) w W1 := by rw [hW1]; exact ((Fr.refl w).alloc _).alloc _
  have hL1 : W1.heap[E + 1]? = some (.loop (rec .ready none)) := by
    rw [hW1, hE]
    have := World.alloc_heap_new (w.alloc (.deferred (some []))) (.loop (rec .ready none))
    rwa [World.size_alloc] at this
  have hK1 : W1.heap[E]? = some (.deferred (some [])) := by
    rw [hW1, hE]
    exact (Below.heap_alloc _ _ _ (by simp)).trans (World.alloc_heap_new w _)
  have hI1 : I [] W1 := hI [] w W1 h0 (F1.mono (fun _ _ h => h.elim))
  have keep : ∀ {S : Nat → Prop} {A B : World} {k : Nat} {o : Obj}, Fr S A B → A.heap[k]? = some o → ¬ S k → B.heap[k]? = some o := fun f h hS =>
    (f.block _ (Array.getElem?_eq_some_iff.1 h).1 hS).trans h
  have hcbE : cb < E := by rw [hE]; exact hcb
  refine ⟨E + 1, [{ target := .collected E, args := #[] }], W1, { target := .fn (.func gf) lb, args := #[.func (.yield (E + 1)) #[] #[]] }, W1, gf,
    #[.func (.yield (E + 1)) #[] #[]] ++ lb, W1, ?_, ?_, fun _ _ => trivial, ?_, fun _ => by decide, ?_⟩
  · rw [hW1, hrec, hE]
    exact run_enterLoop_outer _ _ _ _ _
  · simp only [resolve, hg]
    simp [go_sem]
  · simp [invoke, go_sem, eg]
  refine (hseq (E + 1)
    (fun pre W => I pre W ∧ W.heap[E + 1]? = some (.loop (rec .ready none)) ∧ W.heap[E]? = some (.deferred (some [])))
    (fun pre W => ∃ c, Ix c pre W ∧ W.heap[E + 1]? = some (.loop (rec .done (some c))) ∧ W.heap[E]? = some (.deferred (some [])))
    W1 F1 ?_ ?_ ?_ ⟨hI1, hL1, hK1⟩).mono ?_
  · rintro s A B ⟨hi, hl, hk⟩ f
    exact ⟨hI s A B hi (f.mono (fun _ _ h => .inl h)), keep f hl (by omega), keep f hk (by omega)⟩
  · rintro s A B ⟨c, hi, hl, hk⟩ f
    exact ⟨c, hIx c s A B hi (f.mono (fun _ _ h => .inl h)), keep f hl (by omega), keep f hk (by omega)⟩
  · rintro pre x rest W hxs ⟨hi, hl, hk⟩
    have hlt : E + 1 < W.heap.size := (Array.getElem?_eq_some_iff.1 hl).1
    have hy := run_yield (P := P) (args := #[.int .i64 x]) hl (by rw [hrec]; simp [hps])
    rw [hrec] at hy
    refine ⟨fn, _, assign, body, hy, roundIn_of_wpIn hfn (hassign _ x W _ ⟨_, run_beginRound hl (by rw [hrec]), ?_⟩)⟩
    obtain ⟨W2, hW2⟩ : ∃ W2, W2 = W.putObj (E + 1) (.loop { rec .ready none with state := .busy }) := ⟨_, rfl⟩
    have F2 : Fr (fun k => k = E + 1) W W2 := by rw [hW2]; exact Fr.putObj (S := fun k => k = E + 1) (Fr.refl W) (E + 1) (fun _ => rfl) _
    have hl2 : W2.heap[E + 1]? = some (.loop { rec .ready none with state := .busy }) := by rw [hW2]; exact World.putObj_heap_same hlt
    have hk2 : W2.heap[E]? = some (.deferred (some [])) := keep F2 hk (by omega)
    rw [← hW2]
    refine wpIn_mono (hbody _ pre x rest W2 hxs (hI pre W W2 hi (F2.mono (fun _ _ h => .inr (.inr (by rw [← hE]; exact h))))) (by rw [← hE]; have := F2.size; omega)) ?_
    have fin : ∀ (jump : Option Code) (W3 : World), Fr (fun k => base ≤ k ∧ k ≠ cb ∧ k ≠ E ∧ k ≠ E + 1) W2 W3 →
        (Instr.endRound (E + 1) jump).run P W3 = .ok (.bool jump.isNone) (W3.putObj (E + 1) (.loop (rec (if jump.isNone then .ready else .done) jump))) ∧
        (W3.putObj (E + 1) (.loop (rec (if jump.isNone then .ready else .done) jump))).heap[E + 1]? = some (.loop (rec (if jump.isNone then .ready else .done) jump)) ∧
        (W3.putObj (E + 1) (.loop (rec (if jump.isNone then .ready else .done) jump))).heap[E]? = some (.deferred (some [])) ∧
        Fr (fun k => k = cb ∨ k = w.heap.size ∨ k = w.heap.size + 1) W3 (W3.putObj (E + 1) (.loop (rec (if jump.isNone then .ready else .done) jump))) ∧
        Fr (fun k => base ≤ k ∧ k ≠ cb) W (W3.putObj (E + 1) (.loop (rec (if jump.isNone then .ready else .done) jump))) := fun jump W3 f3 => by
      have hl3 := keep f3 hl2 (by simp)
      have hk3 := keep f3 hk2 (by simp)
      have hr := run_endRound (P := P) jump hl3
      have f4 : Fr (fun k => k = E + 1) W3 (W3.putObj (E + 1) (.loop (rec (if jump.isNone then .ready else .done) jump))) := Fr.putObj (S := fun k => k = E + 1) (Fr.refl W3) (E + 1) (fun _ => rfl) _
      have g : ∀ k, k = E + 1 → base ≤ k ∧ k ≠ cb := fun k e => by omega
      refine ⟨?_, World.putObj_heap_same (Array.getElem?_eq_some_iff.1 hl3).1, keep f4 hk3 (by omega), f4.mono (fun _ _ h => .inr (.inr (by rw [← hE]; exact h))), ?_⟩
      · rw [hr, hrec]
      · exact ((F2.mono (fun k _ h => g k h)).trans (f3.mono (fun _ _ h => ⟨h.1, h.2.1⟩))).trans (f4.mono (fun k _ h => g k h))
    rw [← hE]
    rintro e a3 W3 hp
    cases e with
    | normal =>
      obtain ⟨f3, hi3⟩ := hp
      obtain ⟨hr, hl4, hk4, f4, f5⟩ := fin none W3 f3
      exact ⟨_, _, hr, .inl ⟨rfl, ⟨hI _ _ _ hi3 f4, hl4, hk4⟩, f5⟩⟩
    | ret =>
      obtain ⟨f3, hi3⟩ := hp
      obtain ⟨hr, hl4, hk4, f4, f5⟩ := fin (some .ret) W3 f3
      exact ⟨_, _, hr, .inr ⟨rfl, .ret, hIx _ _ _ _ hi3 f4, hl4, hk4⟩⟩
    | exit id =>
      obtain ⟨f3, hi3⟩ := hp
      obtain ⟨hr, hl4, hk4, f4, f5⟩ := fin (some (.exit id)) W3 f3
      exact ⟨_, _, hr, .inr ⟨rfl, .exit id, hIx _ _ _ _ hi3 f4, hl4, hk4⟩⟩
    | goto t =>
      obtain ⟨f3, hi3⟩ := hp
      obtain ⟨hr, hl4, hk4, f4, f5⟩ := fin (some (.goto t)) W3 f3
      exact ⟨_, _, hr, .inr ⟨rfl, .goto t, hIx _ _ _ _ hi3 f4, hl4, hk4⟩⟩
    | panic ch => exact hp.elim
    | outgrown => exact hp.elim
  · rintro e W2 ⟨⟨v, rfl⟩, (⟨hi, hl, hk⟩ | ⟨pre, hpre, c, hi, hl, hk⟩)⟩
    · have hr := run_endLoop (P := P) hl (by rw [hrec]; simp)
      rw [hrec] at hr
      refine ⟨none, _, hr, hdone E _ hE (hI _ _ _ hi ((Fr.refl W2).putObj _ (fun _ => .inr (.inr (by omega))) _)) ((World.putObj_heap_other (by omega)).trans hk)⟩
    · have hr := run_endLoop (P := P) hl (by rw [hrec]; simp)
      rw [hrec] at hr
      refine ⟨some c, _, hr, hstop E c pre _ hE hpre (hIx c _ _ _ hi ((Fr.refl W2).putObj _ (fun _ => .inr (.inr (by omega))) _)) ((World.putObj_heap_other (by omega)).trans hk)⟩
end Go.Q

namespace Go.Q
open Go Go.RowKit
def byteInts (l : List UInt8) : List Int := l.map (fun x => (x.toNat : Int))
def idx (n : Nat) : Value → Nat
  | .int _ k => n - k.toNat
  | _ => 0
end Go.Q
namespace Go.Proofs.YthjcoolefboodaaGreatDoor
open Go Go.RowKit Go.Q
attribute [local go_sem] Oper.semAt_some
theorem wrap64_next {m r n : Nat} (h : m + (r + 1) = n) (hn : n ≤ maxLen) : wrap64 ((m : Int) + 1) = (m : Int) + 1 := by
  have e : maxLen = 9223372036854775807 := rfl
  rw [e] at hn
  clear e
  unfold wrap64
  omega
theorem idx_next {m r n : Nat} (h : m + (r + 1) = n) : idx n (.int .i64 ((m : Int) + 1)) < idx n (.int .i64 (m : Int)) := by
  simp only [idx]
  omega
theorem wrap64_byte (y : UInt8) : wrap64 (y.toNat : Int) = (y.toNat : Int) := by
  have := y.toNat_lt
  unfold wrap64
  omega
set_option maxRecDepth 100000 in
set_option maxHeartbeats 1000000 in
theorem single1_iter (v : Value) (l : List UInt8) (cb base : Nat) (w : World) (hc : w.cell? ⟨cb, 0, none⟩ = some v) (hv : Bytes w v l) (hoff : Off v l.length (fun k => base ≤ k)) :
    Iter Tryz.prog 246 #[pt cb] (byteInts l) cb base w := by
  intro lp J Jx W hW hJ hJx hY h0
  obtain ⟨a, cap, rfl, hcap, hmax, hx⟩ := Vals.form hv
  have HX := Lib.hid hx
  have hc1 := hW.cell hc (fun h => h)
  refine callsIn_of_wp Tryz.func246 rfl trivial ?_ rfl
  simp only [Tryz.ntmps246, List.size_toArray, List.length_cons, List.length_nil, Nat.reduceAdd, Nat.reduceSub, Array.replicate_succ, Array.replicate_zero, List.push_toArray, List.append_toArray, List.nil_append, List.cons_append]
  gi_wp2
  gi_loopw [7] (fun i wr => ∃ (pre rest : List Int), i = .int .i64 pre.length ∧ byteInts l = pre ++ rest ∧ Fr (fun k => base ≤ k ∧ k ≠ cb) W wr ∧ J pre wr) (fun i _ => idx l.length i)
  case atStart => exact ⟨[], byteInts l, rfl, rfl, Fr.refl _, h0⟩
  case round =>
    obtain ⟨pre, rest, rfl, hxs, F, hj⟩ := hrel
    have hlen : pre.length + rest.length = l.length := by
      have := congrArg List.length hxs
      simp only [byteInts, List.length_map, List.length_append] at this
      omega
    cases rest with
    | nil =>
      have q1 : ¬ (pre.length : Int) < (l.length : Int) := by simp only [List.length_nil] at hlen; omega
      gi_wp2
      go_end0
      exact ⟨⟨_, rfl⟩, .inl hj⟩
    | cons x rest =>
      simp only [List.length_cons] at hlen
      obtain ⟨y, hy, rfl⟩ : ∃ y : UInt8, l[pre.length]? = some y ∧ x = (y.toNat : Int) := by
        have h : (byteInts l)[pre.length]? = some x := by rw [hxs, List.getElem?_append_right (Nat.le_refl _), Nat.sub_self]; rfl
        unfold byteInts at h
        rw [List.getElem?_map] at h
        cases hq : l[pre.length]? with
        | none => rw [hq] at h; cases h
        | some y => rw [hq] at h; simp only [Option.map_some, Option.some.injEq] at h; exact ⟨y, rfl, h.symm⟩
      obtain ⟨b, o, rfl, hcell⟩ := HX.out (by omega)
      have hb : ¬ base ≤ b := hoff (by omega) b rfl
      have e1 := F.cell (hW.cell (hcell _ y hy) (fun h => h)) (fun h => hb h.1)
      have q1 : (pre.length : Int) < (l.length : Int) := by omega
      have q2 : (0 : Int) ≤ (pre.length : Int) := by omega
      have q4 : wrap64 ((pre.length : Int) + 1) = (pre.length : Int) + 1 := wrap64_next hlen (Nat.le_trans hcap hmax)
      have q3 : wrap64 (y.toNat : Int) = (y.toNat : Int) := wrap64_byte y
      obtain ⟨fn, tmps, assign, body, hyy, hR⟩ := hY pre _ rest wr hxs hj
      clear hx hcell
      gi_wp2
      refine hR.mono ?_
      rintro e W3 (⟨rfl, hJ3, F3⟩ | ⟨rfl, hJx3⟩)
      · gi_wp2
        go_roundw
        case rel => exact ⟨pre ++ [(y.toNat : Int)], rest, by rw [q4]; simp, by simp [hxs], F.trans F3, hJ3⟩
        case measure => rw [q4]; exact idx_next hlen
      · gi_wp2
        refine bodyPost_ret (results_none rfl _ _ _) rfl ?_
        exact ⟨⟨_, rfl⟩, .inr ⟨_, ⟨rest, by simp [hxs]⟩, hJx3⟩⟩
end Go.Proofs.YthjcoolefboodaaGreatDoor

namespace Go.Q
open Go Go.RowKit
def cellLen (w : World) (cb : Nat) : Nat :=
  match w.cell? ⟨cb, 0, none⟩ with
  | some (.slice _ n _) => n
  | _ => 0
theorem cellLen_of {w : World} {cb : Nat} {t : TypeId} {a : Option Addr} {n c : Nat} (B : Blk w cb t #[.slice a n c]) : cellLen w cb = n := by
  have := B.cell 0
  simp at this
  unfold cellLen
  rw [this]
theorem slice_on {W : World} {cb base b o cap n : Nat} {ty : TypeId} {u0 : Value} {r : List UInt8} (B : Blk W cb ty #[u0]) (hr : Bytes W (.slice (some ⟨b, o, none⟩) n cap) r) (hb : ¬ base ≤ b) (hcb : base ≤ cb) (k m c' : Nat) (a' : Option Addr) (hm : m + k = n)
    (ha : 0 < m → a' = some ⟨b, o + k, none⟩) (hc : m ≤ c') (hmax : c' ≤ maxLen) :
    Blk (W.setCell ⟨cb, 0, none⟩ (.slice a' m c')) cb ty #[.slice a' m c'] ∧ Bytes (W.setCell ⟨cb, 0, none⟩ (.slice a' m c')) (.slice a' m c') (r.drop k) ∧ Off (.slice a' m c') m (fun k => base ≤ k) ∧ Fr (fun k => k = cb) W (W.setCell ⟨cb, 0, none⟩ (.slice a' m c')) := by
  have f : Fr (fun k => k = cb) W (W.setCell ⟨cb, 0, none⟩ (.slice a' m c')) := Fr.setCell (S := fun k => k = cb) (p := ⟨cb, 0, none⟩) (Fr.refl W) (fun _ => rfl) _
  have hoff : Off (.slice a' m c') m (fun k => base ≤ k) := fun h0 j hj => by
    rw [ha h0] at hj
    simp only [Value.ownBlock, Option.some.injEq] at hj
    omega
  have hlen : r.length = n := by
    obtain ⟨a, c, he, _⟩ := hr.form
    simp only [Value.slice.injEq] at he
    exact he.2.1.symm
  have hs : Bytes W (.slice a' m c') (r.drop k) := by
    have h := Vals.sub hr k n (by omega) (Nat.le_refl _) a' c' (fun h b0 o0 e => by
      simp only [Option.some.injEq, Addr.mk.injEq, and_true] at e
      obtain ⟨rfl, rfl⟩ := e
      exact ha (by omega)) (by omega) hmax
    rw [Go.Proofs.YthjcoolefboodaaGreatDoor.byteCells_drop, Go.Proofs.YthjcoolefboodaaGreatDoor.byteCells_take, show n - k = m from by omega, List.take_of_length_le (by rw [List.length_drop]; omega)] at h
    exact h
  have hrl : (r.drop k).length = m := by rw [List.length_drop]; omega
  refine ⟨?_, hs.fr f (fun h0 j hj e => ?_), hoff, f⟩
  · have := B.set 0 (.slice a' m c')
    simpa using this
  · rw [byteCells_len, hrl] at h0
    exact hoff h0 j hj (by omega)
end Go.Q
namespace Go.Proofs.YthjcoolefboodaaGreatDoor
open Go Go.RowKit Go.Q
attribute [local go_sem] Oper.semAt_some
theorem pair_facts (x y : UInt8) : IntKind.i64.wrap (x.toNat : Int) = (x.toNat : Int) ∧ IntKind.i64.wrap (y.toNat : Int) = (y.toNat : Int) ∧ IntKind.i64.wrap ((x.toNat : Int) * 256) = (x.toNat : Int) * 256 ∧ bits .or .i64 ((x.toNat : Int) * 256) (y.toNat : Int) = ((x.toNat * 256 + y.toNat : Nat) : Int) := by
  have hx := x.toNat_lt
  have hy := y.toNat_lt
  generalize x.toNat = X at *
  generalize y.toNat = Y at *
  refine ⟨by simp [IntKind.wrap, IntKind.signed, IntKind.bits]; omega, by simp [IntKind.wrap, IntKind.signed, IntKind.bits]; omega, by simp [IntKind.wrap, IntKind.signed, IntKind.bits]; omega, ?_⟩
  exact or8 X Y (by omega) (by omega)
set_option maxRecDepth 100000 in
set_option maxHeartbeats 1000000 in
theorem pairs1_iter (v : Value) (l : List UInt8) (cb base : Nat) (w : World) (hc : Blk w cb 22 #[v]) (hv : Bytes w v l) (hoff : Off v l.length (fun k => base ≤ k)) (hcb : base ≤ cb) :
    Iter Tryz.prog 245 #[pt cb] (pairsS l) cb base w := by
  intro lp J Jx W hW hJ hJx hY h0
  have BW := hc.fr hW (fun h => h)
  have hv1 := hv.old hW
  refine callsIn_of_wp Tryz.func245 rfl trivial ?_ rfl
  simp only [Tryz.ntmps245, List.size_toArray, List.length_cons, List.length_nil, Nat.reduceAdd, Nat.reduceSub, Array.replicate_succ, Array.replicate_zero, List.push_toArray, List.append_toArray, List.nil_append, List.cons_append]
  gi_wp2
  gi_loopw [3] (fun _ wr => ∃ (pre : List Int) (r : List UInt8) (u : Value), pairsS l = pre ++ pairsS r ∧ Blk wr cb 22 #[u] ∧ Bytes wr u r ∧ Off u r.length (fun k => base ≤ k) ∧ J pre wr) (fun _ wr => cellLen wr cb)
  case atStart => exact ⟨[], l, v, rfl, BW, hv1, hoff, h0⟩
  case round =>
    obtain ⟨pre, r, u, hxs, B, hr, ho, hj⟩ := hrel
    rcases r with _ | ⟨x, _ | ⟨y, t⟩⟩
    · obtain ⟨a, cap, rfl, hcap, hmax, hx⟩ := Vals.form hr
      have e0 := B.cell 0
      simp at e0
      simp only [List.length_nil, pairsS, List.append_nil] at *
      gi_wp2
      go_end0
      exact ⟨⟨_, rfl⟩, .inl (by rw [hxs]; exact hj)⟩
    · obtain ⟨a, cap, rfl, hcap, hmax, hx⟩ := Vals.form hr
      have e0 := B.cell 0
      simp at e0
      simp only [List.length_cons, List.length_nil, pairsS, Nat.zero_add] at *
      obtain ⟨fn, tmps, assign, body, hyy, hR⟩ := hY pre _ [] wr hxs hj
      gi_wp2
      refine hR.mono ?_
      rintro e W3 (⟨rfl, hJ3, F3⟩ | ⟨rfl, hJx3⟩)
      · gi_wp2
        go_end0
        exact ⟨⟨_, rfl⟩, .inl (by rw [hxs]; exact hJ3)⟩
      · gi_wp2
        go_end0
        exact ⟨⟨_, rfl⟩, .inr ⟨_, ⟨[], by simp [hxs]⟩, hJx3⟩⟩
    · obtain ⟨a, cap, rfl, hcap, hmax, hx⟩ := Vals.form hr
      have e0 := B.cell 0
      have f0 := B.frozen 0
      simp at e0
      simp only [List.length_cons, pairsS] at *
      obtain ⟨b, o, rfl, hcell⟩ := hx (by omega)
      have c0 := hcell 0 x rfl
      have c1 := hcell 1 y rfl
      rw [Nat.add_zero] at c0
      have q1 : (1 : Int) < ((t.length + 1 + 1 : Nat) : Int) := by omega
      have q2 : (0 : Int) < ((t.length + 1 + 1 : Nat) : Int) := by omega
      obtain ⟨fn, tmps, assign, body, hyy, hR⟩ := hY pre _ _ wr.drew hxs (hJ _ _ _ hj (Fr.refl wr).drew)
      rw [show ((x.toNat * 256 + y.toNat : Nat) : Int) = (x.toNat : Int) * 256 + (y.toNat : Int) from by omega] at hyy
      have hR2 := hR.mono (R' := fun e W' => ∃ z : Bool, e = .returned (.bool z) ∧ (z = true ∧ J (pre ++ [((x.toNat * 256 + y.toNat : Nat) : Int)]) W' ∧ Fr (fun k => base ≤ k ∧ k ≠ cb) wr.drew W' ∨ z = false ∧ Jx (pre ++ [((x.toNat * 256 + y.toNat : Nat) : Int)]) W')) (by
        rintro e W' (⟨h1, h2⟩ | ⟨h1, h2⟩)
        · exact ⟨true, h1, .inl ⟨rfl, h2⟩⟩
        · exact ⟨false, h1, .inr ⟨rfl, h2⟩⟩)
      have HR2 := Lib.hid hR2
      obtain ⟨q3, q4, q5, q6⟩ := pair_facts x y
      clear hR hR2
      have hmx : Tryz.prog.follows .mixedOrders = true := by kernel_rfl
      gi_wp2
      gi_region_with_o (refine HR2.out.mono ?_; rintro e W3 ⟨z, rfl, hz⟩)
      all_goals
        rcases hz with ⟨rfl, hJ3, F3⟩ | ⟨rfl, hJx3⟩
        · have B3 := B.drew.fr F3 (fun h => h.2 rfl)
          have e3 := B3.cell 0
          have f3 := B3.frozen 0
          simp at e3
          have hb : ¬ base ≤ b := ho (by omega) b rfl
          have hr3 : Bytes W3 (.slice (some ⟨b, o, none⟩) (t.length + 1 + 1) cap) (x :: y :: t) := (hr.old (Fr.refl wr).drew).fr F3 (fun h0 k hk hs => by
            simp only [Value.ownBlock, Option.some.injEq] at hk
            subst hk
            exact hb hs.1)
          have HJ3 := Lib.hid hJ3
          have z1 : (2 : Int) ≤ ((t.length + 1 + 1 : Nat) : Int) := by omega
          clear hyy hJ3 hx hcell
          gi_wp2
          obtain ⟨B4, hr4, ho4, F4⟩ := slice_on B3 hr3 hb hcb 2 t.length (cap - 2) (if cap = 2 then some ⟨b, o, none⟩ else some ⟨b, o + 2, none⟩) rfl (fun h => if_neg (by omega)) (by omega) (by omega)
          go_roundw
          case rel => exact ⟨pre ++ [((x.toNat * 256 + y.toNat : Nat) : Int)], t, _, by simp [hxs], B4, hr4, ho4, hJ _ _ _ HJ3.out F4⟩
          case measure =>
            rw [cellLen_of B4, cellLen_of B]
            omega
        · gi_wp2
          refine bodyPost_ret (results_none rfl _ _ _) rfl ?_
          exact ⟨⟨_, rfl⟩, .inr ⟨_, ⟨pairsS t, by simp [hxs]⟩, hJx3⟩⟩
end Go.Proofs.YthjcoolefboodaaGreatDoor

namespace Go.Proofs
open Go.Shelf
def Tryz.lays7x32_ren : Go.Shelf.Ren := ⟨fun | 32 => 244 | 49 => 261 | n => n, fun | 30 => 22 | 21 => 21 | 3 => 3 | 0 => 0 | 5 => 5 | 4 => 4 | 33 => 314 | 66 => 325 | 25 => 100 | 69 => 328 | 68 => 327 | n => n, fun | 2 => 2 | 3 => 3 | n => n⟩
theorem Tryz.lays7x32 : Go.Proofs.Lays7.n32 Tryz.prog Tryz.lays7x32_ren := {
  mixed := by kernel_rfl
  f32 := Tryz.func244.trans (congrArg some (by kernel_rfl))
  f49 := Tryz.func261.trans (congrArg some (by kernel_rfl))
  t0 := Tryz.underlying0
  a0 := Tryz.isAgg0
  z0 := Tryz.sizeOf0
  v0 := Tryz.zeroValue0
  i0 := by kernel_rfl
  t3 := Tryz.underlying3
  a3 := Tryz.isAgg3
  z3 := Tryz.sizeOf3
  v3 := Tryz.zeroValue3
  i3 := by kernel_rfl
  t4 := Tryz.underlying4
  a4 := Tryz.isAgg4
  z4 := Tryz.sizeOf4
  v4 := Tryz.zeroValue4
  i4 := by kernel_rfl
  t5 := Tryz.underlying5
  a5 := Tryz.isAgg5
  z5 := Tryz.sizeOf5
  v5 := Tryz.zeroValue5
  i5 := by kernel_rfl
  t21 := Tryz.underlying21
  a21 := Tryz.isAgg21
  z21 := Tryz.sizeOf21
  v21 := Tryz.zeroValue21
  i21 := by kernel_rfl
  t25 := Tryz.underlying100
  a25 := Tryz.isAgg100
  z25 := Tryz.sizeOf100
  v25 := Tryz.zeroValue100
  i25 := by kernel_rfl
  t30 := Tryz.underlying22
  a30 := Tryz.isAgg22
  z30 := Tryz.sizeOf22
  v30 := Tryz.zeroValue22
  i30 := by kernel_rfl
  t33 := Tryz.underlying314
  a33 := Tryz.isAgg314
  z33 := Tryz.sizeOf314
  v33 := Tryz.zeroValue314
  i33 := by kernel_rfl
  t66 := Tryz.underlying325
  a66 := Tryz.isAgg325
  z66 := Tryz.sizeOf325
  t68 := Tryz.underlying327
  a68 := Tryz.isAgg327
  z68 := Tryz.sizeOf327
  v68 := Tryz.zeroValue327
  i68 := by kernel_rfl
  t69 := Tryz.underlying328
  a69 := Tryz.isAgg328
  z69 := Tryz.sizeOf328
  v69 := Tryz.zeroValue328
  i69 := by kernel_rfl
  g2 := by kernel_rfl
  g3 := by kernel_rfl }
open Go.RowKit Go.Lib in
theorem Tryz.utf8_DecodeRune (s : ByteArray) (b off cap : Nat) (w : World) (hT : Lib.Utf8Tabs 2 3 w) (hp : ∀ j, j < s.size → w.cell? ⟨b, off + j, none⟩ = some (.int .u8 (s.get! j).toNat)) :
    Calls Tryz.prog 244 #[.slice (some ⟨b, off, none⟩) s.size cap] w fun e w' => e = .returned (.tuple #[.int .i32 (Lib.decodeGo s).1, .int .i64 (Lib.decodeGo s).2]) ∧ Below w.heap.size w w' := Any7.utf8_DecodeRune Tryz.lays7x32 s b off cap w hT hp
end Go.Proofs

namespace Go.Q
open Go Go.RowKit
abbrev Tabs (w : World) : Prop := Lib.Utf8Tabs 2 3 w
theorem Tabs.fr {S : Nat → Prop} {w w' : World} (h : Tabs w) (f : Fr S w w') (h1 : ¬ S 2) (h2 : ¬ S 3) : Tabs w' :=
  ⟨fun c hc => f.cell (h.1 c hc) h1, fun i hi => ⟨f.cell (h.2 i hi).1 h2, f.cell (h.2 i hi).2 h2⟩⟩
theorem Tabs.old {w w' : World} (h : Tabs w) (f : Fr (fun _ => False) w w') : Tabs w' := h.fr f (fun h => h) (fun h => h)
theorem Tabs.size {w : World} (h : Tabs w) : 3 < w.heap.size := World.block_lt_of_cell? w _ (h.2 0 (by omega)).1
theorem bytes_get (l : List UInt8) (i : Nat) : (ByteArray.mk l.toArray).get! i = l.getD i 0 := by
  show (l.toArray)[i]! = l.getD i 0
  rw [List.getElem!_toArray, List.getElem!_eq_getElem?_getD, List.getD_eq_getElem?_getD]
  rfl
theorem decodeGo_list {l : List UInt8} (h : l ≠ []) : Lib.decodeGo ⟨l.toArray⟩ = decS l := by
  have hs : (ByteArray.mk l.toArray).size = l.length := by simp [ByteArray.size]
  have h0 : l.length ≠ 0 := fun e => h (List.length_eq_zero_iff.1 e)
  unfold Lib.decodeGo decS
  rw [hs, if_neg h0, Lib.decode_at, hs, bytes_get, bytes_get, bytes_get, bytes_get]
  rfl
set_option maxRecDepth 100000 in
theorem decN_bound (n b0 b1 b2 b3 : Nat) (hn : 1 ≤ n) : 1 ≤ (Lib.decodeN n b0 b1 b2 b3).2 ∧ (Lib.decodeN n b0 b1 b2 b3).2 ≤ n ∧ (Lib.decodeN n b0 b1 b2 b3).1 < 2147483648 := by
  unfold Lib.decodeN
  repeat' split
  all_goals (simp only; omega)
theorem decS_bound {l : List UInt8} (h : l ≠ []) : 1 ≤ (decS l).2 ∧ (decS l).2 ≤ l.length ∧ (decS l).1 < 2147483648 := by
  have h0 : l.length ≠ 0 := fun e => h (List.length_eq_zero_iff.1 e)
  exact decN_bound _ _ _ _ _ (by omega)
end Go.Q
namespace Go.Proofs.YthjcoolefboodaaGreatDoor
open Go Go.RowKit Go.Q
theorem decode_any (v : Value) (l : List UInt8) (w : World) (hv : Bytes w v l) (h : l ≠ []) (hT : Tabs w) :
    Calls Tryz.prog 244 #[v] w fun e w' => e = .returned (.tuple #[.int .i32 (decS l).1, .int .i64 (decS l).2]) ∧ Fr (fun _ => False) w w' := by
  have h0 : l.length ≠ 0 := fun e => h (List.length_eq_zero_iff.1 e)
  obtain ⟨a, cap, rfl, _, _, hx⟩ := hv.form
  obtain ⟨b, o, rfl, hc⟩ := hx (by omega)
  have hs : (ByteArray.mk l.toArray).size = l.length := by simp [ByteArray.size]
  have H := Go.Proofs.Tryz.utf8_DecodeRune ⟨l.toArray⟩ b o cap w hT (fun j hj => by
    rw [hs] at hj
    rw [bytes_get, List.getD_eq_getElem?_getD, List.getElem?_eq_getElem hj]
    exact hc j _ (List.getElem?_eq_getElem hj))
  rw [decodeGo_list h, hs] at H
  refine H.mono ?_
  rintro e w' ⟨rfl, hb⟩
  exact ⟨rfl, Fr.of_below hb⟩
end Go.Proofs.YthjcoolefboodaaGreatDoor
