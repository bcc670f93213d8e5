/-
  The walk of NameWrites: it answers true.
-/
import Derived.Test.YtgffhiopbnkjbaaGreatDoorW0c
import Derived.Test.YtgffhiopbnkjbaaGreatDoorW0d
import Derived.Deep.CutRange
import Derived.Deep.Cut
namespace Go.Q
open Go Go.RowKit
/-- What Write gives. -/
def wOut (n : List (List Part)) : List UInt8 := if nameOk n = true then nameWhole n else []
/-- What Key gives. -/
def kOut (n : List (List Part)) : List UInt8 := if nameOk n = true then nameKeyS n else []
/-- Their error. -/
def errN (n : List (List Part)) : Int := if nameOk n = true then 0 else 1
theorem cutName_200 (n : List (List Part)) : ∀ r ∈ cutName n, ∀ p ∈ r, p.b.length ≤ 200 := fun r hr p hp => by
  obtain ⟨q, -, rfl⟩ := List.mem_map.1 hr
  obtain ⟨s, -, rfl⟩ := List.mem_map.1 hp
  show (s.b.take 200).length ≤ 200
  rw [List.length_take]
  omega
end Go.Q
namespace Go.Proofs.YtgffhiopbnkjbaaGreatDoor
open Go Go.RowKit Go.Q
set_option linter.unusedSimpArgs false

theorem nameWriteAll_any (v : Value) (n : List (List Part)) (w : World) (h : NameAt w v n) (hf : ∀ r ∈ n, fewB r) (hs : nameOk n = true → (wholesN n).flatten.length ≤ 16777216) :
    Calls Tryz.prog 38 #[v] w fun e w' => (∃ a c, e = .returned (.tuple #[.slice a (wOut n).length c, .int .i64 (errN n)]) ∧ Bytes w' (.slice a (wOut n).length c) (wOut n)) ∧ Fr (fun _ => False) w w' := by
  cases hok : nameOk n with
  | true =>
    rw [show wOut n = nameWhole n from if_pos hok, show errN n = 0 from if_pos hok]
    exact (nameWrite_ok v n w h hf hok (hs hok)).mono fun e w' ⟨⟨a, c, he, ho⟩, F⟩ => ⟨⟨a, c, he, (Vals.of_own ho).1⟩, F⟩
  | false =>
    rw [show wOut n = [] from if_neg (by rw [hok]; simp), show errN n = 1 from if_neg (by rw [hok]; simp)]
    exact (nameWrite_bad v n w h hf hok).mono fun e w' ⟨he, F⟩ => ⟨⟨none, 0, he, Vals.nil w'⟩, F⟩
theorem nameKeyTwo_any (v : Value) (n : List (List Part)) (w : World) (h : NameAt w v n) (hf : ∀ r ∈ n, fewB r) (hE : Env w) :
    Calls Tryz.prog 39 #[v] w fun e w' => e = .returned (.tuple #[str (kOut n), .int .i64 (errN n)]) ∧ Fr (fun _ => False) w w' := by
  cases hok : nameOk n with
  | true =>
    rw [show kOut n = nameKeyS n from if_pos hok, show errN n = 0 from if_pos hok]
    exact nameKey_any v n w h hf hok hE
  | false =>
    rw [show kOut n = [] from if_neg (by rw [hok]; simp), show errN n = 1 from if_neg (by rw [hok]; simp)]
    exact nameKey_bad v n w h hf hok

set_option maxRecDepth 20000 in
set_option maxHeartbeats 4000000 in
theorem nwWalk_any (va : Value) (a : List (List Part)) (w : World) (ha : NameAt w va a) (hE : Env w) :
    Calls Tryz.prog 7 #[va] w fun e w' => e = .returned (.bool true) ∧ Fr (fun _ => False) w w' := by
  have HT := Lib.hid (lawTo_any va a w ha)
  have HE := Lib.hid hE
  obtain ⟨X, hX⟩ : ∃ X, X = cutName a := ⟨_, rfl⟩
  have hXl : X.length ≤ 70 := by rw [hX]; exact cutName_len a
  have HXf := Lib.hid (show ∀ r ∈ X, fewB r from by rw [hX]; exact cutName_few a)
  have HX2 := Lib.hid (show ∀ r ∈ X, ∀ p ∈ r, p.b.length ≤ 200 from by rw [hX]; exact cutName_200 a)
  have hXr : ∀ r ∈ X, r.length ≤ 1000000 := fun r hr => by
    rw [hX] at hr
    obtain ⟨q, -, rfl⟩ := List.mem_map.1 hr
    have := cutStep_len q
    omega
  have HXr := Lib.hid hXr
  rw [← hX] at HT
  clear ha hE hX hXr
  go_enter Tryz.func7, Tryz.ntmps7
  go_wp2_with fail
  refine HT.out.mono ?_
  rintro e w1 ⟨⟨a1, c1, rfl, hx⟩, F1⟩
  have HX1 := Lib.hid hx.at
  have HF1 := Lib.hid F1
  have HO := Lib.hid (lawOf_any _ X w1 HX1.out (by omega) HXr.out)
  clear hx F1 HT
  go_wp2_with fail
  refine HO.out.mono ?_
  rintro e w2 ⟨⟨a2, c2, rfl, hp⟩, F2⟩
  have HP2 := Lib.hid hp.at
  have HXb := Lib.hid (HX1.out.old F2)
  have HF2 := Lib.hid (HF1.out.trans F2)
  have HC := Lib.hid (nameWriteAll_any _ X w2 HXb.out HXf.out (fun hok => by have := name_room hok HX2.out; omega))
  clear hp F2 HX1 HF1 HO
  obtain ⟨B, hB⟩ : ∃ B, B = wOut X := ⟨_, rfl⟩
  obtain ⟨er, her⟩ : ∃ er, er = errN X := ⟨_, rfl⟩
  rw [← hB, ← her] at HC
  have HB := Lib.hid hB
  have HER := Lib.hid her
  clear hB
  go_wp2_with fail
  refine HC.out.mono ?_
  rintro e w3 ⟨⟨a3, c3, rfl, hb⟩, F3⟩
  have HB3 := Lib.hid hb
  have HX3 := Lib.hid (HXb.out.old F3)
  have HP3 := Lib.hid (HP2.out.old F3)
  have HF3 := Lib.hid (HF2.out.trans F3)
  have HC := nameKeyTwo_any _ X w3 HX3.out HXf.out (HE.out.old HF3.out)
  rw [← her] at HC
  obtain ⟨K, hK⟩ : ∃ K, K = kOut X := ⟨_, rfl⟩
  rw [← hK] at HC
  have HK := Lib.hid hK
  have HCK := Lib.hid HC
  clear HC hb F3 HXb HP2 HF2 hK her
  go_wp2_with fail
  refine HCK.out.mono ?_
  rintro e w4 ⟨rfl, F4⟩
  have HB4 := Lib.hid (HB3.out.old F4)
  have HX4 := Lib.hid (HX3.out.old F4)
  have HP4 := Lib.hid (HP3.out.old F4)
  have HF4 := Lib.hid (HF3.out.trans F4)
  clear F4 HB3 HX3 HP3 HF3 HCK
  go_wp2_with fail
  refine (nmKnown_any _ (HE.out.old HF4.out)).mono ?_
  rintro e w5 ⟨rfl, F5⟩
  have HB5 := Lib.hid (HB4.out.old F5)
  have HX5 := Lib.hid (HX4.out.old F5)
  have HP5 := Lib.hid (HP4.out.old F5)
  have HF5 := Lib.hid (HF4.out.trans F5)
  clear F5 HB4 HX4 HP4 HF4
  obtain ⟨ok, hok⟩ : ∃ ok, ok = nameOk X := ⟨_, rfl⟩
  have HR := right_any _ X w5 HX5.out HXf.out
  rw [← hok] at HR
  have HR1 := Lib.hid HR
  have HOK := Lib.hid hok
  clear HR hok
  go_wp2_with fail
  refine HR1.out.mono ?_
  rintro e w6 ⟨rfl, F6⟩
  have HB6 := Lib.hid (HB5.out.old F6)
  have HX6 := Lib.hid (HX5.out.old F6)
  have HP6 := Lib.hid (HP5.out.old F6)
  have HF6 := Lib.hid (HF5.out.trans F6)
  have HR := r14Right_any _ X w6 HP6.out HXf.out
  rw [← HOK.out] at HR
  have HR2 := Lib.hid HR
  clear F6 HB5 HX5 HP5 HF5 HR1 HR
  go_wp2_with fail
  refine HR2.out.mono ?_
  rintro e w7 ⟨rfl, F7⟩
  have HB7 := Lib.hid (HB6.out.old F7)
  have HX7 := Lib.hid (HX6.out.old F7)
  have HP7 := Lib.hid (HP6.out.old F7)
  have HF7 := Lib.hid (HF6.out.trans F7)
  clear F7 HB6 HX6 HP6 HF6 HR2
  clear HC
  go_upto_region 7 with fail
  go_wp2_with fail
  go_loopg [9] X.length (fun g ii wr => ∃ j : Nat, g = X.length - j ∧ j ≤ X.length ∧ ii = .int .i64 j ∧ Fr (fun _ => False) w7 wr)
  case atStart => exact ⟨0, rfl, Nat.zero_le _, rfl, Fr.refl _⟩
  case round =>
    obtain ⟨j, hg, hj, rfl, F⟩ := hrel
    have HG := Lib.hid hg
    have HF := Lib.hid F
    have HXj := Lib.hid (HX7.out.old F)
    have HPj := Lib.hid (HP7.out.old F)
    clear hg F
    have hcase : (j < X.length ∧ j < 5) ∨ (j < X.length ∧ ¬ j < 5) ∨ j = X.length := by omega
    rcases hcase with ⟨hjl, hj5⟩ | hend
    · obtain ⟨_, cap0, he, _, _, hx⟩ := HXj.out
      simp only [Value.slice.injEq, true_and] at he
      obtain ⟨rfl, rfl⟩ := he
      obtain ⟨b, off, rfl, hy⟩ := hx (by omega)
      obtain ⟨r, hr⟩ : ∃ r, X[j]? = some r := ⟨_, List.getElem?_eq_getElem hjl⟩
      obtain ⟨x, e1, hA⟩ := hy j r hr
      obtain ⟨_, cap1, he, _, _, hx2⟩ := HPj.out
      simp only [Value.slice.injEq, true_and] at he
      obtain ⟨rfl, rfl⟩ := he
      obtain ⟨b2, off2, rfl, hy2⟩ := hx2 (by omega)
      obtain ⟨x2, e2, hA2⟩ := hy2 j r hr
      have hmem := List.mem_of_getElem? hr
      have HRF := Lib.hid (HXf.out r hmem)
      have hrm := fun ws (h : rdnS r = some ws) => rdn_room h (HX2.out r hmem)
      have HRM := Lib.hid hrm
      have HWR := Lib.hid (writeRdn_any x r wr hA HRF.out (fun ws h => by have := (hrm ws h).1; omega))
      have HA2 := Lib.hid hA2
      have HE2 := Lib.hid e2
      have r1 : (0 : Int) ≤ (j : Int) := by omega
      have r2 : (j : Int) < (X.length : Int) := by omega
      have r3 : (j : Int) < 5 := by omega
      clear hx hy hr hA hx2 hy2 hA2 e2 hrm hmem
      go_wp2_with fail
      refine HWR.out.mono ?_
      rintro e wa ⟨hres, Fa⟩
      have HAa := Lib.hid (HA2.out.old Fa)
      have e3 := Fa.cell HE2.out (fun h => h)
      have HFa := Lib.hid (HF.out.trans Fa)
      clear Fa HF HWR HE2
      have HS := fun wz (F : Fr (fun _ => False) wa wz) => r14Step_any x2 r wz (HAa.out.old F) HRF.out
      clear e1
      cases hrd : rdnS r with
      | none =>
        rw [hrd] at hres HS
        unfold writeRdnOut at hres
        simp only at hres
        simp only [Option.isSome_none] at HS
        subst hres
        have HS1 := Lib.hid HS
        clear HS hrd HRM
        go_wp2_with fail
        refine (HS1.out wa (Fr.refl _)).mono ?_
        rintro e wb ⟨rfl, Fb⟩
        have HFb := Lib.hid (HFa.out.trans Fb)
        have e4 := Fb.cell e3 (fun h => h)
        have HS2 := Lib.hid (HS1.out wb Fb)
        clear Fb e3 HFa HS1
        go_wp2_with fail
        refine HS2.out.mono ?_
        rintro e wc ⟨rfl, Fc⟩
        have HFc := Lib.hid (HFb.out.trans Fc)
        clear Fc HFb HS2 e4
        go_wp2_with fail
        go_roundg (X.length - (j + 1))
        case measure => rw [HG.out]; omega
        case rel => exact ⟨j + 1, rfl, by omega, by go_num, HFc.out⟩
      | some ws =>
        rw [hrd] at hres HS
        unfold writeRdnOut at hres
        simp only at hres
        simp only [Option.isSome_some] at HS
        obtain ⟨aR, cR, rfl, hown⟩ := hres
        have hv := (Vals.of_own hown).1
        have hrm := HRM.out ws hrd
        have HWS := Lib.hid (fun wz (F : Fr (fun _ => False) wa wz) => r14WriteStep_any x2 r ws wz (HAa.out.old F) HRF.out hrd (by omega))
        obtain ⟨R, hR⟩ : ∃ R, R = rdnWhole ws := ⟨_, rfl⟩
        rw [← hR] at hv HWS
        rw [← hR]
        have HV := Lib.hid hv
        have HS1 := Lib.hid HS
        clear HS hrd HRM hown hv hrm hR
        go_wp2_with fail
        refine (HS1.out wa (Fr.refl _)).mono ?_
        rintro e wb ⟨rfl, Fb⟩
        have HFb := Lib.hid (HFa.out.trans Fb)
        have e4 := Fb.cell e3 (fun h => h)
        have HGb := Lib.hid Fb
        clear Fb e3 HFa
        go_wp2_with fail
        refine (HWS.out wb HGb.out).mono ?_
        rintro e wc ⟨⟨aS, cS, rfl, hS⟩, Fc⟩
        have HGc := Lib.hid (HGb.out.trans Fc)
        have HFc := Lib.hid (HFb.out.trans Fc)
        have e5 := Fc.cell e4 (fun h => h)
        have hsm := r01Same_any _ _ R R wc (HV.out.old HGc.out) (Vals.of_own hS).1
        simp only [decide_true] at hsm
        have HSM := Lib.hid hsm
        clear Fc e4 HFb hS hsm HGb HWS
        go_wp2_with fail
        refine HSM.out.mono ?_
        rintro e wd ⟨rfl, Fd⟩
        have HGd := Lib.hid (HGc.out.trans Fd)
        have HFd := Lib.hid (HFc.out.trans Fd)
        have e6 := Fd.cell e5 (fun h => h)
        clear Fd e5 HFc HGc HSM
        go_wp2_with fail
        refine (HS1.out wd HGd.out).mono ?_
        rintro e we ⟨rfl, Fe⟩
        have HFe := Lib.hid (HFd.out.trans Fe)
        clear Fe e6 HFd HGd HS1
        go_wp2_with fail
        go_roundg (X.length - (j + 1))
        case measure => rw [HG.out]; omega
        case rel => exact ⟨j + 1, rfl, by omega, by go_num, HFe.out⟩
    · have HBj := Lib.hid (HB7.out.old HF.out)
      have HFF := Lib.hid (HF7.out.trans HF.out)
      clear HB7 HX7 HP7 HF7 HF HG
      rcases hend with ⟨hjl, hj5⟩ | hjl
      case' inl =>
        have r2 : (j : Int) < (X.length : Int) := by omega
        have r3 : ¬ (j : Int) < 5 := by omega
        go_upto_region 13 with fail
        clear r2 r3 hj5
      case' inr =>
        have r2 : ¬ (j : Int) < (X.length : Int) := by omega
        go_upto_region 13 with fail
        clear r2
      all_goals
        have HR := r14Right_any _ X wr HPj.out HXf.out
        rw [← HOK.out] at HR
        have HR3 := Lib.hid HR
        clear HR
        cases ok with
        | false =>
          have hok := HOK.out.symm
          obtain rfl : B = [] := by rw [HB.out]; exact if_neg (by rw [hok]; simp)
          obtain rfl : K = [] := by rw [HK.out]; exact if_neg (by rw [hok]; simp)
          obtain rfl : er = 1 := by rw [HER.out]; exact if_neg (by rw [hok]; simp)
          clear hok HB HK HER HOK
          go_wp2_with fail
          refine HR3.out.mono ?_
          rintro e wb ⟨rfl, Fb⟩
          have HFb := Lib.hid (HFF.out.trans Fb)
          clear Fb HFF HR3
          go_wp2_with fail
          go_ret
          exact ⟨rfl, HFb.out⟩
        | true =>
          have hok := HOK.out.symm
          have hB : B = nameWhole X := by rw [HB.out]; exact if_pos hok
          have hK : K = nameKeyS X := by rw [HK.out]; exact if_pos hok
          obtain rfl : er = 0 := by rw [HER.out]; exact if_pos hok
          have hroom := name_room hok HX2.out
          have HWR := fun wz (F : Fr (fun _ => False) wr wz) => r14Write_any _ X wz (HPj.out.old F) HXf.out hok (by omega)
          have HKR := fun wz (F : Fr (fun _ => False) wr wz) => r14Key_any _ X wz (HPj.out.old F) HXf.out hok
          rw [← hB] at HWR
          rw [← hK] at HKR
          have HW1 := Lib.hid HWR
          have HK1 := Lib.hid HKR
          clear hok HB HK HER HOK hB hK hroom HWR HKR
          go_wp2_with fail
          refine HR3.out.mono ?_
          rintro e wb ⟨rfl, Fb⟩
          have HGb := Lib.hid Fb
          clear Fb HR3
          go_wp2_with fail
          refine (HW1.out wb HGb.out).mono ?_
          rintro e wc ⟨⟨aS, cS, rfl, hS⟩, Fc⟩
          have HGc := Lib.hid (HGb.out.trans Fc)
          have hsm := r01Same_any _ _ B B wc (HBj.out.old HGc.out) (Vals.of_own hS).1
          simp only [decide_true] at hsm
          have HSM := Lib.hid hsm
          clear Fc hS hsm HGb HW1
          go_wp2_with fail
          refine HSM.out.mono ?_
          rintro e wd ⟨rfl, Fd⟩
          have HGd := Lib.hid (HGc.out.trans Fd)
          clear Fd HGc HSM
          go_wp2_with fail
          refine (HK1.out wd HGd.out).mono ?_
          rintro e we ⟨rfl, Fe⟩
          have HGe := Lib.hid (HGd.out.trans Fe)
          have HO := Lib.hid (lawOf_any _ X we (HXj.out.old HGe.out) (by omega) HXr.out)
          clear Fe HGd HK1
          go_wp2_with fail
          refine HO.out.mono ?_
          rintro e wf ⟨⟨a5, c5, rfl, hq⟩, Ff⟩
          have HGf := Lib.hid (HGe.out.trans Ff)
          have hlk := r14Like_any _ _ X X wf hq.at (HPj.out.old HGf.out)
          simp only [decide_true] at hlk
          have HLK := Lib.hid hlk
          clear Ff hq hlk HGe HO
          go_wp2_with fail
          refine HLK.out.mono ?_
          rintro e wg ⟨rfl, Fg⟩
          have HGg := Lib.hid (HGf.out.trans Fg)
          clear Fg HGf HLK
          go_wp2_with fail
          go_ret
          exact ⟨rfl, HFF.out.trans HGg.out⟩
end Go.Proofs.YtgffhiopbnkjbaaGreatDoor
