/-
  Merged by program: XR14P XR14N XGenB XGenR XNkLaw XNkKnown XNkWalk1 XNbW.
-/
import Derived.Test.YtacekpdjapgfcaaGreatDoorD0ap
import Derived.Test.YtacekpdjapgfcaaGreatDoorD0am
import Derived.Test.YtacekpdjapgfcaaGreatDoorD0ao
import Derived.Test.YtacekpdjapgfcaaGreatDoorD0aj
import Derived.Test.YtacekpdjapgfcaaGreatDoorD0ai
import Derived.Test.YtacekpdjapgfcaaGreatDoorD0al
import Derived.Test.YtacekpdjapgfcaaGreatDoorD0an
namespace Go.Proofs.YtacekpdjapgfcaaGreatDoor
open Go Go.RowKit Go.Q
set_option linter.unusedSimpArgs false
def rStepOut (K : Nat → Prop) (w' : World) (p : Nat) (r : Except Int (List Part × Nat)) (e : Ending) : Prop :=
  match r with
  | .error x => e = .returned (.tuple #[.slice none 0 0, .int .i64 p, .int .i64 x])
  | .ok (l, k) => ∃ a c, e = .returned (.tuple #[.slice a l.length c, .int .i64 ((p + k : Nat) : Int), .int .i64 0]) ∧ Kept (fun W => Attrs W (.slice a l.length c) l) K w'
theorem rdnRead_nz {l : List UInt8} {x : Int} (h : rdnReadS l = .error x) : x ≠ 0 := by
  have part : ∀ {l : List UInt8} {x : Int}, partReadS l = .error x → x ≠ 0 := fun {l x} h => by
    unfold partReadS at h
    split at h
    · rename_i hx
      cases h
      exact openS_nz hx
    split at h
    · rename_i hx
      cases h
      exact oidRead_nz hx
    split at h
    · rename_i hx
      cases h
      exact oneS_nz hx
    split at h
    · cases h; decide
    · cases h
  have go : ∀ (f : Nat) (out : List Part) (last l : List UInt8) (x : Int), l.length ≤ f → rdnGoS f out last l = .error x → x ≠ 0 := fun f => by
    induction f with
    | zero =>
      intro out last l x hl h
      obtain rfl : l = [] := List.length_eq_zero_iff.1 (by omega)
      simp only [rdnGoS] at h
      split at h
      · cases h; decide
      · cases h
    | succ f ih =>
      intro out last l x hl h
      cases l with
      | nil =>
        simp only [rdnGoS] at h
        split at h
        · cases h; decide
        · cases h
      | cons y t =>
        simp only [rdnGoS] at h
        split at h
        · cases h; decide
        split at h
        · rename_i hx
          cases h
          exact part hx
        rename_i q m hx
        have hb := partRead_back hx
        split at h
        · cases h; decide
        split at h
        · cases h; decide
        exact ih _ _ _ _ (by simp only [List.length_drop, List.length_cons] at hl ⊢; omega) h
  unfold rdnReadS at h
  split at h
  · rename_i hx
    cases h
    exact openS_nz hx
  split at h
  · rename_i hx
    cases h
    exact go _ _ _ _ _ (Nat.le_refl _) hx
  · cases h
set_option maxRecDepth 100000 in
set_option maxHeartbeats 8000000 in
theorem r14ReadStep_any (v : Value) (l : List UInt8) (p : Nat) (K : Nat → Prop) (w : World) (h : Kept (fun W => Bytes W v l) K w) (hK : ∀ k, K k → k < w.heap.size) (hp : p ≤ l.length) (hlm : l.length ≤ 10000000) :
    Calls Tryz.prog 162 #[v, .int .i64 p] w fun e w' => rStepOut K w' p (rdnReadS (l.drop p)) e ∧ Fr (fun _ => False) w w' := by
  have H := Lib.hid h
  have HK := Lib.hid hK
  clear h hK
  go_enter Tryz.func162, Tryz.ntmps162
  go_wp2_with fail
  refine (r02Of_any 17 _).mono ?_
  rintro e w1 ⟨rfl, F1⟩
  have HO := Lib.hid (r02Open_any v l p (tagOf 17) w1 (H.out.old F1).now hp (by omega))
  have HF1 := Lib.hid F1
  clear F1
  go_wp2_with fail
  refine HO.out.mono ?_
  rintro e w2 ⟨hout, F2⟩
  have HF2 := Lib.hid (HF1.out.trans F2)
  clear HO F2 HF1
  unfold rOpenOut at hout
  cases ho : openS (tagOf 17) (l.drop p) with
  | error x =>
    have hx := openS_nz ho
    have hx1 : (x == 0) = false := beq_eq_false_iff_ne.2 hx
    have hx2 : (x != 0) = true := by simpa using hx
    have HP := Lib.hid (rdnRead_e1 ho)
    rw [ho] at hout
    subst hout
    clear ho hx
    go_wp2_with fail
    refine bodyPost_ret (v := .tuple #[.slice none 0 0, .int .i64 p, .int .i64 x]) (by simp [results, Tryz.results162, go_sem]) rfl ⟨?_, HF2.out⟩
    rw [HP.out]
    rfl
  | ok yk =>
    obtain ⟨y, k⟩ := yk
    rw [ho] at hout
    obtain ⟨A, c, rfl, hby⟩ := hout
    obtain ⟨hob1, hob2, hob3, hob4⟩ := open_back ho tag17
    rw [List.length_drop] at hob3
    have hyl : y.length ≤ 10000000 := by omega
    have HP := Lib.hid ho
    have HBY := Lib.hid hby
    obtain ⟨s, hs⟩ : ∃ s, s = p + k := ⟨_, rfl⟩
    rw [← hs]
    have HS := Lib.hid hs
    clear ho hby hs hob1 hob2 hob3 hob4
    go_wp2_with fail
    go_loopg [10, 11, 12] y.length (fun gk u lv pp wr => ∃ (out : List Part) (lst : List UInt8) (q : Nat) (a : Option Addr) (cc : Nat) (al : Option Addr) (nl cl : Nat), gk = y.length - q ∧ q ≤ y.length ∧ out.length ≤ 16 ∧ u = .slice a out.length cc ∧ lv = .slice al nl cl ∧ pp = .int .i64 q ∧ GRow 2 RPart K 107 wr w.heap.size (.slice a out.length cc) out ∧ (∀ W, Bytes W (.slice A y.length c) y → Bytes W (.slice al nl cl) lst) ∧ Fr (fun _ => False) w wr ∧ rdnSt [] [] y = rdnSt out lst (y.drop q))
    case atStart => exact ⟨[], [], 0, none, 0, none, 0, 0, rfl, Nat.zero_le _, by simp, rfl, rfl, rfl, GRow.nil _ _ _ _ _ _, fun W _ => Vals.nil W, HF2.out, rfl⟩
    case round =>
      obtain ⟨out, lst, q, a, cc, al, nl, cl, hgk, hq, ho16, rfl, rfl, rfl, hrow, hlst, hF, hR⟩ := hrel
      have HG := Lib.hid hgk
      have HRW := Lib.hid hrow
      have HLS := Lib.hid hlst
      have HF := Lib.hid hF
      have HR := Lib.hid hR
      have HVX := Lib.hid (fun W (f : Fr (fun _ => False) w W) => HBY.out W (H.out.old f).now)
      clear hgk hrow hlst hF hR HF2
      by_cases hql : q < y.length
      · have q1 : (q : Int) < (y.length : Int) := by omega
        have HLQ := Lib.hid hql
        by_cases h16 : out.length = 16
        · have q3 : ((out.length : Int) == 16) = true := by rw [h16]; rfl
          have q4 : (out.length == 16) = true := by rw [h16]; rfl
          have hr := HR.out
          rw [rdnSt_full (drop_ne hql) h16] at hr
          have HP2 := Lib.hid (rdnRead_e2 HP.out hr)
          clear hr HR HP h16
          go_wp2_with fail
          refine bodyPost_ret (v := .tuple #[.slice none 0 0, .int .i64 p, .int .i64 2]) (by simp [results, Tryz.results162, go_sem]) rfl ⟨?_, HF.out⟩
          rw [HP2.out]
          rfl
        · have q3 : ((out.length : Int) == 16) = false := beq_eq_false_iff_ne.2 (by omega)
          have q4 : (out.length == 16) = false := beq_eq_false_iff_ne.2 h16
          have H16 := Lib.hid h16
          clear h16
          go_wp2_with fail
          refine (r02Of_any 16 _).mono ?_
          rintro e w4 ⟨rfl, F4⟩
          have HF4 := Lib.hid (HF.out.trans F4)
          have HRW4 := Lib.hid (HRW.out.old F4)
          have HO := Lib.hid (r02Open_any _ y q (tagOf 16) w4 (HVX.out _ HF4.out) hq (by omega))
          clear F4 HF HRW
          go_wp2_with fail
          refine HO.out.mono ?_
          rintro e w5 ⟨hout, F5⟩
          have HF5 := Lib.hid (HF4.out.trans F5)
          have HRW5 := Lib.hid (HRW4.out.old F5)
          clear HO F5 HF4 HRW4
          unfold rOpenOut at hout
          cases ho : openS (tagOf 16) (y.drop q) with
          | error x =>
            have hx := openS_nz ho
            have hx1 : (x == 0) = false := beq_eq_false_iff_ne.2 hx
            have hx2 : (x != 0) = true := by simpa using hx
            have hr := HR.out
            rw [rdnSt_err (drop_ne HLQ.out) H16.out (partRead_e1 ho)] at hr
            have HP2 := Lib.hid (rdnRead_e2 HP.out hr)
            rw [ho] at hout
            subst hout
            clear ho hx hr HR HP
            go_wp2_with fail
            refine bodyPost_ret (v := .tuple #[.slice none 0 0, .int .i64 p, .int .i64 x]) (by simp [results, Tryz.results162, go_sem]) rfl ⟨?_, HF5.out⟩
            rw [HP2.out]
            rfl
          | ok zk =>
            obtain ⟨z, m⟩ := zk
            rw [ho] at hout
            obtain ⟨A2, c2, rfl, hbz⟩ := hout
            obtain ⟨hob1, hob2, hob3, hob4⟩ := open_back ho tag16
            rw [List.length_drop] at hob3
            have hzl : z.length ≤ 10000000 := by omega
            have hqm : q + m ≤ y.length := by omega
            have HP1 := Lib.hid ho
            have HBZ := Lib.hid (fun W (f : Fr (fun _ => False) w W) => hbz W (HVX.out W f))
            have HBZK := Lib.hid (fun W (hW : Bytes W v l) => hbz W (HBY.out W hW))
            obtain ⟨s2, hs2⟩ : ∃ s2, s2 = q + m := ⟨_, rfl⟩
            rw [← hs2]
            have HS2 := Lib.hid hs2
            have HM1 := Lib.hid (show 1 ≤ m from by omega)
            have HRO := Lib.hid (r04Read_any _ z 0 w5 (HBZ.out _ HF5.out) (Nat.zero_le _) (by omega))
            rw [List.drop_zero] at HRO
            clear ho hbz hs2 hob1 hob2 hob3 hob4
            go_wp2_with fail
            refine HRO.out.mono ?_
            rintro e w6 ⟨hout, F6⟩
            have HF6 := Lib.hid (HF5.out.trans F6)
            have HRW6 := Lib.hid (HRW5.out.old F6)
            have HK5 := Lib.hid HRW5.out.keep
            have hs5 := HF5.out.size
            have hs6 := F6.size
            clear HRO F6 HF5 HRW5
            unfold rOidOut at hout
            cases hoo : oidReadS z with
            | error x =>
              have hx := oidRead_nz hoo
              have hx1 : (x == 0) = false := beq_eq_false_iff_ne.2 hx
              have hx2 : (x != 0) = true := by simpa using hx
              have hr := HR.out
              rw [rdnSt_err (drop_ne HLQ.out) H16.out (partRead_e2 HP1.out hoo)] at hr
              have HP2 := Lib.hid (rdnRead_e2 HP.out hr)
              rw [hoo] at hout
              subst hout
              clear hoo hx hr HR HP
              go_wp2_with fail
              refine bodyPost_ret (v := .tuple #[.slice none 0 0, .int .i64 p, .int .i64 x]) (by simp [results, Tryz.results162, go_sem]) rfl ⟨?_, HF6.out⟩
              rw [HP2.out]
              rfl
            | ok oq =>
              obtain ⟨o, qz⟩ := oq
              rw [hoo] at hout
              obtain ⟨ao, co, rfl, hown⟩ := hout
              rw [Nat.zero_add]
              obtain ⟨ho1, ho2, ho3, ho4⟩ := oidRead_back hoo
              have HP1b := Lib.hid hoo
              have HOW := Lib.hid hown
              have HRD := Lib.hid (r02Read_any _ z qz w6 (HBZ.out _ HF6.out) ho3 (by omega))
              clear hoo hown ho1 ho2 ho4
              go_wp2_with fail
              refine HRD.out.mono ?_
              rintro e w7 ⟨rfl, F7⟩
              have HF7 := Lib.hid (HF6.out.trans F7)
              have HRW7 := Lib.hid (HRW6.out.old F7)
              have HOW7 := Lib.hid (ownsRow_fr HOW.out F7 (fun _ _ h => h))
              have hs7 := F7.size
              clear HRD F7 HF6 HRW6 HOW
              cases hrd : readS (z.drop qz) with
              | error x =>
                have hx : x ≠ 0 := readS_err hrd
                have hx1 : (x == 0) = false := beq_eq_false_iff_ne.2 hx
                have hx2 : (x != 0) = true := by simpa using hx
                have hr := HR.out
                rw [rdnSt_err (drop_ne HLQ.out) H16.out (partRead_e3 HP1.out HP1b.out (oneE hrd))] at hr
                have HP2 := Lib.hid (rdnRead_e2 HP.out hr)
                rw [show rReadV qz (.error x) = .tuple #[.agg #[.int .i64 0, .int .i64 0, .bool false], .int .i64 0, .int .i64 qz, .int .i64 x] from rfl]
                clear hrd hx hr HR HP
                go_wp2_with fail
                refine bodyPost_ret (v := .tuple #[.slice none 0 0, .int .i64 p, .int .i64 x]) (by simp [results, Tryz.results162, go_sem]) rfl ⟨?_, HF7.out.alloc _⟩
                rw [HP2.out]
                rfl
              | ok tnk =>
                obtain ⟨⟨t1, t2, t3⟩, n, kz⟩ := tnk
                rw [show rReadV qz (.ok (⟨t1, t2, t3⟩, n, kz)) = .tuple #[.agg #[.int .i64 t1, .int .i64 t2, .bool t3], .int .i64 n, .int .i64 ((qz + kz : Nat) : Int), .int .i64 0] from rfl]
                have hkz := (readS_le hrd).1
                have hn16 := (readS_le hrd).2
                rw [List.length_drop] at hkz
                obtain ⟨rz, hrz⟩ : ∃ rz, rz = qz + kz := ⟨_, rfl⟩
                rw [← hrz]
                have hrzl : rz ≤ z.length := by omega
                have F8 : Fr (fun _ => False) w7 (w7.alloc (.cells #[.int .i64 t1, .int .i64 t2, .bool t3] 86)) := (Fr.refl w7).alloc _
                have HF8 := Lib.hid (HF7.out.trans F8)
                have HRW8 := Lib.hid (HRW7.out.old F8)
                have HOW8 := Lib.hid (ownsRow_fr HOW7.out F8 (fun _ _ h => h))
                have hs8 := F8.size
                have HRD := Lib.hid hrd
                have HRZ := Lib.hid hrz
                clear hrd hrz F8 HF7 HRW7 HOW7 hkz
                go_upto_region 17 with fail
                generalize (w7.alloc (.cells #[.int .i64 t1, .int .i64 t2, .bool t3] 86)) = w8 at *
                by_cases h3 : z.length - rz < n
                · have q5 : (z.length : Int) - (rz : Int) < (n : Int) := by omega
                  have hr := HR.out
                  rw [rdnSt_err (drop_ne HLQ.out) H16.out (partRead_e3 HP1.out HP1b.out (oneEnd HRD.out (by rw [List.length_drop]; have := HRZ.out; omega)))] at hr
                  have HP2 := Lib.hid (rdnRead_e2 HP.out hr)
                  clear hr HR HP h3
                  go_wp2_with fail
                  refine bodyPost_ret (v := .tuple #[.slice none 0 0, .int .i64 p, .int .i64 3]) (by simp [results, Tryz.results162, go_sem]) rfl ⟨?_, HF8.out⟩
                  rw [HP2.out]
                  rfl
                · have q5 : ¬ (z.length : Int) - (rz : Int) < (n : Int) := by omega
                  have hpr := partRead_ok HP1.out HP1b.out (oneOk HRD.out (by rw [List.length_drop]; have := HRZ.out; omega))
                  by_cases h7 : n < z.length - rz
                  · have q6 : (n : Int) < (z.length : Int) - (rz : Int) := by omega
                    rw [if_pos (by have := HRZ.out; omega)] at hpr
                    have hr := HR.out
                    rw [rdnSt_err (drop_ne HLQ.out) H16.out hpr] at hr
                    have HP2 := Lib.hid (rdnRead_e2 HP.out hr)
                    clear hr HR HP h3 h7 hpr
                    go_wp2_with fail
                    refine bodyPost_ret (v := .tuple #[.slice none 0 0, .int .i64 p, .int .i64 7]) (by simp [results, Tryz.results162, go_sem]) rfl ⟨?_, HF8.out⟩
                    rw [HP2.out]
                    rfl
                  · have q6 : ¬ (n : Int) < (z.length : Int) - (rz : Int) := by omega
                    rw [if_neg (by have := HRZ.out; omega)] at hpr
                    have hr := HR.out
                    rw [rdnSt_ok H16.out hpr] at hr
                    obtain ⟨one, hone⟩ : ∃ one, one = (y.drop q).take m := ⟨_, rfl⟩
                    rw [← hone, List.drop_drop] at hr
                    have HRR := Lib.hid hr
                    obtain ⟨B1, hsl1, hb1⟩ := bytes_mid (HVX.out _ HF8.out) q m hqm
                    obtain ⟨B2, hsl2, hb2⟩ := bytes_rest (HBZ.out _ HF8.out) qz ho3
                    rw [← hone] at hb1
                    rw [show q + m = s2 from HS2.out.symm] at hsl1 HRR
                    have HB1 := Lib.hid hb1
                    have HB2 := Lib.hid hb2
                    have HSL2 := Lib.hid hsl2
                    have HC := Lib.hid (r01Compare_any _ _ lst one w8 (HLS.out _ (HVX.out _ HF8.out)) (hb1 _ (HVX.out _ HF8.out)))
                    have hways : out.length = 0 ∨ (out.length ≠ 0 ∧ cmpS lst one = 0) ∨ (out.length ≠ 0 ∧ cmpS lst one = 1) ∨ (out.length ≠ 0 ∧ cmpS lst one = -1) := by
                      have := cmpS_three lst one
                      omega
                    have HONE := Lib.hid hone
                    clear hpr hr HR h3 h7 hone hb1 hb2 hsl2
                    rcases hways with h0 | ⟨h0, hc⟩ | ⟨h0, hc⟩ | ⟨h0, hc⟩
                    case inr.inl =>
                      have hrr := HRR.out
                      rw [if_pos ⟨h0, hc⟩] at hrr
                      have HP2 := Lib.hid (rdnRead_e2 HP.out hrr)
                      rw [hc] at HC
                      have q7 : (0 : Int) < (out.length : Int) := by omega
                      have q8 : 0 < out.length := by omega
                      clear hrr HRR hc h0
                      go_wp2_with fail
                      refine HC.out.mono ?_
                      rintro e w9 ⟨rfl, F9⟩
                      have HF9 := Lib.hid (HF8.out.trans F9)
                      clear F9
                      go_wp2_with fail
                      refine bodyPost_ret (v := .tuple #[.slice none 0 0, .int .i64 p, .int .i64 10]) (by simp [results, Tryz.results162, go_sem]) rfl ⟨?_, HF9.out⟩
                      rw [HP2.out]
                      rfl
                    case inr.inr.inl =>
                      have hrr := HRR.out
                      rw [if_neg (by rw [hc]; simp), if_pos ⟨h0, by rw [hc]; decide⟩] at hrr
                      have HP2 := Lib.hid (rdnRead_e2 HP.out hrr)
                      rw [hc] at HC
                      have q7 : (0 : Int) < (out.length : Int) := by omega
                      have q8 : 0 < out.length := by omega
                      clear hrr HRR hc h0
                      go_wp2_with fail
                      refine HC.out.mono ?_
                      rintro e w9 ⟨rfl, F9⟩
                      have HF9 := Lib.hid (HF8.out.trans F9)
                      clear F9
                      go_wp2_with fail
                      refine bodyPost_ret (v := .tuple #[.slice none 0 0, .int .i64 p, .int .i64 9]) (by simp [results, Tryz.results162, go_sem]) rfl ⟨?_, HF9.out⟩
                      rw [HP2.out]
                      rfl
                    case' inl =>
                      have hrr := HRR.out
                      rw [if_neg (fun h => h.1 h0), if_neg (fun h => h.1 h0)] at hrr
                      have HRN := Lib.hid hrr
                      have q7 : ¬ (0 : Int) < (out.length : Int) := by omega
                      have q8 : ¬ 0 < out.length := by omega
                      obtain ⟨w9, hw9⟩ : ∃ w9 : World, w9 = w8 := ⟨_, rfl⟩
                      have F9 : Fr (fun _ => False) w8 w9 := by rw [hw9]; exact Fr.refl _
                      have HF9 := Lib.hid (HF8.out.trans F9)
                      have HRW9 := Lib.hid (HRW8.out.old F9)
                      have HOW9 := Lib.hid (ownsRow_fr HOW8.out F9 (fun _ _ h => h))
                      have hs9 := F9.size
                      clear hrr HRR h0 F9
                      rw [← hw9]
                      clear hw9
                      go_upto_region 30 with fail
                    case' inr.inr.inr =>
                      have hrr := HRR.out
                      rw [if_neg (by rw [hc]; simp), if_neg (by rw [hc]; simp)] at hrr
                      have HRN := Lib.hid hrr
                      rw [hc] at HC
                      have q7 : (0 : Int) < (out.length : Int) := by omega
                      have q8 : 0 < out.length := by omega
                      clear hrr HRR hc h0
                      go_wp2_with fail
                      refine HC.out.mono ?_
                      rintro e w9 ⟨rfl, F9⟩
                      have HF9 := Lib.hid (HF8.out.trans F9)
                      have HRW9 := Lib.hid (HRW8.out.old F9)
                      have HOW9 := Lib.hid (ownsRow_fr HOW8.out F9 (fun _ _ h => h))
                      have hs9 := F9.size
                      clear F9
                      go_upto_region 30 with fail
                    all_goals
                      clear HF8 HRW8 HOW8 HC hsl1
                      have hsl2 := HSL2.out
                      have hk5 := HK5.out
                      have hkk := HK.out
                      have hsb := HF9.out.size
                      obtain ⟨a7, c7, w7', hrun, hrow7, F7', hown7⟩ := GRow.add (s := 92) Tryz.underlying92 info107 rfl (by decide) (by decide) HRW9.out HF9.out.size ((Fr.refl w9).alloc (.cells #[.slice ao o.length co, .slice B2 (z.length - qz) (c2 - qz)] 107)) w9.heap.size [.slice ao o.length co, .slice B2 (z.length - qz) (c2 - qz)] rfl (Blk.new w9 _ _) (by intro u hu; simp at hu; rcases hu with rfl | rfl <;> rfl) ⟨o, z.drop qz⟩ (fun W f => ⟨_, _, rfl, own_kept' HOW9.out (fun k => (Value.slice a out.length cc).ownBlock = some k ∨ K k) (fun k hk => by
                        rcases hk with hk | hk
                        · exact (hk5 k hk).2
                        · have := hkk k hk; omega) W f, HB2.out W (HBZK.out W ((H.out.step (K' := fun k => (Value.slice a out.length cc).ownBlock = some k ∨ K k) HF9.out (fun _ _ h => h.elim) (fun k hk => by
                        rcases hk with hk | hk
                        · exact .inr (hk5 k hk).1
                        · exact .inl hk)) W f))⟩) (by omega)
                      have HF7 := Lib.hid (HF9.out.trans' F7' (fun i hi e => by have := (hk5 i e).1; omega))
                      have HRUN := Lib.hid hrun
                      have HRW7 := Lib.hid hrow7
                      have hs2m : y.length - s2 < y.length - q := by have := HS2.out; have := HM1.out; omega
                      have HSM := Lib.hid hs2m
                      have hs2l : s2 ≤ y.length := by have := HS2.out; omega
                      have ho15 : out.length + 1 ≤ 16 := by have := H16.out; omega
                      clear hrun hrow7 F7' hown7 hk5 hkk HRW9 HOW9 hs2m
                      go_wp2_with (at_builtin; refine wpList_append_run (by rfl) (.tmp 109) (.tmp 115) 92 (by rfl) _ w7' (by exact HRUN.out) ?_)
                      go_roundg (y.length - s2)
                      case measure => rw [HG.out]; exact HSM.out
                      case rel => exact ⟨out ++ [⟨o, z.drop qz⟩], one, s2, a7, c7, _, _, _, rfl, hs2l, by rw [List.length_append]; exact ho15, by rw [List.length_append]; rfl, rfl, rfl, by rw [List.length_append]; exact HRW7.out, HB1.out, HF7.out, HRN.out⟩
      · obtain rfl : q = y.length := by omega
        have q1 : ¬ (y.length : Int) < (y.length : Int) := by omega
        have hr := HR.out
        rw [List.drop_length, rdnSt_end] at hr
        by_cases h0 : out.length = 0
        · have q5 : ((out.length : Int) == 0) = true := by rw [h0]; rfl
          have q6 : (out.length == 0) = true := by rw [h0]; rfl
          rw [if_pos h0] at hr
          have HP2 := Lib.hid (rdnRead_e2 HP.out hr)
          clear hr HR HP h0
          go_wp2_with fail
          refine bodyPost_ret (v := .tuple #[.slice none 0 0, .int .i64 p, .int .i64 6]) (by simp [results, Tryz.results162, go_sem]) rfl ⟨?_, HF.out⟩
          rw [HP2.out]
          rfl
        · have q5 : ((out.length : Int) == 0) = false := beq_eq_false_iff_ne.2 (by omega)
          have q6 : (out.length == 0) = false := beq_eq_false_iff_ne.2 h0
          rw [if_neg h0] at hr
          have HP2 := Lib.hid (rdnRead_ok HP.out hr)
          have HK4 := Lib.hid (HRW.out.kept (by decide) K (fun k hk => ⟨hk, HK.out k hk⟩))
          clear hr HR HP h0
          go_wp2_with fail
          refine bodyPost_ret (v := .tuple #[.slice a out.length cc, .int .i64 s, .int .i64 0]) (by simp [results, Tryz.results162, go_sem]) rfl ⟨?_, HF.out⟩
          rw [HP2.out]
          exact ⟨a, cc, by rw [HS.out], HK4.out.imp (fun W h => h.attrs)⟩
end Go.Proofs.YtacekpdjapgfcaaGreatDoor

namespace Go.Q
open Go Go.RowKit
theorem nameRead_nz {l : List UInt8} {x : Int} (h : nameReadS l = .error x) : x ≠ 0 := by
  have go : ∀ (f : Nat) (out : List (List Part)) (l : List UInt8) (x : Int), l.length ≤ f → nameGoS f out l = .error x → x ≠ 0 := fun f => by
    induction f with
    | zero =>
      intro out l x hl h
      obtain rfl : l = [] := List.length_eq_zero_iff.1 (by omega)
      cases h
    | succ f ih =>
      intro out l x hl h
      cases l with
      | nil => cases h
      | cons y t =>
        simp only [nameGoS] at h
        split at h
        · cases h; decide
        split at h
        · rename_i hx
          cases h
          exact Go.Proofs.YtacekpdjapgfcaaGreatDoor.rdnRead_nz hx
        rename_i q m hx
        have hb := rdnRead_len hx
        exact ih _ _ _ (by simp only [List.length_drop, List.length_cons] at hl ⊢; omega) h
  unfold nameReadS at h
  split at h
  · rename_i hx
    cases h
    exact openS_nz hx
  split at h
  · rename_i hx
    cases h
    exact go _ _ _ _ (Nat.le_refl _) hx
  · cases h
end Go.Q
namespace Go.Proofs.YtacekpdjapgfcaaGreatDoor
open Go Go.RowKit Go.Q
set_option linter.unusedSimpArgs false
def rNameOut (K : Nat → Prop) (w' : World) (p : Nat) (r : Except Int (List (List Part) × Nat)) (e : Ending) : Prop :=
  match r with
  | .error x => e = .returned (.tuple #[.slice none 0 0, .int .i64 p, .int .i64 x])
  | .ok (l, k) => ∃ a c, e = .returned (.tuple #[.slice a l.length c, .int .i64 ((p + k : Nat) : Int), .int .i64 0]) ∧ Kept (fun W => NameAt W (.slice a l.length c) l) K w'
set_option maxRecDepth 20000 in
set_option maxHeartbeats 4000000 in
theorem r14Read_any (v : Value) (l : List UInt8) (p : Nat) (K : Nat → Prop) (w : World) (h : Kept (fun W => Bytes W v l) K w) (hK : ∀ k, K k → k < w.heap.size) (hp : p ≤ l.length) (hlm : l.length ≤ 10000000) :
    Calls Tryz.prog 123 #[v, .int .i64 p] w fun e w' => rNameOut K w' p (nameReadS (l.drop p)) e ∧ Fr (fun _ => False) w w' := by
  have H := Lib.hid h
  have HK := Lib.hid hK
  clear h hK
  go_enter Tryz.func123, Tryz.ntmps123
  go_wp2_with fail
  refine (r02Of_any 16 _).mono ?_
  rintro e w1 ⟨rfl, F1⟩
  have HO := Lib.hid (r02Open_any v l p (tagOf 16) w1 (H.out.old F1).now hp (by omega))
  have HF1 := Lib.hid F1
  clear F1
  go_wp2_with fail
  refine HO.out.mono ?_
  rintro e w2 ⟨hout, F2⟩
  have HF2 := Lib.hid (HF1.out.trans F2)
  clear HO F2 HF1
  unfold rOpenOut at hout
  cases ho : openS (tagOf 16) (l.drop p) with
  | error x =>
    have hx := openS_nz ho
    have hx1 : (x == 0) = false := beq_eq_false_iff_ne.2 hx
    have hx2 : (x != 0) = true := by simpa using hx
    have HP := Lib.hid (nameRead_e1 ho)
    rw [ho] at hout
    subst hout
    clear ho hx
    go_wp2_with fail
    refine bodyPost_ret (v := .tuple #[.slice none 0 0, .int .i64 p, .int .i64 x]) (by simp [results, Tryz.results123, go_sem]) rfl ⟨?_, HF2.out⟩
    rw [HP.out]
    rfl
  | ok yk =>
    obtain ⟨y, k⟩ := yk
    rw [ho] at hout
    obtain ⟨A, c, rfl, hby⟩ := hout
    obtain ⟨hob1, hob2, hob3, hob4⟩ := open_back ho tag16
    rw [List.length_drop] at hob3
    have hyl : y.length ≤ 10000000 := by omega
    have HP := Lib.hid ho
    have HBY := Lib.hid hby
    obtain ⟨s, hs⟩ : ∃ s, s = p + k := ⟨_, rfl⟩
    rw [← hs]
    have HS := Lib.hid hs
    clear ho hby hs hob1 hob2 hob3 hob4
    go_wp2_with fail
    go_loopg [10, 11] y.length (fun gk u pp wr => ∃ (out : List (List Part)) (q : Nat) (a : Option Addr) (cc : Nat), gk = y.length - q ∧ q ≤ y.length ∧ out.length ≤ 64 ∧ u = .slice a out.length cc ∧ pp = .int .i64 q ∧ GRow 1 RStep K 92 wr w.heap.size (.slice a out.length cc) out ∧ Fr (fun _ => False) w wr ∧ nameSt [] y = nameSt out (y.drop q))
    case atStart => exact ⟨[], 0, none, 0, rfl, Nat.zero_le _, by simp, rfl, rfl, GRow.nil _ _ _ _ _ _, HF2.out, rfl⟩
    case round =>
      obtain ⟨out, q, a, cc, hgk, hq, ho64, rfl, rfl, hrow, hF, hR⟩ := hrel
      have HG := Lib.hid hgk
      have HRW := Lib.hid hrow
      have HF := Lib.hid hF
      have HR := Lib.hid hR
      clear hgk hrow hF hR HF2
      by_cases hql : q < y.length
      · have q1 : (q : Int) < (y.length : Int) := by omega
        have HLQ := Lib.hid hql
        by_cases h64 : out.length = 64
        · have q3 : ((out.length : Int) == 64) = true := by rw [h64]; rfl
          have q4 : (out.length == 64) = true := by rw [h64]; rfl
          have hr := HR.out
          rw [nameSt_full (drop_ne hql) h64] at hr
          have HP2 := Lib.hid (nameRead_e2 HP.out hr)
          clear hr HR HP h64
          go_wp2_with fail
          refine bodyPost_ret (v := .tuple #[.slice none 0 0, .int .i64 p, .int .i64 2]) (by simp [results, Tryz.results123, go_sem]) rfl ⟨?_, HF.out⟩
          rw [HP2.out]
          rfl
        · have q3 : ((out.length : Int) == 64) = false := beq_eq_false_iff_ne.2 (by omega)
          have q4 : (out.length == 64) = false := beq_eq_false_iff_ne.2 h64
          have H64 := Lib.hid h64
          have HKE := Lib.hid HRW.out.keep
          have hsf := HF.out.size
          have HSTP := Lib.hid (r14ReadStep_any (.slice A y.length c) y q (fun k => (Value.slice a out.length cc).ownBlock = some k ∨ K k) wr ((H.out.step (K' := fun k => (Value.slice a out.length cc).ownBlock = some k ∨ K k) HF.out (fun _ _ h => h.elim) (fun k hk => by
            rcases hk with hk | hk
            · exact .inr (HKE.out k hk).1
            · exact .inl hk)).imp (fun W hW => HBY.out W hW)) (fun k hk => by
            rcases hk with hk | hk
            · exact (HKE.out k hk).2
            · have := HK.out k hk; omega) hq hyl)
          clear h64
          go_wp2_with fail
          refine HSTP.out.mono ?_
          rintro e w5 ⟨hout, F5⟩
          have HF5 := Lib.hid (HF.out.trans F5)
          have HRW5 := Lib.hid (HRW.out.old F5)
          clear HSTP F5 HF HRW
          unfold rStepOut at hout
          cases ho : rdnReadS (y.drop q) with
          | error x =>
            have hx := rdnRead_nz ho
            have hx1 : (x == 0) = false := beq_eq_false_iff_ne.2 hx
            have hx2 : (x != 0) = true := by simpa using hx
            have hr := HR.out
            rw [nameSt_err (drop_ne HLQ.out) H64.out ho] at hr
            have HP2 := Lib.hid (nameRead_e2 HP.out hr)
            rw [ho] at hout
            subst hout
            clear ho hx hr HR HP
            go_wp2_with fail
            refine bodyPost_ret (v := .tuple #[.slice none 0 0, .int .i64 p, .int .i64 x]) (by simp [results, Tryz.results123, go_sem]) rfl ⟨?_, HF5.out⟩
            rw [HP2.out]
            rfl
          | ok rk =>
            obtain ⟨r, m⟩ := rk
            rw [ho] at hout
            obtain ⟨ar, cr, rfl, hkp⟩ := hout
            obtain ⟨hb1, hb2⟩ := rdnRead_len ho
            rw [List.length_drop] at hb1
            have hr := HR.out
            rw [nameSt_ok H64.out ho, List.drop_drop] at hr
            obtain ⟨s2, hs2⟩ : ∃ s2, s2 = q + m := ⟨_, rfl⟩
            rw [← hs2] at hr ⊢
            have HRN := Lib.hid hr
            have HSM := Lib.hid (show y.length - s2 < y.length - q from by omega)
            have hs2l : s2 ≤ y.length := by omega
            have ho63 : out.length + 1 ≤ 64 := by have := H64.out; omega
            have hk5 := HKE.out
            obtain ⟨a7, c7, w7', hrun, hrow7, F7', hown7⟩ := GRow.add (s := 22) Tryz.underlying22 info92 rfl (by decide) (by decide) HRW5.out HF5.out.size ((Fr.refl w5).alloc (.cells #[.slice ar r.length cr] 92)) w5.heap.size [.slice ar r.length cr] rfl (Blk.new w5 _ _) (by intro u hu; simp at hu; subst hu; rfl) r (fun W f => ⟨_, rfl, hkp W f⟩) (by omega)
            have HF7 := Lib.hid (HF5.out.trans' F7' (fun i hi e => by have := (hk5 i e).1; omega))
            have HRUN := Lib.hid hrun
            have HRW7 := Lib.hid hrow7
            clear ho hr HR hkp hb1 hb2 hs2 hrun hrow7 F7' hown7 hk5 HRW5
            go_wp2_with (at_builtin; refine wpList_append_run (by rfl) (.tmp 46) (.tmp 48) 22 (by rfl) _ w7' (by exact HRUN.out) ?_)
            go_roundg (y.length - s2)
            case measure => rw [HG.out]; exact HSM.out
            case rel => exact ⟨out ++ [r], s2, a7, c7, rfl, hs2l, by rw [List.length_append]; exact ho63, by rw [List.length_append]; rfl, rfl, by rw [List.length_append]; exact HRW7.out, HF7.out, HRN.out⟩
      · obtain rfl : q = y.length := by omega
        have q1 : ¬ (y.length : Int) < (y.length : Int) := by omega
        have hr := HR.out
        rw [List.drop_length] at hr
        have HP2 := Lib.hid (nameRead_ok HP.out (hr.trans rfl))
        have HK4 := Lib.hid (HRW.out.kept (by decide) K (fun k hk => ⟨hk, HK.out k hk⟩))
        clear hr HR HP
        go_wp2_with fail
        refine bodyPost_ret (v := .tuple #[.slice a out.length cc, .int .i64 s, .int .i64 0]) (by simp [results, Tryz.results123, go_sem]) rfl ⟨?_, HF.out⟩
        rw [HP2.out]
        exact ⟨a, cc, by rw [HS.out], HK4.out.imp (fun W h => h.name)⟩
def rParseOut (K : Nat → Prop) (w' : World) (r : Except Int (List (List Part))) (e : Ending) : Prop :=
  match r with
  | .error x => e = .returned (.tuple #[.slice none 0 0, .int .i64 x])
  | .ok l => ∃ a c, e = .returned (.tuple #[.slice a l.length c, .int .i64 0]) ∧ Kept (fun W => NameAt W (.slice a l.length c) l) K w'
set_option maxRecDepth 20000 in
set_option maxHeartbeats 4000000 in
theorem r14Parse_any (v : Value) (l : List UInt8) (K : Nat → Prop) (w : World) (h : Kept (fun W => Bytes W v l) K w) (hK : ∀ k, K k → k < w.heap.size) (hlm : l.length ≤ 10000000) :
    Calls Tryz.prog 75 #[v] w fun e w' => rParseOut K w' (nameParseS l) e ∧ Fr (fun _ => False) w w' := by
  obtain ⟨a0, cap, rfl, -⟩ := h.now.form
  have HN := Lib.hid (r14Read_any _ l 0 K w h hK (Nat.zero_le _) hlm)
  have HPS := Lib.hid (show nameParseS l = match nameReadS l with | .error e => .error e | .ok (n, k) => if k < l.length then .error 7 else .ok n from rfl)
  rw [List.drop_zero] at HN
  clear h hK
  go_enter Tryz.func75, Tryz.ntmps75
  go_wp2_with fail
  refine HN.out.mono ?_
  rintro e w1 ⟨hout, F1⟩
  have HF1 := Lib.hid F1
  clear HN F1
  unfold rNameOut at hout
  cases hr : nameReadS l with
  | error x =>
    have hx := nameRead_nz hr
    have hx1 : (x == 0) = false := beq_eq_false_iff_ne.2 hx
    have hx2 : (x != 0) = true := by simpa using hx
    have hp := HPS.out
    rw [hr] at hp hout
    subst hout
    have HP := Lib.hid hp
    clear hr hx hp HPS
    go_wp2_with fail
    refine bodyPost_ret (v := .tuple #[.slice none 0 0, .int .i64 x]) (by simp [results, Tryz.results75, go_sem]) rfl ⟨?_, HF1.out⟩
    rw [HP.out]
    rfl
  | ok nk =>
    obtain ⟨n, k⟩ := nk
    have hp := HPS.out
    rw [hr] at hp hout
    simp only at hp
    obtain ⟨a, c, rfl, hk⟩ := hout
    have HK := Lib.hid hk
    rw [Nat.zero_add]
    clear hr hk HPS
    by_cases hkl : k < l.length
    · have q1 : (k : Int) < (l.length : Int) := by omega
      rw [if_pos hkl] at hp
      have HP := Lib.hid hp
      clear hp hkl
      go_wp2_with fail
      refine bodyPost_ret (v := .tuple #[.slice none 0 0, .int .i64 7]) (by simp [results, Tryz.results75, go_sem]) rfl ⟨?_, HF1.out⟩
      rw [HP.out]
      rfl
    · have q1 : ¬ (k : Int) < (l.length : Int) := by omega
      rw [if_neg hkl] at hp
      have HP := Lib.hid hp
      clear hp hkl
      go_wp2_with fail
      refine bodyPost_ret (v := .tuple #[.slice a n.length c, .int .i64 0]) (by simp [results, Tryz.results75, go_sem]) rfl ⟨?_, HF1.out⟩
      rw [HP.out]
      exact ⟨a, c, rfl, HK.out⟩
end Go.Proofs.YtacekpdjapgfcaaGreatDoor

namespace Go.Proofs.YtacekpdjapgfcaaGreatDoor
open Go Go.RowKit Go.Q
set_option linter.unusedSimpArgs false
theorem made_any (k : Int) (w : World) :
    Calls Tryz.prog 120 #[.int .i64 k] w fun e w' => e = .returned (.bool (madeG k)) ∧ w = w' := by
  have hk : k = 0 ∨ k = 3 ∨ k = 4 ∨ k = 5 ∨ ((k == 0) = false ∧ (k == 3) = false ∧ (k == 4) = false ∧ (k == 5) = false) := by
    simp only [beq_eq_false_iff_ne]
    omega
  rcases hk with rfl | rfl | rfl | rfl | ⟨h0, h3, h4, h5⟩
  all_goals
    go_enter Tryz.func120, Tryz.ntmps120
    go_wp2_with fail
    go_ret
    first | exact ⟨rfl, rfl⟩ | exact ⟨by simp [madeG, h0, h3, h4, h5], rfl⟩
set_option maxRecDepth 20000 in
theorem headAt_any (k : Int) (m : Bool) (w : World) :
    Calls Tryz.prog 134 #[.int .i64 k, .bool m] w fun e w' => e = .returned (tagV (tagAt k m)) ∧ Fr (fun _ => False) w w' := by
  go_enter Tryz.func134, Tryz.ntmps134
  go_wp2_with fail
  exact bodyPost_ret (v := tagV (tagAt k m)) (by simp [results, Tryz.results134, go_sem, tagV, tagAt]) rfl ⟨rfl, (Fr.refl w).alloc _⟩
set_option maxRecDepth 20000 in
theorem genTag_any (k : Int) (w : World) :
    Calls Tryz.prog 90 #[.int .i64 k] w fun e w' => e = .returned (tagV (genTag k)) ∧ Fr (fun _ => False) w w' := by
  obtain ⟨m, hm⟩ : ∃ m, m = madeG k := ⟨_, rfl⟩
  have HM := Lib.hid (fun w => made_any k w)
  have HG := Lib.hid (show genTag k = tagAt k (madeG k) from rfl)
  rw [← hm] at HM HG
  clear hm
  obtain ⟨z, hz⟩ : ∃ z, z = w.heap.size := ⟨_, rfl⟩
  have HZ := Lib.hid hz
  have B := Blk.new w 97 #[.int .i64 0, .int .i64 0, .bool false]
  have F0 : Fr (fun _ => False) w (w.alloc (.cells #[.int .i64 0, .int .i64 0, .bool false] 97)) := (Fr.refl w).alloc _
  rw [← hz] at B
  clear hz
  go_enter Tryz.func90, Tryz.ntmps90
  go_upto_region 1 with fail
  rw [← HZ.out]
  generalize (w.alloc (.cells #[.int .i64 0, .int .i64 0, .bool false] 97)) = w0 at *
  have HF0 := Lib.hid F0
  clear F0
  go_wp2_with fail
  refine (HM.out w0).mono ?_
  rintro e w1 ⟨rfl, rfl⟩
  go_wp2_with fail
  refine (headAt_any k m w0).mono ?_
  rintro e w1 ⟨rfl, F1⟩
  have BZ := B.fr F1 (fun h => h)
  have HF1 := Lib.hid (HF0.out.trans F1)
  rw [show tagV (tagAt k m) = .agg #[.int .i64 2, .int .i64 k, .bool m] from rfl]
  obtain ⟨BZ5, F5⟩ := set3 BZ (.int .i64 2) (.int .i64 k) (.bool m)
  have z0 := BZ.cell 0
  have z1 := BZ.cell 1
  have z2 := BZ.cell 2
  have f0 := BZ.frozen 0
  have f1 := BZ.frozen 1
  have f2 := BZ.frozen 2
  have n0 := BZ5.cell 0
  have n1 := BZ5.cell 1
  have n2 := BZ5.cell 2
  simp only [List.getElem?_toArray, List.getElem?_cons_succ, List.getElem?_cons_zero] at z0 z1 z2 n0 n1 n2
  have HF5 := Lib.hid (HF1.out.trans' F5 (fun i hi e => by have := HZ.out; omega))
  clear B BZ BZ5 F1 F5
  go_wp2_with fail
  refine bodyPost_ret (v := .agg #[.int .i64 2, .int .i64 k, .bool m]) (by simp [results, Tryz.results90, go_sem, n0, n1, n2]) rfl ⟨?_, HF5.out⟩
  rw [HG.out]
  rfl
theorem plain1_any (c : UInt8) (w : World) :
    Calls Tryz.prog 180 #[.int .u8 c.toNat] w fun e w' => e = .returned (.bool (decide (127 < c.toNat))) ∧ w = w' := by
  have hd : decide ((127 : Int) < (c.toNat : Int)) = decide (127 < c.toNat) := decide_eq_decide.2 (by omega)
  go_enter Tryz.func180, Tryz.ntmps180
  go_wp2_with fail
  go_ret
  exact ⟨by rw [← hd]; rfl, rfl⟩
set_option maxRecDepth 20000 in
set_option maxHeartbeats 1000000 in
theorem indexPlain_any (v : Value) (b : List UInt8) (w : World) (h : Bytes w v b) :
    Calls Tryz.prog 230 #[v, .func (.func 180) #[] #[]] w fun e w' => (∃ x : Int, e = .returned (.int .i64 x) ∧ decide (0 ≤ x) = !(b.all (fun c => decide (c.toNat ≤ 127)))) ∧ w = w' := by
  have H := Lib.hid h
  obtain ⟨a, cap, rfl, hc, hm, -⟩ := h.form
  have hm2 : cap ≤ 9223372036854775807 := by unfold maxLen at hm; omega
  clear h hm
  go_enter Tryz.func230, Tryz.ntmps230
  go_wp2_with fail
  go_loopg [8] b.length (fun g i wr => ∃ j : Nat, g = b.length - j ∧ j ≤ b.length ∧ i = .int .i64 j ∧ (∀ c ∈ b.take j, c.toNat ≤ 127) ∧ wr = w)
  case atStart => exact ⟨0, rfl, Nat.zero_le _, rfl, by simp, rfl⟩
  case round =>
    obtain ⟨j, hg, hj, rfl, hall, rfl⟩ := hrel
    have HG := Lib.hid hg
    have HA := Lib.hid hall
    clear hg hall
    by_cases hjl : j < b.length
    · obtain ⟨a0, c0, he, -, -, hx⟩ := H.out.form
      simp only [Value.slice.injEq, true_and] at he
      obtain ⟨rfl, rfl⟩ := he
      obtain ⟨k, o, rfl, hy⟩ := hx (by omega)
      obtain ⟨c, hc1⟩ : ∃ c, b[j]? = some c := ⟨_, List.getElem?_eq_getElem hjl⟩
      have e1 := hy j c hc1
      have HC := Lib.hid hc1
      have r1 : (0 : Int) ≤ (j : Int) := by omega
      have r2 : (j : Int) < (b.length : Int) := by omega
      clear hx hy hc1
      obtain ⟨d, hd⟩ : ∃ d, d = decide (127 < c.toNat) := ⟨_, rfl⟩
      have HP := Lib.hid (plain1_any c wr)
      rw [← hd] at HP
      have HD := Lib.hid hd
      clear hd
      go_wp2_with fail
      refine HP.out.mono ?_
      rintro e w1 ⟨rfl, rfl⟩
      cases d with
      | true =>
        go_wp2_with fail
        go_ret
        refine ⟨⟨(j : Int), rfl, ?_⟩, rfl⟩
        have h1 := of_decide_eq_true HD.out.symm
        have h2 : b.all (fun c => decide (c.toNat ≤ 127)) = false := by
          rw [List.all_eq_false]
          exact ⟨c, List.mem_of_getElem? HC.out, by simp; omega⟩
        rw [h2, decide_eq_true (by omega)]
        rfl
      | false =>
        have h1 := of_decide_eq_false HD.out.symm
        have HN := Lib.hid (show ∀ x ∈ b.take (j + 1), x.toNat ≤ 127 from fun x hx => by
          rw [List.take_add_one, HC.out] at hx
          rcases List.mem_append.1 hx with h | h
          · exact HA.out x h
          · simp at h
            subst h
            omega)
        clear h1
        go_wp2_with fail
        go_roundg (b.length - (j + 1))
        case measure => rw [HG.out]; omega
        case rel => exact ⟨j + 1, rfl, by omega, by go_num, HN.out, rfl⟩
    · have hall := HA.out
      rw [List.take_of_length_le (by omega)] at hall
      have HN := Lib.hid (show b.all (fun c => decide (c.toNat ≤ 127)) = true from List.all_eq_true.2 fun x hx => decide_eq_true (hall x hx))
      clear hall
      go_wp2_with fail
      go_ret
      exact ⟨⟨-1, rfl, by rw [HN.out]; rfl⟩, rfl⟩
set_option maxRecDepth 20000 in
theorem containsPlain_any (v : Value) (b : List UInt8) (w : World) (h : Bytes w v b) :
    Calls Tryz.prog 179 #[v, .func (.func 180) #[] #[]] w fun e w' => e = .returned (.bool (!(b.all (fun c => decide (c.toNat ≤ 127))))) ∧ w = w' := by
  have HI := Lib.hid (indexPlain_any v b w h)
  clear h
  go_enter Tryz.func179, Tryz.ntmps179
  go_wp2_with fail
  refine HI.out.mono ?_
  rintro e w1 ⟨⟨x, rfl, hx⟩, rfl⟩
  have HX := Lib.hid hx
  clear hx
  go_wp2_with fail
  go_ret
  exact ⟨by rw [← HX.out]; rfl, rfl⟩
set_option maxRecDepth 20000 in
theorem plain_any (v : Value) (b : List UInt8) (w : World) (h : Bytes w v b) :
    Calls Tryz.prog 139 #[v] w fun e w' => e = .returned (.bool (plainB b)) ∧ Fr (fun _ => False) w w' := by
  obtain ⟨a, cap, rfl, -⟩ := h.form
  have HC := Lib.hid (containsPlain_any _ b w h)
  clear h
  have hp : plainB b = (decide (0 < b.length) && b.all (fun c => decide (c.toNat ≤ 127))) := rfl
  have HP := Lib.hid hp
  clear hp
  by_cases h0 : 0 < b.length
  · have q1 : decide ((0 : Int) < (b.length : Int)) = true := decide_eq_true (by omega)
    have q2 : (0 : Int) < (b.length : Int) := by omega
    obtain ⟨d, hd⟩ : ∃ d, d = b.all (fun c => decide (c.toNat ≤ 127)) := ⟨_, rfl⟩
    rw [← hd] at HC HP
    rw [decide_eq_true h0, Bool.true_and] at HP
    clear hd
    cases d
    all_goals
      go_enter Tryz.func139, Tryz.ntmps139
      go_wp2_with fail
      refine HC.out.mono ?_
      rintro e w1 ⟨rfl, rfl⟩
      go_wp2_with fail
      go_ret
      exact ⟨by rw [HP.out]; rfl, Fr.refl _⟩
  · have q1 : decide ((0 : Int) < (b.length : Int)) = false := decide_eq_false (by omega)
    have q2 : ¬ (0 : Int) < (b.length : Int) := by omega
    rw [decide_eq_false h0, Bool.false_and] at HP
    go_enter Tryz.func139, Tryz.ntmps139
    go_wp2_with fail
    go_ret
    exact ⟨by rw [HP.out]; rfl, Fr.refl _⟩
set_option maxRecDepth 20000 in
set_option maxHeartbeats 1000000 in
theorem wholesG_any (v : Value) (l : List UInt8) (w : World) (h : Bytes w v l) (hl : l.length ≤ 1099511627776) :
    Calls Tryz.prog 141 #[v] w fun e w' => e = .returned (.bool (wholesB l)) ∧ Fr (fun _ => False) w w' := by
  have hN := Lib.hid (new_any w v l h hl)
  clear h
  go_enter Tryz.func141, Tryz.ntmps141
  go_wp2_with fail
  refine hN.out.mono ?_
  rintro e w1 ⟨rfl, C1, F1⟩
  have HC := Lib.hid C1
  have HF := Lib.hid F1
  obtain ⟨c, hc⟩ : ∃ c, c = w.heap.size := ⟨_, rfl⟩
  rw [← hc] at HC ⊢
  have HCC := Lib.hid hc
  clear C1 F1 hN hc
  go_wp2_with fail
  refine (wholes_any HC.out).mono ?_
  rintro e w2 ⟨hout, F2⟩
  rw [List.drop_zero] at hout
  have G2 := HF.out.trans' F2 (fun i hi e => absurd hi (by rw [e, HCC.out]; exact Nat.lt_irrefl _))
  unfold wholesOut at hout
  have HG := Lib.hid G2
  clear F2 G2 HF
  cases hr : allS l with
  | error x =>
    rw [hr] at hout
    subst hout
    have hx1 : (x == 0) = false := beq_eq_false_iff_ne.2 (allS_pos hr)
    have hs : wholesB l = false := by unfold wholesB; rw [hr]
    have HS := Lib.hid hs
    clear hs hr
    go_wp2_with fail
    go_ret
    exact ⟨by rw [HS.out]; rfl, HG.out⟩
  | ok ls =>
    rw [hr] at hout
    obtain ⟨a, cap, rfl⟩ := hout
    have hs : wholesB l = decide (0 < ls.length) := by unfold wholesB; rw [hr]
    clear hr
    generalize ls.length = n at *
    have HS := Lib.hid hs
    clear hs
    go_wp2_with fail
    go_ret
    exact ⟨by rw [HS.out]; rfl, HG.out⟩
set_option maxRecDepth 20000 in
set_option maxHeartbeats 1000000 in
theorem genCont_any (k : Int) (v : Value) (b : List UInt8) (w : World) (h : Bytes w v b) (hl : b.length ≤ 1099511627776) :
    Calls Tryz.prog 93 #[.int .i64 k, v] w fun e w' => e = .returned (.bool (contB k b)) ∧ Fr (fun _ => False) w w' := by
  have H := Lib.hid h
  obtain ⟨a, cap, rfl, -⟩ := h.form
  clear h
  have hk : (k = 1 ∨ k = 2 ∨ k = 6) ∨ k = 7 ∨ k = 8 ∨ (k = 0 ∨ k = 3 ∨ k = 5) ∨ ((k == 0) = false ∧ (k == 1) = false ∧ (k == 2) = false ∧ (k == 3) = false ∧ (k == 5) = false ∧ (k == 6) = false ∧ (k == 7) = false ∧ (k == 8) = false) := by
    simp only [beq_eq_false_iff_ne]
    omega
  rcases hk with hk | rfl | rfl | hk | ⟨h0, h1, h2, h3, h5, h6, h7, h8⟩
  · have HC := Lib.hid (show contB k b = plainB b from if_pos hk)
    rcases hk with rfl | rfl | rfl
    all_goals
      go_enter Tryz.func93, Tryz.ntmps93
      go_wp2_with fail
      refine (plain_any _ b w H.out).mono ?_
      rintro e w1 ⟨rfl, F1⟩
      go_wp2_with fail
      go_ret
      exact ⟨by rw [HC.out]; rfl, F1⟩
  · have HC := Lib.hid (show contB 7 b = decide (b.length = 4 ∨ b.length = 16) from rfl)
    rcases Nat.decEq b.length 4 with h4 | h4
    · have q1 : ((b.length : Int) == 4) = false := beq_eq_false_iff_ne.2 (by omega)
      have q2 : (b.length == 4) = false := beq_eq_false_iff_ne.2 h4
      rcases Nat.decEq b.length 16 with h16 | h16
      · have q3 : ((b.length : Int) == 16) = false := beq_eq_false_iff_ne.2 (by omega)
        have q4 : (b.length == 16) = false := beq_eq_false_iff_ne.2 h16
        go_enter Tryz.func93, Tryz.ntmps93
        go_wp2_with fail
        go_ret
        exact ⟨by rw [HC.out, decide_eq_false (by omega)]; rfl, Fr.refl _⟩
      · have q3 : ((b.length : Int) == 16) = true := by rw [h16]; rfl
        have q4 : (b.length == 16) = true := by rw [h16]; rfl
        go_enter Tryz.func93, Tryz.ntmps93
        go_wp2_with fail
        go_ret
        exact ⟨by rw [HC.out, decide_eq_true (by omega)]; rfl, Fr.refl _⟩
    · have q1 : ((b.length : Int) == 4) = true := by rw [h4]; rfl
      have q2 : (b.length == 4) = true := by rw [h4]; rfl
      go_enter Tryz.func93, Tryz.ntmps93
      go_wp2_with fail
      go_ret
      exact ⟨by rw [HC.out, decide_eq_true (by omega)]; rfl, Fr.refl _⟩
  · have HC := Lib.hid (show contB 8 b = oidB b from rfl)
    have HO := Lib.hid (oidParse_any _ b w H.out hl)
    go_enter Tryz.func93, Tryz.ntmps93
    go_wp2_with fail
    refine HO.out.mono ?_
    rintro e w1 ⟨hout, F1⟩
    have HF1 := Lib.hid F1
    clear F1 HO
    unfold oidParseOut at hout
    cases hr : oidParseS b with
    | error x =>
      rw [hr] at hout
      subst hout
      have hx1 : (x == 0) = false := beq_eq_false_iff_ne.2 (oidParse_nz hr)
      have HS := Lib.hid (show oidB b = false by unfold oidB; rw [hr])
      clear hr
      go_wp2_with fail
      go_ret
      exact ⟨by rw [HC.out, HS.out]; rfl, HF1.out⟩
    | ok o =>
      rw [hr] at hout
      obtain ⟨ao, co, rfl, -⟩ := hout
      have HS := Lib.hid (show oidB b = true by unfold oidB; rw [hr])
      clear hr
      go_wp2_with fail
      go_ret
      exact ⟨by rw [HC.out, HS.out]; rfl, HF1.out⟩
  · have HC := Lib.hid (show contB k b = wholesB b by
      unfold contB
      rw [if_neg (by omega), if_neg (by omega), if_neg (by omega), if_pos hk])
    rcases hk with rfl | rfl | rfl
    all_goals
      go_enter Tryz.func93, Tryz.ntmps93
      go_wp2_with fail
      refine (wholesG_any _ b w H.out hl).mono ?_
      rintro e w1 ⟨rfl, F1⟩
      go_wp2_with fail
      go_ret
      exact ⟨by rw [HC.out]; rfl, F1⟩
  · have HC := Lib.hid (show contB k b = false by
      simp only [beq_eq_false_iff_ne] at h0 h1 h2 h3 h5 h6 h7 h8
      unfold contB
      rw [if_neg (by omega), if_neg (by omega), if_neg (by omega), if_neg (by omega)])
    go_enter Tryz.func93, Tryz.ntmps93
    go_wp2_with fail
    go_ret
    exact ⟨by rw [HC.out]; rfl, Fr.refl _⟩
end Go.Proofs.YtacekpdjapgfcaaGreatDoor

namespace Go.Proofs.YtacekpdjapgfcaaGreatDoor
open Go Go.RowKit Go.Q
set_option linter.unusedSimpArgs false
set_option maxRecDepth 20000 in
set_option maxHeartbeats 2000000 in
theorem genRight_any (u : Value) (g : Gen) (w : World) (h : GenAt w u g) (hf : fewG g) :
    Calls Tryz.prog 43 #[u] w fun e w' => e = .returned (.bool (genOk g)) ∧ Fr (fun _ => False) w w' := by
  obtain ⟨ab, cb, an, cn, rfl, hb, hn⟩ := h.form
  obtain ⟨k, b, n⟩ := g
  obtain ⟨f1, f2⟩ := hf
  simp only at hb hn f1 f2 ⊢
  have F0 : Fr (fun _ => False) w (w.alloc (.cells #[.int .i64 k, .slice ab b.length cb, .slice an n.length cn] 42)) := (Fr.refl w).alloc _
  have B := Blk.new w 42 #[.int .i64 k, .slice ab b.length cb, .slice an n.length cn]
  obtain ⟨z, hz⟩ : ∃ z, z = w.heap.size := ⟨_, rfl⟩
  rw [← hz] at B
  have HZ := Lib.hid hz
  have HB := Lib.hid (hb.old F0)
  have HN := Lib.hid (hn.old F0)
  have HF0 := Lib.hid F0
  have HF2 := Lib.hid f2
  have hg : genOk ⟨k, b, n⟩ = if k = 4 then decide (b.length = 0) && nameOk n else decide (n.length = 0) && contB k b := rfl
  have HG := Lib.hid hg
  clear h hb hn hz F0 f2 hg
  go_enter Tryz.func43, Tryz.ntmps43
  go_upto_region 1 with fail
  rw [← HZ.out]
  generalize (w.alloc (.cells #[.int .i64 k, .slice ab b.length cb, .slice an n.length cn] 42)) = w0 at *
  have e0 := B.cell 0
  have e1 := B.cell 1
  have e2 := B.cell 2
  simp only [List.getElem?_toArray, List.getElem?_cons_succ, List.getElem?_cons_zero] at e0 e1 e2
  by_cases h4 : k = 4
  · subst h4
    rw [if_pos rfl] at HG
    by_cases h0 : b.length = 0
    · have q1 : ((b.length : Int) == 0) = true := by rw [h0]; rfl
      have q2 : (b.length == 0) = true := by rw [h0]; rfl
      rw [decide_eq_true h0, Bool.true_and] at HG
      have HR := Lib.hid (right_any _ n w0 HN.out HF2.out)
      clear h0
      go_wp2_with fail
      refine HR.out.mono ?_
      rintro e w1 ⟨rfl, F1⟩
      go_wp2_with fail
      go_ret
      exact ⟨by rw [HG.out]; rfl, HF0.out.trans F1⟩
    · have q1 : ((b.length : Int) == 0) = false := beq_eq_false_iff_ne.2 (by omega)
      have q2 : (b.length == 0) = false := beq_eq_false_iff_ne.2 (by omega)
      rw [decide_eq_false h0, Bool.false_and] at HG
      go_wp2_with fail
      go_ret
      exact ⟨by rw [HG.out]; rfl, HF0.out⟩
  · have k4 : (k == 4) = false := beq_eq_false_iff_ne.2 h4
    rw [if_neg h4] at HG
    by_cases h0 : n.length = 0
    · have q1 : ((n.length : Int) == 0) = true := by rw [h0]; rfl
      have q2 : (n.length == 0) = true := by rw [h0]; rfl
      rw [decide_eq_true h0, Bool.true_and] at HG
      have HC := Lib.hid (genCont_any k _ b w0 HB.out (by omega))
      clear h0
      go_wp2_with fail
      refine HC.out.mono ?_
      rintro e w1 ⟨rfl, F1⟩
      go_wp2_with fail
      go_ret
      exact ⟨by rw [HG.out]; rfl, HF0.out.trans F1⟩
    · have q1 : ((n.length : Int) == 0) = false := beq_eq_false_iff_ne.2 (by omega)
      have q2 : (n.length == 0) = false := beq_eq_false_iff_ne.2 (by omega)
      rw [decide_eq_false h0, Bool.false_and] at HG
      go_wp2_with fail
      go_ret
      exact ⟨by rw [HG.out]; rfl, HF0.out⟩
end Go.Proofs.YtacekpdjapgfcaaGreatDoor

namespace Go.Q
open Go Go.RowKit
abbrev oneN (o : List Int) (v : List UInt8) : List (List Part) := [[⟨o, v⟩]]
end Go.Q

namespace Go.Q
open Go Go.RowKit
def knT1 : List UInt8 := [50, 46, 53, 46, 52, 46, 51, 61, 67, 65]
def knT2 : List UInt8 := [50, 46, 53, 46, 52, 46, 49, 48, 61, 32, 70, 111, 111, 32, 32, 66, 97, 114, 32]
def knT3 : List UInt8 := [50, 46, 53, 46, 52, 46, 51, 61, 99, 97]
def knT4 : List UInt8 := [50, 46, 53, 46, 52, 46, 49, 48, 61, 102, 111, 111, 32, 98, 97, 114]
def knV1 : List UInt8 := wrapS (tagOf 19) ([67, 65])
def knV2 : List UInt8 := wrapS (tagOf 19) ([32, 70, 111, 111, 32, 32, 66, 97, 114, 32])
def knV3 : List UInt8 := wrapS (tagOf 19) ([99, 97])
def knV4 : List UInt8 := wrapS (tagOf 19) ([102, 111, 111, 32, 98, 97, 114])
def knA : List (List Part) := [[⟨[2, 5, 4, 3], knV1⟩], [⟨[2, 5, 4, 10], knV2⟩]]
def knB : List (List Part) := [[⟨[2, 5, 4, 3], knV3⟩], [⟨[2, 5, 4, 10], knV4⟩]]
theorem NameAt.take {w : World} {a : Option Addr} {m cap : Nat} {n : List (List Part)} (h : NameAt w (.slice a m cap) n) (k : Nat) (hk : k ≤ n.length) (cap' : Nat) (hc : k ≤ cap') (hm : cap' ≤ maxLen) : NameAt w (.slice a k cap') (n.take k) := by
  obtain ⟨a0, cap0, he, h1, h2, h3⟩ := h
  simp only [Value.slice.injEq] at he
  obtain ⟨rfl, rfl, rfl⟩ := he
  have hl : (n.take k).length = k := by rw [List.length_take]; omega
  refine ⟨a, cap', by rw [hl], by omega, hm, fun h0 => ?_⟩
  obtain ⟨b, o, rfl, hy⟩ := h3 (by omega)
  refine ⟨b, o, rfl, fun i r hr => hy i r ?_⟩
  rw [List.getElem?_take] at hr
  split at hr
  · exact hr
  · cases hr
end Go.Q

namespace Go.Proofs.YtacekpdjapgfcaaGreatDoor
open Go Go.RowKit Go.Q
end Go.Proofs.YtacekpdjapgfcaaGreatDoor

namespace Go.Q
open Go Go.RowKit
theorem cutName_200 (n : List (List Part)) : ∀ r ∈ cutName n, ∀ p ∈ r, p.b.length ≤ 200 := fun r hr p hp => by
  obtain ⟨q, -, rfl⟩ := List.mem_map.1 hr
  obtain ⟨s, -, rfl⟩ := List.mem_map.1 hp
  show (s.b.take 200).length ≤ 200
  rw [List.length_take]
  omega
theorem whole_part {n : List (List Part)} (h : nameOk n = true) {m : Nat} (hm : (nameWhole n).length ≤ m) : (wholesN n).flatten.length ≤ m ∧ ∀ r ∈ n, ∀ p ∈ r, p.b.length ≤ m := by
  obtain ⟨h1, h2⟩ := name_rdns h
  have h3 : (wholesN n).flatten.length ≤ m := by
    unfold nameWhole at hm
    rw [wrap_len] at hm
    omega
  refine ⟨h3, fun r hr p hp => ?_⟩
  obtain ⟨ws, hws⟩ := Option.isSome_iff_exists.1 (h2 r hr)
  have hmem : rdnWhole ws ∈ wholesN n := by
    unfold wholesN
    rw [List.mem_map]
    exact ⟨r, hr, by rw [hws]; rfl⟩
  have h4 := mem_flat hmem
  obtain ⟨-, -, hg⟩ := rdn_get hws
  obtain ⟨i, hi⟩ := List.mem_iff_getElem?.1 hp
  obtain ⟨x, hx, ha⟩ := hg i p hi
  have h5 := mem_flat (List.mem_of_getElem? hx)
  have h6 : ws.flatten.length ≤ (rdnWhole ws).length := by
    unfold rdnWhole
    rw [wrap_len]
    omega
  have h7 : p.b.length ≤ x.length := by
    unfold attrS at ha
    split at ha
    · simp only [Option.some.injEq] at ha
      subst ha
      rw [wrap_len, List.length_append]
      omega
    · cases ha
  omega
end Go.Q
namespace Go.Proofs.YtacekpdjapgfcaaGreatDoor
open Go Go.RowKit Go.Q
set_option linter.unusedSimpArgs false
end Go.Proofs.YtacekpdjapgfcaaGreatDoor
